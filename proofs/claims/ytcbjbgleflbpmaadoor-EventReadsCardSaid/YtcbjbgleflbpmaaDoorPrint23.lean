-- PRINTED by print.py (a twelfth state) out of the translation. Not trusted: Lean checks it.
import Derived.Test.YtcbjbgleflbpmaaDoorPrint0
import Derived.Test.YtcbjbgleflbpmaaDoorPrint1
import Derived.Test.YtcbjbgleflbpmaaDoorPrint5
import Derived.Test.YtcbjbgleflbpmaaDoorPrint9
import Derived.Test.YtcbjbgleflbpmaaDoorPrint10
import Derived.Test.YtcbjbgleflbpmaaDoorPrint13
import Derived.Test.YtcbjbgleflbpmaaDoorPrint17
import Derived.Test.YtcbjbgleflbpmaaDoorPrint20
import Derived.Test.YtcbjbgleflbpmaaDoorPrint22
namespace Go.Proofs.YtcbjbgleflbpmaaDoor.Print
open Go.RowKit Go.Proofs.YtcbjbgleflbpmaaDoorW.PrintWords Go.Proofs.YtcbjbgleflbpmaaDoorW.PrintLast Go.Proofs.YtcbjbgleflbpmaaDoorW.PrintMore Go.Proofs.YtcbjbgleflbpmaaDoorX
attribute [local go_sem] str_lss str_geq max2_int min2_int max_two min_two max_three min_three max_four min_four   -- for this text's walks alone
set_option linter.unusedVariables false
set_option linter.unusedSimpArgs false

/-! ### palletlaw19_EventReads: function 6 -/
/-- A row of slices made: its block is new. -/
theorem rowed_event {P : Program} {ops : Array Oper} {rest : List Oper} {o : Oper} {a : Act} {Q : Exit → Act → World → Prop} {W : World} (hgd : o.guard = none) {N : Tmp} (_hd : o.dst = some N) {cs : Array Value} {t : TypeId} {n : Nat}
  (hrun : (execOp a.eval o).run P W = .ok (.value (.slice (some ⟨W.heap.size, 0, none⟩) n n)) (W.alloc (.cells cs t (0, 0))))
  (h : ∀ g, g = W.heap.size → ∀ w1, w1.heap[g]? = some (.cells cs t (0, 0)) → Below W.heap.size W w1 → wpList P ops Q rest (a.put o.dst (.slice (some ⟨g, 0, none⟩) n n)) w1) : wpList P ops Q (o :: rest) a W :=
 Kd.event_run hgd hrun (h _ rfl _ (blk_new W _) (below_alloc (Below.refl _ _) _))
attribute [local go_sem high] eqA30
/-! ### palletlaw19_EventReads: function 6 -/
def palletlaw19_EventReads.j0 : Nat → List Int → Bool → Bool → Option (Bool)
 | 0, _, _, _ => none
 | k + 1, x0, x5, x55 => if x55 = true then (none) else ((crc_Seal32.f x0).bind fun bt370 => (if bt370.2 = 0 then ((event_Decode.f k x0).bind fun bt374 => ((palletref19_Decode.f k x0).bind fun bt379 => ((palletref19_Same.f k bt374.1 bt379.1).bind fun t384 => (if t384 = true then (if bt374.2.1 = bt379.2.1 then (if bt374.2.2 = bt379.2.2 then ((event_Decode.f k bt370.1).bind fun bt385 => ((palletref19_Decode.f k bt370.1).bind fun bt390 => ((palletref19_Same.f k bt385.1 bt390.1).bind fun t395 => (if t395 = true then (if bt385.2.1 = bt390.2.1 then (if bt385.2.2 = bt390.2.2 then (some x5) else (none)) else (none)) else (none))))) else (none)) else (none)) else (none))))) else (none)))
def palletlaw19_EventReads.f (k : Nat) (l0 : List Int) (a1 : Int) : Option (Bool) := (palletlaw19_live.f k).bind fun t353 => (if t353 = true then (if (l0.length : Int) > 5000 then (some t353) else ((event_Read.f k l0 a1).bind fun bt354 => ((palletref19_Read.f k l0 a1).bind fun bt362 => (if (!(bt354.1 == bt362.1) || (!(bt354.2.1 == bt362.2.1) || (!(bt354.2.2.1 == bt362.2.2.1) || (!(bt354.2.2.2.1 == bt362.2.2.2.1) || (!(bt354.2.2.2.2.1 == bt362.2.2.2.2.1)))))) = true then (palletlaw19_EventReads.j0 k l0 t353 true) else (if bt354.2.2.2.2.2.1 = bt362.2.2.2.2.2.1 then (palletlaw19_EventReads.j0 k l0 t353 (bt354.2.2.2.2.2.2 != bt362.2.2.2.2.2.2)) else (palletlaw19_EventReads.j0 k l0 t353 true)))))) else (none))
theorem palletlaw19_EventReads.mono_l : ∀ k, (∀ y0 y1 y2, LeO (palletlaw19_EventReads.j0 k y0 y1 y2) (palletlaw19_EventReads.j0 (k + 1) y0 y1 y2))
 | 0 => fun _ _ _ r h => by simp [palletlaw19_EventReads.j0] at h
 | k + 1 => by
  have ih0 := palletlaw19_EventReads.mono_l k
  ·intro y0 y1 y2
   unfold palletlaw19_EventReads.j0
   repeat' first
   | (with_reducible exact ih0 _ _ _)
   | (with_reducible exact event_Decode.mono _ _)
   | (with_reducible exact event_Read.mono _ _ _)
   | (with_reducible exact palletlaw19_live.mono _)
   | (with_reducible exact palletref19_Decode.mono _ _)
   | (with_reducible exact palletref19_Read.mono _ _ _)
   | (with_reducible exact palletref19_Same.mono _ _ _)
   | (with_reducible exact LeO.refl _)
   | (with_reducible exact LeO.none _)
   | (with_reducible refine LeO.ite ?_ ?_)
   | (with_reducible refine LeO.bind ?_ (fun _ => ?_))
   | exact ih0 _ _ _
   | exact event_Decode.mono _ _
   | exact event_Read.mono _ _ _
   | exact palletlaw19_live.mono _
   | exact palletref19_Decode.mono _ _
   | exact palletref19_Read.mono _ _ _
   | exact palletref19_Same.mono _ _ _
   | exact LeO.none _
   | refine LeO.ite ?_ ?_
   | refine LeO.bind ?_ (fun _ => ?_)
theorem palletlaw19_EventReads.mono : ∀ a0 a1 k, LeO (palletlaw19_EventReads.f k a0 a1) (palletlaw19_EventReads.f (k + 1) a0 a1) := by
 intro a0 a1 k
 have ih0 := palletlaw19_EventReads.mono_l k
 unfold palletlaw19_EventReads.f
 repeat' first
   | (with_reducible exact ih0 _ _ _)
   | (with_reducible exact event_Decode.mono _ _)
   | (with_reducible exact event_Read.mono _ _ _)
   | (with_reducible exact palletlaw19_live.mono _)
   | (with_reducible exact palletref19_Decode.mono _ _)
   | (with_reducible exact palletref19_Read.mono _ _ _)
   | (with_reducible exact palletref19_Same.mono _ _ _)
   | (with_reducible exact LeO.refl _)
   | (with_reducible exact LeO.none _)
   | (with_reducible refine LeO.ite ?_ ?_)
   | (with_reducible refine LeO.bind ?_ (fun _ => ?_))
   | exact ih0 _ _ _
   | exact event_Decode.mono _ _
   | exact event_Read.mono _ _ _
   | exact palletlaw19_live.mono _
   | exact palletref19_Decode.mono _ _
   | exact palletref19_Read.mono _ _ _
   | exact palletref19_Same.mono _ _ _
   | exact LeO.none _
   | refine LeO.ite ?_ ?_
   | refine LeO.bind ?_ (fun _ => ?_)
set_option maxHeartbeats 8000000 in
set_option maxRecDepth 100000 in
theorem palletlaw19_EventReads.calls (k : Nat) (A0 : Option Addr) (c0 : Nat) (l0 : List Int) (a1 : Int) (r : Bool) (w : World) (hr0 : Kd.C (Kd.int .u8) w A0 l0.length l0) (hc0 : l0.length ≤ c0) (hr_ : Aside0 (r = true)) (h : palletlaw19_EventReads.f k l0 a1 = some r) :
  Calls Tryd.prog 6 #[.slice A0 l0.length c0, .int .i64 a1] w fun e w' => e = .returned (.bool r) ∧ Below w.heap.size w w' := by
 have hu30 := Tryd.underlying30
 have hu42 := Tryd.underlying42
 have hu26 := Tryd.underlying26
 have HR0 := Aside0.mk hr0
 have HC0 := Aside0.mk hc0
 clear hr0 hc0
 have HB := Aside0.mk (Below.refl w.heap.size w)
 have H : ((palletlaw19_live.f k).bind fun t353 => (if t353 = true then (if (l0.length : Int) > 5000 then (some t353) else ((event_Read.f k l0 a1).bind fun bt354 => ((palletref19_Read.f k l0 a1).bind fun bt362 => (if (!(bt354.1 == bt362.1) || (!(bt354.2.1 == bt362.2.1) || (!(bt354.2.2.1 == bt362.2.2.1) || (!(bt354.2.2.2.1 == bt362.2.2.2.1) || (!(bt354.2.2.2.2.1 == bt362.2.2.2.2.1)))))) = true then (palletlaw19_EventReads.j0 k l0 t353 true) else (if bt354.2.2.2.2.2.1 = bt362.2.2.2.2.2.1 then (palletlaw19_EventReads.j0 k l0 t353 (bt354.2.2.2.2.2.2 != bt362.2.2.2.2.2.2)) else (palletlaw19_EventReads.j0 k l0 t353 true)))))) else (none))) = some r := h
 clear h
 replace H := Option.bind_eq_some_iff.mp H
 obtain ⟨t353, A30, H⟩ := H
 replace H : (if t353 = true then (if (l0.length : Int) > 5000 then (some t353) else ((event_Read.f k l0 a1).bind fun bt354 => ((palletref19_Read.f k l0 a1).bind fun bt362 => (if (!(bt354.1 == bt362.1) || (!(bt354.2.1 == bt362.2.1) || (!(bt354.2.2.1 == bt362.2.2.1) || (!(bt354.2.2.2.1 == bt362.2.2.2.1) || (!(bt354.2.2.2.2.1 == bt362.2.2.2.2.1)))))) = true then (palletlaw19_EventReads.j0 k l0 t353 true) else (if bt354.2.2.2.2.2.1 = bt362.2.2.2.2.2.1 then (palletlaw19_EventReads.j0 k l0 t353 (bt354.2.2.2.2.2.2 != bt362.2.2.2.2.2.2)) else (palletlaw19_EventReads.j0 k l0 t353 true)))))) else (none)) = some r := H
 have A3 := Aside0.mk A30
 clear A30
 by_cases c4 : t353 = true
 ·subst c4
  have H1 : (if (l0.length : Int) > 5000 then (some true) else ((event_Read.f k l0 a1).bind fun bt354 => ((palletref19_Read.f k l0 a1).bind fun bt362 => (if (!(bt354.1 == bt362.1) || (!(bt354.2.1 == bt362.2.1) || (!(bt354.2.2.1 == bt362.2.2.1) || (!(bt354.2.2.2.1 == bt362.2.2.2.1) || (!(bt354.2.2.2.2.1 == bt362.2.2.2.2.1)))))) = true then (palletlaw19_EventReads.j0 k l0 true true) else (if bt354.2.2.2.2.2.1 = bt362.2.2.2.2.2.1 then (palletlaw19_EventReads.j0 k l0 true (bt354.2.2.2.2.2.2 != bt362.2.2.2.2.2.2)) else (palletlaw19_EventReads.j0 k l0 true true)))))) = some r := by rw [if_pos rfl] at H; exact H
  clear H
  have H := H1
  clear H1
  by_cases c5 : (l0.length : Int) > 5000
  ·rw [if_pos c5] at H
   have c5b0 : decide (5000 < (l0.length : Int)) = true := decide_eq_true c5
   have c5b1 : decide (5000 < l0.length) = true := decide_eq_true (by omega)
   clear c5
   obtain rfl := Option.some.inj H
   go_enter Tryd.func6, Tryd.ntmps6
   go_wp2_with (first | ((with_reducible refine gate_callee (f := 10) rfl ?_); refine goesL_ (some 22) rfl rfl Tryd.func10 (by kernel_rfl) rfl #[] rfl (by (try simp only [List.map_toArray, List.map_cons, List.map_nil]); first | done | rfl | (simp only [List.length_drop, List.length_take]; rfl)) ?_; (with_reducible refine (palletlaw19_live.calls k  true _ A3.out).mono ?_); rintro e w6 ⟨rfl, hb⟩; refine ⟨_, rfl, ?_⟩; have n0_ := Aside0.mk (below_step (by repeat (first | (with_reducible first | exact HB.out | apply below_alloc | apply pw_below_drewN | apply below_drew1) | exact HB.out)) hb); clear HB; have HB := n0_; clear n0_; (try clear hb); (try clear hb2); (try clear hk); (try clear hi)))
   go_ret
   exact ⟨by first | rfl | (simp [errW_none, errW_some] <;> rfl) | (simp [*, errW_none, errW_some] <;> rfl), by repeat (first | (with_reducible first | exact HB.out | apply below_alloc | apply pw_below_drewN | apply below_drew1) | exact HB.out)⟩
  ·rw [if_neg c5] at H
   have c5b0 : decide (5000 < (l0.length : Int)) = false := decide_eq_false c5
   have c5b1 : decide (5000 < l0.length) = false := decide_eq_false (by omega)
   clear c5
   replace H := Option.bind_eq_some_iff.mp H
   obtain ⟨⟨t354, t355, t356, t357, t358, t359, t360⟩, A70, H⟩ := H
   replace H : ((palletref19_Read.f k l0 a1).bind fun bt362 => (if (!(t354 == bt362.1) || (!(t355 == bt362.2.1) || (!(t356 == bt362.2.2.1) || (!(t357 == bt362.2.2.2.1) || (!(t358 == bt362.2.2.2.2.1)))))) = true then (palletlaw19_EventReads.j0 k l0 true true) else (if t359 = bt362.2.2.2.2.2.1 then (palletlaw19_EventReads.j0 k l0 true (t360 != bt362.2.2.2.2.2.2)) else (palletlaw19_EventReads.j0 k l0 true true)))) = some r := H
   have A7 := Aside0.mk A70
   clear A70
   replace H := Option.bind_eq_some_iff.mp H
   obtain ⟨⟨t362, t363, t364, t365, t366, t367, t368⟩, A80, H⟩ := H
   replace H : (if (!(t354 == t362) || (!(t355 == t363) || (!(t356 == t364) || (!(t357 == t365) || (!(t358 == t366)))))) = true then (palletlaw19_EventReads.j0 k l0 true true) else (if t359 = t367 then (palletlaw19_EventReads.j0 k l0 true (t360 != t368)) else (palletlaw19_EventReads.j0 k l0 true true))) = some r := H
   have A8 := Aside0.mk A80
   clear A80
   have HC9 := Aside0.mk H
   clear H
   go_enter Tryd.func6, Tryd.ntmps6
   go_upto_region 8 with (first | ((with_reducible refine gate_callee (f := 10) rfl ?_); refine goesL_ (some 22) rfl rfl Tryd.func10 (by kernel_rfl) rfl #[] rfl (by (try simp only [List.map_toArray, List.map_cons, List.map_nil]); first | done | rfl | (simp only [List.length_drop, List.length_take]; rfl)) ?_; (with_reducible refine (palletlaw19_live.calls k  true _ A3.out).mono ?_); rintro e w10 ⟨rfl, hb⟩; refine ⟨_, rfl, ?_⟩; have n0_ := Aside0.mk (below_step (by repeat (first | (with_reducible first | exact HB.out | apply below_alloc | apply pw_below_drewN | apply below_drew1) | exact HB.out)) hb); clear HB; have HB := n0_; clear n0_; (try clear hb); (try clear hb2); (try clear hk); (try clear hi)) | ((with_reducible refine gate_callee (f := 21) rfl ?_); refine goesL_ (some 32) rfl rfl Tryd.func21 (by kernel_rfl) rfl #[.slice A0 l0.length c0, .int .i64 a1] rfl (by (try simp only [List.map_toArray, List.map_cons, List.map_nil]); first | done | rfl | (simp only [List.length_drop, List.length_take]; rfl)) ?_; (with_reducible refine (event_Read.calls k _ _ l0 a1 t354 t355 t356 t357 t358 t359 t360 _ ?side1 ?side2 A7.out).mono ?_); (case side1 => repeat (first | exact (Kd.C_below HR0.out HB.out) | (with_reducible refine Kd.C_alloc ?_ _) | (with_reducible refine Kd.C_drewN ?_ _) | (with_reducible refine Kd.C_drew ?_))); (case side2 => exact HC0.out); rintro e w11 ⟨rfl, hb⟩; refine ⟨_, rfl, ?_⟩; have n0_ := Aside0.mk (below_step (by repeat (first | (with_reducible first | exact HB.out | apply below_alloc | apply pw_below_drewN | apply below_drew1) | exact HB.out)) hb); clear HB; have HB := n0_; clear n0_; (try clear hb); (try clear hb2); (try clear hk); (try clear hi)) | ((with_reducible refine gate_dst (N := 6) rfl ?_); refine box_event ?hg (N := 6) ?hd (cs := #[.int .i64 0, .int .i64 0, .int .i64 0, .int .i64 0, .int .i64 0]) (t := 30) ?hr ?_; (case hd => rfl); (case hg => rfl); (case hr => first | (go_simp; done) | (go_simp; rfl)); intro gb361 hg w12 hbox hb; have n0_ := Aside0.mk (below_step (by repeat (first | (with_reducible first | exact HB.out | apply below_alloc | apply pw_below_drewN | apply below_drew1) | exact HB.out)) hb); have n1_ := Aside0.mk (hbox); have n2_ := Aside0.mk ((by rw [hg]; exact (below_size (by repeat (first | (with_reducible first | exact HB.out | apply below_alloc | apply pw_below_drewN | apply below_drew1) | exact HB.out))) : w.heap.size ≤ gb361)); have n3_ := Aside0.mk ((by rw [hg]; exact (below_size (by repeat (first | (with_reducible first | exact HB.out | apply below_alloc | apply pw_below_drewN | apply below_drew1) | exact HB.out))) : w.heap.size ≤ gb361)); clear HB; have HB := n0_; have BK361 := n1_; have GW361 := n2_; have GE361 := n3_; clear n0_ n1_ n2_ n3_; clear hb hbox hg; have hcz13_0 : w12.cell? ⟨gb361, 0, none⟩ = some (.int .i64 0) := (blk_cell BK361.out 0).trans rfl; have hcz13_1 : w12.cell? ⟨gb361, 1, none⟩ = some (.int .i64 0) := (blk_cell BK361.out 1).trans rfl; have hcz13_2 : w12.cell? ⟨gb361, 2, none⟩ = some (.int .i64 0) := (blk_cell BK361.out 2).trans rfl; have hcz13_3 : w12.cell? ⟨gb361, 3, none⟩ = some (.int .i64 0) := (blk_cell BK361.out 3).trans rfl; have hcz13_4 : w12.cell? ⟨gb361, 4, none⟩ = some (.int .i64 0) := (blk_cell BK361.out 4).trans rfl; have hfz13_0 := blk_frozen BK361.out 0; have hfz13_1 := blk_frozen BK361.out 1; have hfz13_2 := blk_frozen BK361.out 2; have hfz13_3 := blk_frozen BK361.out 3; have hfz13_4 := blk_frozen BK361.out 4) | ((with_reducible refine gate_callee (f := 22) rfl ?_); refine goesL_ (some 39) rfl rfl Tryd.func22 (by kernel_rfl) rfl #[.slice A0 l0.length c0, .int .i64 a1] rfl (by (try simp only [List.map_toArray, List.map_cons, List.map_nil]); first | done | rfl | (simp only [List.length_drop, List.length_take]; rfl)) ?_; (with_reducible refine (palletref19_Read.calls k _ _ l0 a1 t362 t363 t364 t365 t366 t367 t368 _ ?side1 ?side2 A8.out).mono ?_); (case side1 => exact Kd.C_below HR0.out (by repeat (first | (with_reducible first | exact HB.out | apply below_alloc | apply pw_below_drewN | apply below_drew1 | refine below_set ?_ GE361.out) | exact HB.out))); (case side2 => exact HC0.out); rintro e w14 ⟨rfl, hb⟩; refine ⟨_, rfl, ?_⟩; have n0_ := Aside0.mk (blk_below (g := gb361) (o := .cells #[.int .i64 t354, .int .i64 t355, .int .i64 t356, .int .i64 t357, .int .i64 t358] 30 (0, 0)) (by (with_reducible repeat (first | refine blk_drewN ?_ _ | refine blk_drew ?_ | refine blk_alloc ?_ _)); refine blk_put (cs := #[.int .i64 t354, .int .i64 t355, .int .i64 t356, .int .i64 t357, .int .i64 0]) ?_ 4 _ rfl; (with_reducible repeat (first | refine blk_drewN ?_ _ | refine blk_drew ?_ | refine blk_alloc ?_ _)); refine blk_put (cs := #[.int .i64 t354, .int .i64 t355, .int .i64 t356, .int .i64 0, .int .i64 0]) ?_ 3 _ rfl; (with_reducible repeat (first | refine blk_drewN ?_ _ | refine blk_drew ?_ | refine blk_alloc ?_ _)); refine blk_put (cs := #[.int .i64 t354, .int .i64 t355, .int .i64 0, .int .i64 0, .int .i64 0]) ?_ 2 _ rfl; (with_reducible repeat (first | refine blk_drewN ?_ _ | refine blk_drew ?_ | refine blk_alloc ?_ _)); refine blk_put (cs := #[.int .i64 t354, .int .i64 0, .int .i64 0, .int .i64 0, .int .i64 0]) ?_ 1 _ rfl; (with_reducible repeat (first | refine blk_drewN ?_ _ | refine blk_drew ?_ | refine blk_alloc ?_ _)); refine blk_put (cs := #[.int .i64 0, .int .i64 0, .int .i64 0, .int .i64 0, .int .i64 0]) ?_ 0 _ rfl; (with_reducible repeat (first | refine blk_drewN ?_ _ | refine blk_drew ?_ | refine blk_alloc ?_ _)); exact BK361.out) hb); have n1_ := Aside0.mk (below_step (by repeat (first | (with_reducible first | exact HB.out | apply below_alloc | apply pw_below_drewN | apply below_drew1 | refine below_set ?_ GE361.out) | exact HB.out)) hb); clear BK361; clear HB; have BK361 := n0_; have HB := n1_; clear n0_ n1_; (try clear hb); (try clear hb2); (try clear hk); (try clear hi)) | ((with_reducible refine gate_dst (N := 9) rfl ?_); refine box_event ?hg (N := 9) ?hd (cs := #[.int .i64 0, .int .i64 0, .int .i64 0, .int .i64 0, .int .i64 0]) (t := 30) ?hr ?_; (case hd => rfl); (case hg => rfl); (case hr => first | (go_simp; done) | (go_simp; rfl)); intro gb369 hg w15 hbox hb; have n0_ := Aside0.mk (blk_below (g := gb361) (o := .cells #[.int .i64 t354, .int .i64 t355, .int .i64 t356, .int .i64 t357, .int .i64 t358] 30 (0, 0)) (by (with_reducible repeat (first | refine blk_drewN ?_ _ | refine blk_drew ?_ | refine blk_alloc ?_ _)); exact BK361.out) hb); have n1_ := Aside0.mk (below_step (by repeat (first | (with_reducible first | exact HB.out | apply below_alloc | apply pw_below_drewN | apply below_drew1 | refine below_set ?_ GE361.out) | exact HB.out)) hb); have n2_ := Aside0.mk (hbox); have n3_ := Aside0.mk ((by rw [hg]; exact (below_size (by repeat (first | (with_reducible first | exact HB.out | apply below_alloc | apply pw_below_drewN | apply below_drew1 | refine below_set ?_ GE361.out) | exact HB.out))) : w.heap.size ≤ gb369)); have n4_ := Aside0.mk ((by rw [hg]; exact (below_size (by repeat (first | (with_reducible first | exact HB.out | apply below_alloc | apply pw_below_drewN | apply below_drew1 | refine below_set ?_ GE361.out) | exact HB.out))) : w.heap.size ≤ gb369)); have n5_ := Aside0.mk ((by rw [hg]; exact Nat.ne_of_lt (blk_lt (g := gb361) (o := .cells #[.int .i64 t354, .int .i64 t355, .int .i64 t356, .int .i64 t357, .int .i64 t358] 30 (0, 0)) (by (with_reducible repeat (first | refine blk_drewN ?_ _ | refine blk_drew ?_ | refine blk_alloc ?_ _)); exact BK361.out)) : gb361 ≠ gb369)); have n6_ := Aside0.mk ((by rw [hg]; exact Nat.ne_of_gt (blk_lt (g := gb361) (o := .cells #[.int .i64 t354, .int .i64 t355, .int .i64 t356, .int .i64 t357, .int .i64 t358] 30 (0, 0)) (by (with_reducible repeat (first | refine blk_drewN ?_ _ | refine blk_drew ?_ | refine blk_alloc ?_ _)); exact BK361.out)) : gb369 ≠ gb361)); clear BK361; clear HB; have BK361 := n0_; have HB := n1_; have BK369 := n2_; have GW369 := n3_; have GE369 := n4_; have NB361_369 := n5_; have NB369_361 := n6_; clear n0_ n1_ n2_ n3_ n4_ n5_ n6_; clear hb hbox hg; have hnb16 := NB369_361.out; have hnc16 := NB361_369.out; have hcz17_0 : w15.cell? ⟨gb369, 0, none⟩ = some (.int .i64 0) := (blk_cell BK369.out 0).trans rfl; have hcz17_1 : w15.cell? ⟨gb369, 1, none⟩ = some (.int .i64 0) := (blk_cell BK369.out 1).trans rfl; have hcz17_2 : w15.cell? ⟨gb369, 2, none⟩ = some (.int .i64 0) := (blk_cell BK369.out 2).trans rfl; have hcz17_3 : w15.cell? ⟨gb369, 3, none⟩ = some (.int .i64 0) := (blk_cell BK369.out 3).trans rfl; have hcz17_4 : w15.cell? ⟨gb369, 4, none⟩ = some (.int .i64 0) := (blk_cell BK369.out 4).trans rfl; have hfz17_0 := blk_frozen BK369.out 0; have hfz17_1 := blk_frozen BK369.out 1; have hfz17_2 := blk_frozen BK369.out 2; have hfz17_3 := blk_frozen BK369.out 3; have hfz17_4 := blk_frozen BK369.out 4))
   (try simp only [Act.put, List.setIfInBounds_toArray, List.set_cons_zero, List.set_cons_succ])
   go_cut [55] (fun v55 wc => ∃ (kq : Nat) (x55_8 : Bool), v55 = .bool x55_8 ∧ Aside0 (palletlaw19_EventReads.j0 kq l0 true x55_8 = some r) ∧ Aside0 (kq ≤ k) ∧ Aside0 (wc.heap[gb361]? = some (.cells #[.int .i64 t354, .int .i64 t355, .int .i64 t356, .int .i64 t357, .int .i64 t358] 30 (0, 0))) ∧ Aside0 (wc.heap[gb369]? = some (.cells #[.int .i64 t362, .int .i64 t363, .int .i64 t364, .int .i64 t365, .int .i64 t366] 30 (0, 0))) ∧ Aside0 (Below w.heap.size w wc))
   case first =>
    have H := HC9.out
    clear HC9
    by_cases c18 : (!(t354 == t362) || (!(t355 == t363) || (!(t356 == t364) || (!(t357 == t365) || (!(t358 == t366)))))) = true
    ·rw [if_pos c18] at H
     have c18b0 : (!(t354 == t362) || (!(t355 == t363) || (!(t356 == t364) || (!(t357 == t365) || (!(t358 == t366)))))) = true := c18
     clear c18
     (first | rw [c18b0] | (simp only [i64_w, i32_w]; rw [c18b0]) | skip)
     have H' := Aside0.mk H
     clear H
     have hnb19 := NB361_369.out
     have hnc19 := NB369_361.out
     have hcz20_0 : w15.cell? ⟨gb361, 0, none⟩ = some (.int .i64 t354) := (blk_cell BK361.out 0).trans rfl
     have hcz20_1 : w15.cell? ⟨gb361, 1, none⟩ = some (.int .i64 t355) := (blk_cell BK361.out 1).trans rfl
     have hcz20_2 : w15.cell? ⟨gb361, 2, none⟩ = some (.int .i64 t356) := (blk_cell BK361.out 2).trans rfl
     have hcz20_3 : w15.cell? ⟨gb361, 3, none⟩ = some (.int .i64 t357) := (blk_cell BK361.out 3).trans rfl
     have hcz20_4 : w15.cell? ⟨gb361, 4, none⟩ = some (.int .i64 t358) := (blk_cell BK361.out 4).trans rfl
     have hfz20_0 := blk_frozen BK361.out 0
     have hfz20_1 := blk_frozen BK361.out 1
     have hfz20_2 := blk_frozen BK361.out 2
     have hfz20_3 := blk_frozen BK361.out 3
     have hfz20_4 := blk_frozen BK361.out 4
     have hcz21_0 : w15.cell? ⟨gb369, 0, none⟩ = some (.int .i64 0) := (blk_cell BK369.out 0).trans rfl
     have hcz21_1 : w15.cell? ⟨gb369, 1, none⟩ = some (.int .i64 0) := (blk_cell BK369.out 1).trans rfl
     have hcz21_2 : w15.cell? ⟨gb369, 2, none⟩ = some (.int .i64 0) := (blk_cell BK369.out 2).trans rfl
     have hcz21_3 : w15.cell? ⟨gb369, 3, none⟩ = some (.int .i64 0) := (blk_cell BK369.out 3).trans rfl
     have hcz21_4 : w15.cell? ⟨gb369, 4, none⟩ = some (.int .i64 0) := (blk_cell BK369.out 4).trans rfl
     have hfz21_0 := blk_frozen BK369.out 0
     have hfz21_1 := blk_frozen BK369.out 1
     have hfz21_2 := blk_frozen BK369.out 2
     have hfz21_3 := blk_frozen BK369.out 3
     have hfz21_4 := blk_frozen BK369.out 4
     go_wp2
     go_meet
     case rel => exact ⟨_, (true), (by first | rfl | (simp; done) | (simp [*]; done)), H', ⟨by first | omega | exact Nat.le_refl _⟩, ⟨by (with_reducible repeat (first | refine blk_drewN ?_ _ | refine blk_drew ?_ | refine blk_alloc ?_ _)); refine blk_far ?_ NB361_369.out _; (with_reducible repeat (first | refine blk_drewN ?_ _ | refine blk_drew ?_ | refine blk_alloc ?_ _)); refine blk_far ?_ NB361_369.out _; (with_reducible repeat (first | refine blk_drewN ?_ _ | refine blk_drew ?_ | refine blk_alloc ?_ _)); refine blk_far ?_ NB361_369.out _; (with_reducible repeat (first | refine blk_drewN ?_ _ | refine blk_drew ?_ | refine blk_alloc ?_ _)); refine blk_far ?_ NB361_369.out _; (with_reducible repeat (first | refine blk_drewN ?_ _ | refine blk_drew ?_ | refine blk_alloc ?_ _)); refine blk_far ?_ NB361_369.out _; (with_reducible repeat (first | refine blk_drewN ?_ _ | refine blk_drew ?_ | refine blk_alloc ?_ _)); exact BK361.out⟩, ⟨by (with_reducible repeat (first | refine blk_drewN ?_ _ | refine blk_drew ?_ | refine blk_alloc ?_ _)); refine blk_put (cs := #[.int .i64 t362, .int .i64 t363, .int .i64 t364, .int .i64 t365, .int .i64 0]) ?_ 4 _ rfl; (with_reducible repeat (first | refine blk_drewN ?_ _ | refine blk_drew ?_ | refine blk_alloc ?_ _)); refine blk_put (cs := #[.int .i64 t362, .int .i64 t363, .int .i64 t364, .int .i64 0, .int .i64 0]) ?_ 3 _ rfl; (with_reducible repeat (first | refine blk_drewN ?_ _ | refine blk_drew ?_ | refine blk_alloc ?_ _)); refine blk_put (cs := #[.int .i64 t362, .int .i64 t363, .int .i64 0, .int .i64 0, .int .i64 0]) ?_ 2 _ rfl; (with_reducible repeat (first | refine blk_drewN ?_ _ | refine blk_drew ?_ | refine blk_alloc ?_ _)); refine blk_put (cs := #[.int .i64 t362, .int .i64 0, .int .i64 0, .int .i64 0, .int .i64 0]) ?_ 1 _ rfl; (with_reducible repeat (first | refine blk_drewN ?_ _ | refine blk_drew ?_ | refine blk_alloc ?_ _)); refine blk_put (cs := #[.int .i64 0, .int .i64 0, .int .i64 0, .int .i64 0, .int .i64 0]) ?_ 0 _ rfl; (with_reducible repeat (first | refine blk_drewN ?_ _ | refine blk_drew ?_ | refine blk_alloc ?_ _)); exact BK369.out⟩, ⟨by repeat (first | (with_reducible first | exact HB.out | apply below_alloc | apply pw_below_drewN | apply below_drew1 | refine below_set ?_ GE361.out | refine below_set ?_ GE369.out) | exact HB.out)⟩⟩
    ·rw [if_neg c18] at H
     have c18b0 : (!(t354 == t362) || (!(t355 == t363) || (!(t356 == t364) || (!(t357 == t365) || (!(t358 == t366)))))) = false := by simpa using c18
     clear c18
     (first | rw [c18b0] | (simp only [i64_w, i32_w]; rw [c18b0]) | skip)
     by_cases c22 : t359 = t367
     ·rw [if_pos c22] at H
      have c22b0 : (t359 == t367) = true := beq_iff_eq.mpr c22
      have c22b1 : (t359 != t367) = false := bne_eq_false_iff_eq.mpr c22
      clear c22
      have H' := Aside0.mk H
      clear H
      have hnb23 := NB361_369.out
      have hnc23 := NB369_361.out
      have hcz24_0 : w15.cell? ⟨gb361, 0, none⟩ = some (.int .i64 t354) := (blk_cell BK361.out 0).trans rfl
      have hcz24_1 : w15.cell? ⟨gb361, 1, none⟩ = some (.int .i64 t355) := (blk_cell BK361.out 1).trans rfl
      have hcz24_2 : w15.cell? ⟨gb361, 2, none⟩ = some (.int .i64 t356) := (blk_cell BK361.out 2).trans rfl
      have hcz24_3 : w15.cell? ⟨gb361, 3, none⟩ = some (.int .i64 t357) := (blk_cell BK361.out 3).trans rfl
      have hcz24_4 : w15.cell? ⟨gb361, 4, none⟩ = some (.int .i64 t358) := (blk_cell BK361.out 4).trans rfl
      have hfz24_0 := blk_frozen BK361.out 0
      have hfz24_1 := blk_frozen BK361.out 1
      have hfz24_2 := blk_frozen BK361.out 2
      have hfz24_3 := blk_frozen BK361.out 3
      have hfz24_4 := blk_frozen BK361.out 4
      have hcz25_0 : w15.cell? ⟨gb369, 0, none⟩ = some (.int .i64 0) := (blk_cell BK369.out 0).trans rfl
      have hcz25_1 : w15.cell? ⟨gb369, 1, none⟩ = some (.int .i64 0) := (blk_cell BK369.out 1).trans rfl
      have hcz25_2 : w15.cell? ⟨gb369, 2, none⟩ = some (.int .i64 0) := (blk_cell BK369.out 2).trans rfl
      have hcz25_3 : w15.cell? ⟨gb369, 3, none⟩ = some (.int .i64 0) := (blk_cell BK369.out 3).trans rfl
      have hcz25_4 : w15.cell? ⟨gb369, 4, none⟩ = some (.int .i64 0) := (blk_cell BK369.out 4).trans rfl
      have hfz25_0 := blk_frozen BK369.out 0
      have hfz25_1 := blk_frozen BK369.out 1
      have hfz25_2 := blk_frozen BK369.out 2
      have hfz25_3 := blk_frozen BK369.out 3
      have hfz25_4 := blk_frozen BK369.out 4
      go_wp2
      go_meet
      case rel => exact ⟨_, ((t360 != t368)), (by first | rfl | (simp; done) | (simp [*]; done)), H', ⟨by first | omega | exact Nat.le_refl _⟩, ⟨by (with_reducible repeat (first | refine blk_drewN ?_ _ | refine blk_drew ?_ | refine blk_alloc ?_ _)); refine blk_far ?_ NB361_369.out _; (with_reducible repeat (first | refine blk_drewN ?_ _ | refine blk_drew ?_ | refine blk_alloc ?_ _)); refine blk_far ?_ NB361_369.out _; (with_reducible repeat (first | refine blk_drewN ?_ _ | refine blk_drew ?_ | refine blk_alloc ?_ _)); refine blk_far ?_ NB361_369.out _; (with_reducible repeat (first | refine blk_drewN ?_ _ | refine blk_drew ?_ | refine blk_alloc ?_ _)); refine blk_far ?_ NB361_369.out _; (with_reducible repeat (first | refine blk_drewN ?_ _ | refine blk_drew ?_ | refine blk_alloc ?_ _)); refine blk_far ?_ NB361_369.out _; (with_reducible repeat (first | refine blk_drewN ?_ _ | refine blk_drew ?_ | refine blk_alloc ?_ _)); exact BK361.out⟩, ⟨by (with_reducible repeat (first | refine blk_drewN ?_ _ | refine blk_drew ?_ | refine blk_alloc ?_ _)); refine blk_put (cs := #[.int .i64 t362, .int .i64 t363, .int .i64 t364, .int .i64 t365, .int .i64 0]) ?_ 4 _ rfl; (with_reducible repeat (first | refine blk_drewN ?_ _ | refine blk_drew ?_ | refine blk_alloc ?_ _)); refine blk_put (cs := #[.int .i64 t362, .int .i64 t363, .int .i64 t364, .int .i64 0, .int .i64 0]) ?_ 3 _ rfl; (with_reducible repeat (first | refine blk_drewN ?_ _ | refine blk_drew ?_ | refine blk_alloc ?_ _)); refine blk_put (cs := #[.int .i64 t362, .int .i64 t363, .int .i64 0, .int .i64 0, .int .i64 0]) ?_ 2 _ rfl; (with_reducible repeat (first | refine blk_drewN ?_ _ | refine blk_drew ?_ | refine blk_alloc ?_ _)); refine blk_put (cs := #[.int .i64 t362, .int .i64 0, .int .i64 0, .int .i64 0, .int .i64 0]) ?_ 1 _ rfl; (with_reducible repeat (first | refine blk_drewN ?_ _ | refine blk_drew ?_ | refine blk_alloc ?_ _)); refine blk_put (cs := #[.int .i64 0, .int .i64 0, .int .i64 0, .int .i64 0, .int .i64 0]) ?_ 0 _ rfl; (with_reducible repeat (first | refine blk_drewN ?_ _ | refine blk_drew ?_ | refine blk_alloc ?_ _)); exact BK369.out⟩, ⟨by repeat (first | (with_reducible first | exact HB.out | apply below_alloc | apply pw_below_drewN | apply below_drew1 | refine below_set ?_ GE361.out | refine below_set ?_ GE369.out) | exact HB.out)⟩⟩
     ·rw [if_neg c22] at H
      have c22b0 : (t359 == t367) = false := beq_eq_false_iff_ne.mpr c22
      have c22b1 : (t359 != t367) = true := bne_iff_ne.mpr c22
      have H' := Aside0.mk H
      clear H
      have hnb26 := NB361_369.out
      have hnc26 := NB369_361.out
      have hcz27_0 : w15.cell? ⟨gb361, 0, none⟩ = some (.int .i64 t354) := (blk_cell BK361.out 0).trans rfl
      have hcz27_1 : w15.cell? ⟨gb361, 1, none⟩ = some (.int .i64 t355) := (blk_cell BK361.out 1).trans rfl
      have hcz27_2 : w15.cell? ⟨gb361, 2, none⟩ = some (.int .i64 t356) := (blk_cell BK361.out 2).trans rfl
      have hcz27_3 : w15.cell? ⟨gb361, 3, none⟩ = some (.int .i64 t357) := (blk_cell BK361.out 3).trans rfl
      have hcz27_4 : w15.cell? ⟨gb361, 4, none⟩ = some (.int .i64 t358) := (blk_cell BK361.out 4).trans rfl
      have hfz27_0 := blk_frozen BK361.out 0
      have hfz27_1 := blk_frozen BK361.out 1
      have hfz27_2 := blk_frozen BK361.out 2
      have hfz27_3 := blk_frozen BK361.out 3
      have hfz27_4 := blk_frozen BK361.out 4
      have hcz28_0 : w15.cell? ⟨gb369, 0, none⟩ = some (.int .i64 0) := (blk_cell BK369.out 0).trans rfl
      have hcz28_1 : w15.cell? ⟨gb369, 1, none⟩ = some (.int .i64 0) := (blk_cell BK369.out 1).trans rfl
      have hcz28_2 : w15.cell? ⟨gb369, 2, none⟩ = some (.int .i64 0) := (blk_cell BK369.out 2).trans rfl
      have hcz28_3 : w15.cell? ⟨gb369, 3, none⟩ = some (.int .i64 0) := (blk_cell BK369.out 3).trans rfl
      have hcz28_4 : w15.cell? ⟨gb369, 4, none⟩ = some (.int .i64 0) := (blk_cell BK369.out 4).trans rfl
      have hfz28_0 := blk_frozen BK369.out 0
      have hfz28_1 := blk_frozen BK369.out 1
      have hfz28_2 := blk_frozen BK369.out 2
      have hfz28_3 := blk_frozen BK369.out 3
      have hfz28_4 := blk_frozen BK369.out 4
      go_wp2
      go_meet
      case rel => exact ⟨_, (true), (by first | rfl | (simp; done) | (simp [*]; done)), H', ⟨by first | omega | exact Nat.le_refl _⟩, ⟨by (with_reducible repeat (first | refine blk_drewN ?_ _ | refine blk_drew ?_ | refine blk_alloc ?_ _)); refine blk_far ?_ NB361_369.out _; (with_reducible repeat (first | refine blk_drewN ?_ _ | refine blk_drew ?_ | refine blk_alloc ?_ _)); refine blk_far ?_ NB361_369.out _; (with_reducible repeat (first | refine blk_drewN ?_ _ | refine blk_drew ?_ | refine blk_alloc ?_ _)); refine blk_far ?_ NB361_369.out _; (with_reducible repeat (first | refine blk_drewN ?_ _ | refine blk_drew ?_ | refine blk_alloc ?_ _)); refine blk_far ?_ NB361_369.out _; (with_reducible repeat (first | refine blk_drewN ?_ _ | refine blk_drew ?_ | refine blk_alloc ?_ _)); refine blk_far ?_ NB361_369.out _; (with_reducible repeat (first | refine blk_drewN ?_ _ | refine blk_drew ?_ | refine blk_alloc ?_ _)); exact BK361.out⟩, ⟨by (with_reducible repeat (first | refine blk_drewN ?_ _ | refine blk_drew ?_ | refine blk_alloc ?_ _)); refine blk_put (cs := #[.int .i64 t362, .int .i64 t363, .int .i64 t364, .int .i64 t365, .int .i64 0]) ?_ 4 _ rfl; (with_reducible repeat (first | refine blk_drewN ?_ _ | refine blk_drew ?_ | refine blk_alloc ?_ _)); refine blk_put (cs := #[.int .i64 t362, .int .i64 t363, .int .i64 t364, .int .i64 0, .int .i64 0]) ?_ 3 _ rfl; (with_reducible repeat (first | refine blk_drewN ?_ _ | refine blk_drew ?_ | refine blk_alloc ?_ _)); refine blk_put (cs := #[.int .i64 t362, .int .i64 t363, .int .i64 0, .int .i64 0, .int .i64 0]) ?_ 2 _ rfl; (with_reducible repeat (first | refine blk_drewN ?_ _ | refine blk_drew ?_ | refine blk_alloc ?_ _)); refine blk_put (cs := #[.int .i64 t362, .int .i64 0, .int .i64 0, .int .i64 0, .int .i64 0]) ?_ 1 _ rfl; (with_reducible repeat (first | refine blk_drewN ?_ _ | refine blk_drew ?_ | refine blk_alloc ?_ _)); refine blk_put (cs := #[.int .i64 0, .int .i64 0, .int .i64 0, .int .i64 0, .int .i64 0]) ?_ 0 _ rfl; (with_reducible repeat (first | refine blk_drewN ?_ _ | refine blk_drew ?_ | refine blk_alloc ?_ _)); exact BK369.out⟩, ⟨by repeat (first | (with_reducible first | exact HB.out | apply below_alloc | apply pw_below_drewN | apply below_drew1 | refine below_set ?_ GE361.out | refine below_set ?_ GE369.out) | exact HB.out)⟩⟩
   case rest =>
    clear HC9
    try clear c1
    try clear c2
    try clear p2
    try clear c4
    try clear c5
    try clear c5b0
    try clear c5b1
    try clear c6
    try clear c10
    try clear c16
    try clear c18
    try clear c18b0
    try clear c19
    try clear c21
    try clear c22
    try clear c22b0
    try clear c22b1
    try clear c23
    try clear c26
    try clear hcz13_0
    try clear hcz13_1
    try clear hcz13_2
    try clear hcz13_3
    try clear hcz13_4
    try clear hcz17_0
    try clear hcz17_1
    try clear hcz17_2
    try clear hcz17_3
    try clear hcz17_4
    try clear hcz20_0
    try clear hcz20_1
    try clear hcz20_2
    try clear hcz20_3
    try clear hcz20_4
    try clear hcz21_0
    try clear hcz21_1
    try clear hcz21_2
    try clear hcz21_3
    try clear hcz21_4
    try clear hcz24_0
    try clear hcz24_1
    try clear hcz24_2
    try clear hcz24_3
    try clear hcz24_4
    try clear hcz25_0
    try clear hcz25_1
    try clear hcz25_2
    try clear hcz25_3
    try clear hcz25_4
    try clear hcz27_0
    try clear hcz27_1
    try clear hcz27_2
    try clear hcz27_3
    try clear hcz27_4
    try clear hcz28_0
    try clear hcz28_1
    try clear hcz28_2
    try clear hcz28_3
    try clear hcz28_4
    try clear hfz13_0
    try clear hfz13_1
    try clear hfz13_2
    try clear hfz13_3
    try clear hfz13_4
    try clear hfz17_0
    try clear hfz17_1
    try clear hfz17_2
    try clear hfz17_3
    try clear hfz17_4
    try clear hfz20_0
    try clear hfz20_1
    try clear hfz20_2
    try clear hfz20_3
    try clear hfz20_4
    try clear hfz21_0
    try clear hfz21_1
    try clear hfz21_2
    try clear hfz21_3
    try clear hfz21_4
    try clear hfz24_0
    try clear hfz24_1
    try clear hfz24_2
    try clear hfz24_3
    try clear hfz24_4
    try clear hfz25_0
    try clear hfz25_1
    try clear hfz25_2
    try clear hfz25_3
    try clear hfz25_4
    try clear hfz27_0
    try clear hfz27_1
    try clear hfz27_2
    try clear hfz27_3
    try clear hfz27_4
    try clear hfz28_0
    try clear hfz28_1
    try clear hfz28_2
    try clear hfz28_3
    try clear hfz28_4
    obtain ⟨kq, x55_8, rfl, HA, HJ8, BK361, BK369, HB⟩ := hcut
    cases kq with
    | zero => exact absurd HA.out (by simp [palletlaw19_EventReads.j0])
    | succ kj8 =>
     have H := HA.out
     clear HA
     simp only [palletlaw19_EventReads.j0] at H
     by_cases c29 : x55_8 = true
     ·subst c29
      have H1 : (none) = some r := by rw [if_pos rfl] at H; exact H
      clear H
      have H := H1
      clear H1
      exact absurd H (by simp)
     ·replace c29 := Bool.eq_false_iff.mpr c29
      subst c29
      have H1 : ((crc_Seal32.f l0).bind fun bt370 => (if bt370.2 = 0 then ((event_Decode.f kj8 l0).bind fun bt374 => ((palletref19_Decode.f kj8 l0).bind fun bt379 => ((palletref19_Same.f kj8 bt374.1 bt379.1).bind fun t384 => (if t384 = true then (if bt374.2.1 = bt379.2.1 then (if bt374.2.2 = bt379.2.2 then ((event_Decode.f kj8 bt370.1).bind fun bt385 => ((palletref19_Decode.f kj8 bt370.1).bind fun bt390 => ((palletref19_Same.f kj8 bt385.1 bt390.1).bind fun t395 => (if t395 = true then (if bt385.2.1 = bt390.2.1 then (if bt385.2.2 = bt390.2.2 then (some true) else (none)) else (none)) else (none))))) else (none)) else (none)) else (none))))) else (none))) = some r := by rw [if_neg (show ¬ (false = true) by decide)] at H; exact H
      clear H
      have H := H1
      clear H1
      replace H := Option.bind_eq_some_iff.mp H
      obtain ⟨⟨t370, t371⟩, A300, H⟩ := H
      replace H : (if t371 = 0 then ((event_Decode.f kj8 l0).bind fun bt374 => ((palletref19_Decode.f kj8 l0).bind fun bt379 => ((palletref19_Same.f kj8 bt374.1 bt379.1).bind fun t384 => (if t384 = true then (if bt374.2.1 = bt379.2.1 then (if bt374.2.2 = bt379.2.2 then ((event_Decode.f kj8 t370).bind fun bt385 => ((palletref19_Decode.f kj8 t370).bind fun bt390 => ((palletref19_Same.f kj8 bt385.1 bt390.1).bind fun t395 => (if t395 = true then (if bt385.2.1 = bt390.2.1 then (if bt385.2.2 = bt390.2.2 then (some true) else (none)) else (none)) else (none))))) else (none)) else (none)) else (none))))) else (none)) = some r := H
      have A30 := Aside0.mk A300
      clear A300
      by_cases c31 : t371 = 0
      ·rw [if_pos c31] at H
       have c31b0 : (t371 == 0) = true := beq_iff_eq.mpr c31
       have c31b1 : (t371 != 0) = false := bne_eq_false_iff_eq.mpr c31
       clear c31
       have HU32 := Aside0.mk H
       clear H
       go_wp2_with (first | ((with_reducible refine gate_callee (f := 23) rfl ?_); refine goesL_ (some 58) rfl rfl Tryd.func23 (by kernel_rfl) rfl #[.slice A0 l0.length c0] rfl (by (try simp only [List.map_toArray, List.map_cons, List.map_nil]); first | done | rfl | (simp only [List.length_drop, List.length_take]; rfl)) ?_; (with_reducible refine (crc_Seal32.calls _ _ l0 t370 t371 _ ?side1 ?side2 A30.out).mono ?_); (case side1 => repeat (first | exact (Kd.C_below HR0.out HB.out) | (with_reducible refine Kd.C_alloc ?_ _) | (with_reducible refine Kd.C_drewN ?_ _) | (with_reducible refine Kd.C_drew ?_))); (case side2 => exact HC0.out); rintro e w33 ⟨v372, rfl, ho0, hb⟩; refine ⟨_, rfl, ?_⟩; have n0_ := Aside0.mk (Kd.R_lower ho0 (below_size (by repeat (first | (with_reducible first | exact HB.out | apply below_alloc | apply pw_below_drewN | apply below_drew1 | refine below_set ?_ GE361.out | refine below_set ?_ GE369.out) | exact HB.out)))); have n1_ := Aside0.mk (blk_below (g := gb361) (o := .cells #[.int .i64 t354, .int .i64 t355, .int .i64 t356, .int .i64 t357, .int .i64 t358] 30 (0, 0)) (by (with_reducible repeat (first | refine blk_drewN ?_ _ | refine blk_drew ?_ | refine blk_alloc ?_ _)); exact BK361.out) hb); have n2_ := Aside0.mk (blk_below (g := gb369) (o := .cells #[.int .i64 t362, .int .i64 t363, .int .i64 t364, .int .i64 t365, .int .i64 t366] 30 (0, 0)) (by (with_reducible repeat (first | refine blk_drewN ?_ _ | refine blk_drew ?_ | refine blk_alloc ?_ _)); exact BK369.out) hb); have n3_ := Aside0.mk (below_step (by repeat (first | (with_reducible first | exact HB.out | apply below_alloc | apply pw_below_drewN | apply below_drew1 | refine below_set ?_ GE361.out | refine below_set ?_ GE369.out) | exact HB.out)) hb); clear BK361; clear BK369; clear HB; have HO373 := n0_; have BK361 := n1_; have BK369 := n2_; have HB := n3_; clear n0_ n1_ n2_ n3_; (try clear hb); (try clear hb2); (try clear hk); (try clear hi); (try clear ho0); obtain ⟨Ao34, co34, eo34⟩ := Kd.R_slice HO373.out; subst eo34) | ((with_reducible refine gate_dst (N := 65) rfl ?_); refine rowed_event ?hg (N := 65) ?hd (cs := #[.slice A0 l0.length c0, .slice Ao34 t370.length co34]) (t := 26) (n := 2) ?hr ?_; (case hd => rfl); (case hg => rfl); (case hr => first | (go_simp; done) | (go_simp; rfl) | kernel_rfl); intro gbL hg wL hbox hb; have n0_ := Aside0.mk (Kd.R_below (by (with_reducible repeat (first | apply Kd.R_alloc | apply Kd.R_drewN | apply Kd.R_drew)); exact HO373.out) hb); have n1_ := Aside0.mk (blk_below (g := gb361) (o := .cells #[.int .i64 t354, .int .i64 t355, .int .i64 t356, .int .i64 t357, .int .i64 t358] 30 (0, 0)) (by (with_reducible repeat (first | refine blk_drewN ?_ _ | refine blk_drew ?_ | refine blk_alloc ?_ _)); exact BK361.out) hb); have n2_ := Aside0.mk (blk_below (g := gb369) (o := .cells #[.int .i64 t362, .int .i64 t363, .int .i64 t364, .int .i64 t365, .int .i64 t366] 30 (0, 0)) (by (with_reducible repeat (first | refine blk_drewN ?_ _ | refine blk_drew ?_ | refine blk_alloc ?_ _)); exact BK369.out) hb); have n3_ := Aside0.mk (below_step (by repeat (first | (with_reducible first | exact HB.out | apply below_alloc | apply pw_below_drewN | apply below_drew1 | refine below_set ?_ GE361.out | refine below_set ?_ GE369.out) | exact HB.out)) hb); have n4_ := Aside0.mk hbox; clear HO373; clear BK361; clear BK369; clear HB; have HO373 := n0_; have BK361 := n1_; have BK369 := n2_; have HB := n3_; have BKL := n4_; clear n0_ n1_ n2_ n3_ n4_; clear hb hbox hg))
       refine wp_loop_rounds 9 ?_
       rw [rounds_succ]
       have H := HU32.out
       clear HU32
       replace H := Option.bind_eq_some_iff.mp H
       obtain ⟨⟨t374, t375, t376⟩, A350, H⟩ := H
       replace H : ((palletref19_Decode.f kj8 l0).bind fun bt379 => ((palletref19_Same.f kj8 t374 bt379.1).bind fun t384 => (if t384 = true then (if t375 = bt379.2.1 then (if t376 = bt379.2.2 then ((event_Decode.f kj8 t370).bind fun bt385 => ((palletref19_Decode.f kj8 t370).bind fun bt390 => ((palletref19_Same.f kj8 bt385.1 bt390.1).bind fun t395 => (if t395 = true then (if bt385.2.1 = bt390.2.1 then (if bt385.2.2 = bt390.2.2 then (some true) else (none)) else (none)) else (none))))) else (none)) else (none)) else (none)))) = some r := H
       have A35 := Aside0.mk A350
       clear A350
       replace H := Option.bind_eq_some_iff.mp H
       obtain ⟨⟨t379, t380, t381⟩, A360, H⟩ := H
       replace H : ((palletref19_Same.f kj8 t374 t379).bind fun t384 => (if t384 = true then (if t375 = t380 then (if t376 = t381 then ((event_Decode.f kj8 t370).bind fun bt385 => ((palletref19_Decode.f kj8 t370).bind fun bt390 => ((palletref19_Same.f kj8 bt385.1 bt390.1).bind fun t395 => (if t395 = true then (if bt385.2.1 = bt390.2.1 then (if bt385.2.2 = bt390.2.2 then (some true) else (none)) else (none)) else (none))))) else (none)) else (none)) else (none))) = some r := H
       have A36 := Aside0.mk A360
       clear A360
       replace H := Option.bind_eq_some_iff.mp H
       obtain ⟨t384, A370, H⟩ := H
       replace H : (if t384 = true then (if t375 = t380 then (if t376 = t381 then ((event_Decode.f kj8 t370).bind fun bt385 => ((palletref19_Decode.f kj8 t370).bind fun bt390 => ((palletref19_Same.f kj8 bt385.1 bt390.1).bind fun t395 => (if t395 = true then (if bt385.2.1 = bt390.2.1 then (if bt385.2.2 = bt390.2.2 then (some true) else (none)) else (none)) else (none))))) else (none)) else (none)) else (none)) = some r := H
       have A37 := Aside0.mk A370
       clear A370
       by_cases c38 : t384 = true
       ·subst c38
        have H1 : (if t375 = t380 then (if t376 = t381 then ((event_Decode.f kj8 t370).bind fun bt385 => ((palletref19_Decode.f kj8 t370).bind fun bt390 => ((palletref19_Same.f kj8 bt385.1 bt390.1).bind fun t395 => (if t395 = true then (if bt385.2.1 = bt390.2.1 then (if bt385.2.2 = bt390.2.2 then (some true) else (none)) else (none)) else (none))))) else (none)) else (none)) = some r := by rw [if_pos rfl] at H; exact H
        clear H
        have H := H1
        clear H1
        by_cases c39 : t375 = t380
        ·rw [if_pos c39] at H
         have c39b0 : (t375 == t380) = true := beq_iff_eq.mpr c39
         have c39b1 : (t375 != t380) = false := bne_eq_false_iff_eq.mpr c39
         clear c39
         by_cases c40 : t376 = t381
         ·rw [if_pos c40] at H
          have c40b0 : (t376 == t381) = true := beq_iff_eq.mpr c40
          have c40b1 : (t376 != t381) = false := bne_eq_false_iff_eq.mpr c40
          clear c40
          have HU41 := Aside0.mk H
          clear H
          have hczL_0 : wL.cell? ⟨gbL, 0, none⟩ = some (.slice A0 l0.length c0) := (blk_cell BKL.out 0).trans rfl
          go_wp2_with (first | ((with_reducible refine gate_callee (f := 24) rfl ?_); refine goesL_ (some 73) rfl rfl Tryd.func24 (by kernel_rfl) rfl #[.slice A0 l0.length c0] rfl (by (try simp only [List.map_toArray, List.map_cons, List.map_nil]); first | done | rfl | (simp only [List.length_drop, List.length_take]; rfl)) ?_; (with_reducible refine (event_Decode.calls kj8 _ _ l0 t374 t375 t376 _ ?side1 ?side2 A35.out).mono ?_); (case side1 => repeat (first | exact (Kd.C_below HR0.out HB.out) | (with_reducible refine Kd.C_alloc ?_ _) | (with_reducible refine Kd.C_drewN ?_ _) | (with_reducible refine Kd.C_drew ?_))); (case side2 => exact HC0.out); rintro e w43 ⟨v377, rfl, ho0, hb⟩; refine ⟨_, rfl, ?_⟩; have n0_ := Aside0.mk (Kd.R_below (by (with_reducible repeat (first | apply Kd.R_alloc | apply Kd.R_drewN | apply Kd.R_drew)); exact HO373.out) hb); have n1_ := Aside0.mk (Kd.R_lower (ho0) (below_size (by repeat (first | (with_reducible first | exact HB.out | apply below_alloc | apply pw_below_drewN | apply below_drew1 | refine below_set ?_ GE361.out | refine below_set ?_ GE369.out) | exact HB.out)))); have n2_ := Aside0.mk (blk_below (g := gb361) (o := .cells #[.int .i64 t354, .int .i64 t355, .int .i64 t356, .int .i64 t357, .int .i64 t358] 30 (0, 0)) (by (with_reducible repeat (first | refine blk_drewN ?_ _ | refine blk_drew ?_ | refine blk_alloc ?_ _)); exact BK361.out) hb); have n3_ := Aside0.mk (blk_below (g := gb369) (o := .cells #[.int .i64 t362, .int .i64 t363, .int .i64 t364, .int .i64 t365, .int .i64 t366] 30 (0, 0)) (by (with_reducible repeat (first | refine blk_drewN ?_ _ | refine blk_drew ?_ | refine blk_alloc ?_ _)); exact BK369.out) hb); have n4_ := Aside0.mk (below_step (by repeat (first | (with_reducible first | exact HB.out | apply below_alloc | apply pw_below_drewN | apply below_drew1 | refine below_set ?_ GE361.out | refine below_set ?_ GE369.out) | exact HB.out)) hb); have nL_ := Aside0.mk (blk_below (g := gbL) (o := .cells #[.slice A0 l0.length c0, .slice Ao34 t370.length co34] 26 (0, 0)) (by (with_reducible repeat (first | refine blk_drewN ?_ _ | refine blk_drew ?_ | refine blk_alloc ?_ _)); exact BKL.out) hb); clear BKL; have BKL := nL_; clear nL_; clear HO373; clear BK361; clear BK369; clear HB; have HO373 := n0_; have HO378 := n1_; have BK361 := n2_; have BK369 := n3_; have HB := n4_; clear n0_ n1_ n2_ n3_ n4_; (try clear hb); (try clear hb2); (try clear hk); (try clear hi); (try clear ho0)) | ((with_reducible refine gate_callee (f := 25) rfl ?_); refine goesL_ (some 79) rfl rfl Tryd.func25 (by kernel_rfl) rfl #[.slice A0 l0.length c0] rfl (by (try simp only [List.map_toArray, List.map_cons, List.map_nil]); first | done | rfl | (simp only [List.length_drop, List.length_take]; rfl)) ?_; (with_reducible refine (palletref19_Decode.calls kj8 _ _ l0 t379 t380 t381 _ ?side1 ?side2 A36.out).mono ?_); (case side1 => repeat (first | exact (Kd.C_below HR0.out HB.out) | (with_reducible refine Kd.C_alloc ?_ _) | (with_reducible refine Kd.C_drewN ?_ _) | (with_reducible refine Kd.C_drew ?_))); (case side2 => exact HC0.out); rintro e w44 ⟨v382, rfl, ho0, hb⟩; refine ⟨_, rfl, ?_⟩; have n0_ := Aside0.mk (Kd.R_below (by (with_reducible repeat (first | apply Kd.R_alloc | apply Kd.R_drewN | apply Kd.R_drew)); exact HO373.out) hb); have n1_ := Aside0.mk (Kd.R_elder' (by (with_reducible repeat (first | apply Kd.R_alloc | apply Kd.R_drewN | apply Kd.R_drew)); exact HO378.out) (Kd.R_base ho0) hb); have n2_ := Aside0.mk (Kd.R_lower ((Kd.R_new' ho0 (Kd.R_lt (by (with_reducible repeat (first | apply Kd.R_alloc | apply Kd.R_drewN | apply Kd.R_drew)); exact HO378.out)))) (below_size (by repeat (first | (with_reducible first | exact HB.out | apply below_alloc | apply pw_below_drewN | apply below_drew1 | refine below_set ?_ GE361.out | refine below_set ?_ GE369.out) | exact HB.out)))); have n3_ := Aside0.mk (blk_below (g := gb361) (o := .cells #[.int .i64 t354, .int .i64 t355, .int .i64 t356, .int .i64 t357, .int .i64 t358] 30 (0, 0)) (by (with_reducible repeat (first | refine blk_drewN ?_ _ | refine blk_drew ?_ | refine blk_alloc ?_ _)); exact BK361.out) hb); have n4_ := Aside0.mk (blk_below (g := gb369) (o := .cells #[.int .i64 t362, .int .i64 t363, .int .i64 t364, .int .i64 t365, .int .i64 t366] 30 (0, 0)) (by (with_reducible repeat (first | refine blk_drewN ?_ _ | refine blk_drew ?_ | refine blk_alloc ?_ _)); exact BK369.out) hb); have n5_ := Aside0.mk (below_step (by repeat (first | (with_reducible first | exact HB.out | apply below_alloc | apply pw_below_drewN | apply below_drew1 | refine below_set ?_ GE361.out | refine below_set ?_ GE369.out) | exact HB.out)) hb); have nL_ := Aside0.mk (blk_below (g := gbL) (o := .cells #[.slice A0 l0.length c0, .slice Ao34 t370.length co34] 26 (0, 0)) (by (with_reducible repeat (first | refine blk_drewN ?_ _ | refine blk_drew ?_ | refine blk_alloc ?_ _)); exact BKL.out) hb); clear BKL; have BKL := nL_; clear nL_; clear HO373; clear HO378; clear BK361; clear BK369; clear HB; have HO373 := n0_; have HO378 := n1_; have HO383 := n2_; have BK361 := n3_; have BK369 := n4_; have HB := n5_; clear n0_ n1_ n2_ n3_ n4_ n5_; (try clear hb); (try clear hb2); (try clear hk); (try clear hi); (try clear ho0); obtain ⟨Ao45, co45, eo45⟩ := Kd.R_slice HO378.out; subst eo45; obtain ⟨Ao46, co46, eo46⟩ := Kd.R_slice HO383.out; subst eo46) | ((with_reducible refine gate_callee (f := 20) rfl ?_); refine goesL_ (some 85) rfl rfl Tryd.func20 (by kernel_rfl) rfl #[.slice Ao45 t374.length co45, .slice Ao46 t379.length co46] rfl (by (try simp only [List.map_toArray, List.map_cons, List.map_nil]); first | done | rfl | (simp only [List.length_drop, List.length_take]; rfl)) ?_; (with_reducible refine (palletref19_Same.calls kj8 _ _ t374 _ _ t379 true _ ?side1 ?side2 ?side3 ?side4 A37.out).mono ?_); (case side1 => repeat (first | exact (Kd.R_reads' HO378.out).2.2 | (with_reducible refine Kd.C_alloc ?_ _) | (with_reducible refine Kd.C_drewN ?_ _) | (with_reducible refine Kd.C_drew ?_))); (case side2 => exact (Kd.R_reads' HO378.out).2.1); (case side3 => repeat (first | exact (Kd.R_reads' HO383.out).2.2 | (with_reducible refine Kd.C_alloc ?_ _) | (with_reducible refine Kd.C_drewN ?_ _) | (with_reducible refine Kd.C_drew ?_))); (case side4 => exact (Kd.R_reads' HO383.out).2.1); rintro e w' ⟨rfl, ⟨nd, rfl⟩⟩; refine ⟨_, rfl, ?_⟩))
          rw [rounds_succ]
          have H := HU41.out
          clear HU41
          replace H := Option.bind_eq_some_iff.mp H
          obtain ⟨⟨t385, t386, t387⟩, A470, H⟩ := H
          replace H : ((palletref19_Decode.f kj8 t370).bind fun bt390 => ((palletref19_Same.f kj8 t385 bt390.1).bind fun t395 => (if t395 = true then (if t386 = bt390.2.1 then (if t387 = bt390.2.2 then (some true) else (none)) else (none)) else (none)))) = some r := H
          have A47 := Aside0.mk A470
          clear A470
          replace H := Option.bind_eq_some_iff.mp H
          obtain ⟨⟨t390, t391, t392⟩, A480, H⟩ := H
          replace H : ((palletref19_Same.f kj8 t385 t390).bind fun t395 => (if t395 = true then (if t386 = t391 then (if t387 = t392 then (some true) else (none)) else (none)) else (none))) = some r := H
          have A48 := Aside0.mk A480
          clear A480
          replace H := Option.bind_eq_some_iff.mp H
          obtain ⟨t395, A490, H⟩ := H
          replace H : (if t395 = true then (if t386 = t391 then (if t387 = t392 then (some true) else (none)) else (none)) else (none)) = some r := H
          have A49 := Aside0.mk A490
          clear A490
          by_cases c50 : t395 = true
          ·subst c50
           have H1 : (if t386 = t391 then (if t387 = t392 then (some true) else (none)) else (none)) = some r := by rw [if_pos rfl] at H; exact H
           clear H
           have H := H1
           clear H1
           by_cases c51 : t386 = t391
           ·rw [if_pos c51] at H
            have c51b0 : (t386 == t391) = true := beq_iff_eq.mpr c51
            have c51b1 : (t386 != t391) = false := bne_eq_false_iff_eq.mpr c51
            clear c51
            by_cases c52 : t387 = t392
            ·rw [if_pos c52] at H
             have c52b0 : (t387 == t392) = true := beq_iff_eq.mpr c52
             have c52b1 : (t387 != t392) = false := bne_eq_false_iff_eq.mpr c52
             clear c52
             have HU53 := Aside0.mk H
             clear H
             have hczL_1 : w44.cell? ⟨gbL, 1, none⟩ = some (.slice Ao34 t370.length co34) := (blk_cell BKL.out 1).trans rfl
             go_wp2_with (first | ((with_reducible refine gate_callee (f := 24) rfl ?_); refine goesL_ (some 73) rfl rfl Tryd.func24 (by kernel_rfl) rfl #[.slice Ao34 t370.length co34] rfl (by (try simp only [List.map_toArray, List.map_cons, List.map_nil]); first | done | rfl | (simp only [List.length_drop, List.length_take]; rfl)) ?_; (with_reducible refine (event_Decode.calls kj8 _ _ t370 t385 t386 t387 _ ?side1 ?side2 A47.out).mono ?_); (case side1 => repeat (first | exact (Kd.R_reads' HO373.out).2.2 | (with_reducible refine Kd.C_alloc ?_ _) | (with_reducible refine Kd.C_drewN ?_ _) | (with_reducible refine Kd.C_drew ?_))); (case side2 => exact (Kd.R_reads' HO373.out).2.1); rintro e w55 ⟨v388, rfl, ho0, hb⟩; refine ⟨_, rfl, ?_⟩; have n0_ := Aside0.mk (Kd.R_below (by (with_reducible repeat (first | apply Kd.R_alloc | apply Kd.R_drewN | apply Kd.R_drew)); exact HO373.out) hb); have n1_ := Aside0.mk (Kd.R_elder' (by (with_reducible repeat (first | apply Kd.R_alloc | apply Kd.R_drewN | apply Kd.R_drew)); exact HO378.out) (Kd.R_base ho0) hb); have n2_ := Aside0.mk (Kd.R_elder' (by (with_reducible repeat (first | apply Kd.R_alloc | apply Kd.R_drewN | apply Kd.R_drew)); exact HO383.out) (Kd.R_base ho0) hb); have n3_ := Aside0.mk (Kd.R_lower ((Kd.R_new' (Kd.R_new' ho0 (Kd.R_lt (by (with_reducible repeat (first | apply Kd.R_alloc | apply Kd.R_drewN | apply Kd.R_drew)); exact HO378.out))) (Kd.R_lt (by (with_reducible repeat (first | apply Kd.R_alloc | apply Kd.R_drewN | apply Kd.R_drew)); exact HO383.out)))) (below_size (by repeat (first | (with_reducible first | exact HB.out | apply below_alloc | apply pw_below_drewN | apply below_drew1 | refine below_set ?_ GE361.out | refine below_set ?_ GE369.out) | exact HB.out)))); have n4_ := Aside0.mk (blk_below (g := gb361) (o := .cells #[.int .i64 t354, .int .i64 t355, .int .i64 t356, .int .i64 t357, .int .i64 t358] 30 (0, 0)) (by (with_reducible repeat (first | refine blk_drewN ?_ _ | refine blk_drew ?_ | refine blk_alloc ?_ _)); exact BK361.out) hb); have n5_ := Aside0.mk (blk_below (g := gb369) (o := .cells #[.int .i64 t362, .int .i64 t363, .int .i64 t364, .int .i64 t365, .int .i64 t366] 30 (0, 0)) (by (with_reducible repeat (first | refine blk_drewN ?_ _ | refine blk_drew ?_ | refine blk_alloc ?_ _)); exact BK369.out) hb); have n6_ := Aside0.mk (below_step (by repeat (first | (with_reducible first | exact HB.out | apply below_alloc | apply pw_below_drewN | apply below_drew1 | refine below_set ?_ GE361.out | refine below_set ?_ GE369.out) | exact HB.out)) hb); clear HO373; clear HO378; clear HO383; clear BK361; clear BK369; clear HB; have HO373 := n0_; have HO378 := n1_; have HO383 := n2_; have HO389 := n3_; have BK361 := n4_; have BK369 := n5_; have HB := n6_; clear n0_ n1_ n2_ n3_ n4_ n5_ n6_; (try clear hb); (try clear hb2); (try clear hk); (try clear hi); (try clear ho0)) | ((with_reducible refine gate_callee (f := 25) rfl ?_); refine goesL_ (some 79) rfl rfl Tryd.func25 (by kernel_rfl) rfl #[.slice Ao34 t370.length co34] rfl (by (try simp only [List.map_toArray, List.map_cons, List.map_nil]); first | done | rfl | (simp only [List.length_drop, List.length_take]; rfl)) ?_; (with_reducible refine (palletref19_Decode.calls kj8 _ _ t370 t390 t391 t392 _ ?side1 ?side2 A48.out).mono ?_); (case side1 => repeat (first | exact (Kd.R_reads' HO373.out).2.2 | (with_reducible refine Kd.C_alloc ?_ _) | (with_reducible refine Kd.C_drewN ?_ _) | (with_reducible refine Kd.C_drew ?_))); (case side2 => exact (Kd.R_reads' HO373.out).2.1); rintro e w56 ⟨v393, rfl, ho0, hb⟩; refine ⟨_, rfl, ?_⟩; have n0_ := Aside0.mk (Kd.R_below (by (with_reducible repeat (first | apply Kd.R_alloc | apply Kd.R_drewN | apply Kd.R_drew)); exact HO373.out) hb); have n1_ := Aside0.mk (Kd.R_elder' (by (with_reducible repeat (first | apply Kd.R_alloc | apply Kd.R_drewN | apply Kd.R_drew)); exact HO378.out) (Kd.R_base ho0) hb); have n2_ := Aside0.mk (Kd.R_elder' (by (with_reducible repeat (first | apply Kd.R_alloc | apply Kd.R_drewN | apply Kd.R_drew)); exact HO383.out) (Kd.R_base ho0) hb); have n3_ := Aside0.mk (Kd.R_elder' (by (with_reducible repeat (first | apply Kd.R_alloc | apply Kd.R_drewN | apply Kd.R_drew)); exact HO389.out) (Kd.R_base ho0) hb); have n4_ := Aside0.mk (Kd.R_lower ((Kd.R_new' (Kd.R_new' (Kd.R_new' ho0 (Kd.R_lt (by (with_reducible repeat (first | apply Kd.R_alloc | apply Kd.R_drewN | apply Kd.R_drew)); exact HO378.out))) (Kd.R_lt (by (with_reducible repeat (first | apply Kd.R_alloc | apply Kd.R_drewN | apply Kd.R_drew)); exact HO383.out))) (Kd.R_lt (by (with_reducible repeat (first | apply Kd.R_alloc | apply Kd.R_drewN | apply Kd.R_drew)); exact HO389.out)))) (below_size (by repeat (first | (with_reducible first | exact HB.out | apply below_alloc | apply pw_below_drewN | apply below_drew1 | refine below_set ?_ GE361.out | refine below_set ?_ GE369.out) | exact HB.out)))); have n5_ := Aside0.mk (blk_below (g := gb361) (o := .cells #[.int .i64 t354, .int .i64 t355, .int .i64 t356, .int .i64 t357, .int .i64 t358] 30 (0, 0)) (by (with_reducible repeat (first | refine blk_drewN ?_ _ | refine blk_drew ?_ | refine blk_alloc ?_ _)); exact BK361.out) hb); have n6_ := Aside0.mk (blk_below (g := gb369) (o := .cells #[.int .i64 t362, .int .i64 t363, .int .i64 t364, .int .i64 t365, .int .i64 t366] 30 (0, 0)) (by (with_reducible repeat (first | refine blk_drewN ?_ _ | refine blk_drew ?_ | refine blk_alloc ?_ _)); exact BK369.out) hb); have n7_ := Aside0.mk (below_step (by repeat (first | (with_reducible first | exact HB.out | apply below_alloc | apply pw_below_drewN | apply below_drew1 | refine below_set ?_ GE361.out | refine below_set ?_ GE369.out) | exact HB.out)) hb); clear HO373; clear HO378; clear HO383; clear HO389; clear BK361; clear BK369; clear HB; have HO373 := n0_; have HO378 := n1_; have HO383 := n2_; have HO389 := n3_; have HO394 := n4_; have BK361 := n5_; have BK369 := n6_; have HB := n7_; clear n0_ n1_ n2_ n3_ n4_ n5_ n6_ n7_; (try clear hb); (try clear hb2); (try clear hk); (try clear hi); (try clear ho0); obtain ⟨Ao57, co57, eo57⟩ := Kd.R_slice HO389.out; subst eo57; obtain ⟨Ao58, co58, eo58⟩ := Kd.R_slice HO394.out; subst eo58) | ((with_reducible refine gate_callee (f := 20) rfl ?_); refine goesL_ (some 85) rfl rfl Tryd.func20 (by kernel_rfl) rfl #[.slice Ao57 t385.length co57, .slice Ao58 t390.length co58] rfl (by (try simp only [List.map_toArray, List.map_cons, List.map_nil]); first | done | rfl | (simp only [List.length_drop, List.length_take]; rfl)) ?_; (with_reducible refine (palletref19_Same.calls kj8 _ _ t385 _ _ t390 true _ ?side1 ?side2 ?side3 ?side4 A49.out).mono ?_); (case side1 => repeat (first | exact (Kd.R_reads' HO389.out).2.2 | (with_reducible refine Kd.C_alloc ?_ _) | (with_reducible refine Kd.C_drewN ?_ _) | (with_reducible refine Kd.C_drew ?_))); (case side2 => exact (Kd.R_reads' HO389.out).2.1); (case side3 => repeat (first | exact (Kd.R_reads' HO394.out).2.2 | (with_reducible refine Kd.C_alloc ?_ _) | (with_reducible refine Kd.C_drewN ?_ _) | (with_reducible refine Kd.C_drew ?_))); (case side4 => exact (Kd.R_reads' HO394.out).2.1); rintro e w' ⟨rfl, ⟨nd, rfl⟩⟩; refine ⟨_, rfl, ?_⟩))
             rw [rounds_succ]
             have H := HU53.out
             clear HU53
             obtain rfl := Option.some.inj H
             go_wp2
             go_ret
             exact ⟨by first | rfl | (simp [errW_none, errW_some] <;> rfl) | (simp [*, errW_none, errW_some] <;> rfl), by repeat (first | (with_reducible first | exact HB.out | apply below_alloc | apply pw_below_drewN | apply below_drew1 | refine below_set ?_ GE361.out | refine below_set ?_ GE369.out) | exact HB.out)⟩
            ·rw [if_neg c52] at H
             exact absurd H (by simp)
           ·rw [if_neg c51] at H
            exact absurd H (by simp)
          ·replace c50 := Bool.eq_false_iff.mpr c50
           subst c50
           have H1 : (none) = some r := by rw [if_neg (show ¬ (false = true) by decide)] at H; exact H
           clear H
           have H := H1
           clear H1
           exact absurd H (by simp)
         ·rw [if_neg c40] at H
          exact absurd H (by simp)
        ·rw [if_neg c39] at H
         exact absurd H (by simp)
       ·replace c38 := Bool.eq_false_iff.mpr c38
        subst c38
        have H1 : (none) = some r := by rw [if_neg (show ¬ (false = true) by decide)] at H; exact H
        clear H
        have H := H1
        clear H1
        exact absurd H (by simp)
      ·rw [if_neg c31] at H
       exact absurd H (by simp)
 ·replace c4 := Bool.eq_false_iff.mpr c4
  subst c4
  have H1 : (none) = some r := by rw [if_neg (show ¬ (false = true) by decide)] at H; exact H
  clear H
  have H := H1
  clear H1
  exact absurd H (by simp)


end Go.Proofs.YtcbjbgleflbpmaaDoor.Print
