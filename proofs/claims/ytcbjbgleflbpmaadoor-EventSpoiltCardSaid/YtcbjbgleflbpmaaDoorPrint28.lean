-- PRINTED by print.py (a twelfth state) out of the translation. Not trusted: Lean checks it.
import Derived.Test.YtcbjbgleflbpmaaDoorPrint0
import Derived.Test.YtcbjbgleflbpmaaDoorPrint15
import Derived.Test.YtcbjbgleflbpmaaDoorPrint26
import Derived.Test.YtcbjbgleflbpmaaDoorPrint27
namespace Go.Proofs.YtcbjbgleflbpmaaDoor.Print
open Go.RowKit Go.Proofs.YtcbjbgleflbpmaaDoorW.PrintWords Go.Proofs.YtcbjbgleflbpmaaDoorW.PrintLast Go.Proofs.YtcbjbgleflbpmaaDoorW.PrintMore Go.Proofs.YtcbjbgleflbpmaaDoorX
attribute [local go_sem] str_lss str_geq max2_int min2_int max_two min_two max_three min_three max_four min_four   -- for this text's walks alone
set_option linter.unusedVariables false
set_option linter.unusedSimpArgs false

/-! ### palletref19_Read: function 22 -/
def palletref19_Read.j0 : Nat → Int → Int → Int → Int → Int → Int → Bool → Option (Int × Int × Int × Int × Int × Int × Int)
 | 0, _, _, _, _, _, _, _ => none
 | k + 1, x7, x9, x11, x14, x16, x18, x87 => if x87 = true then (some (0, 0, 0, 0, 0, 0, 4)) else ((palletref19_One.f k (wrap64 (x11)) (wrap64 (x7)) (wrap64 (x14)) x16 x18).bind fun t472 => (if t472 = true then (some (wrap64 (x11), wrap64 (x7), wrap64 (x14), x16, x18, x9, 0)) else (some (0, 0, 0, 0, 0, 0, 4))))
def palletref19_Read.f (k : Nat) (l0 : List Int) (a1 : Int) : Option (Int × Int × Int × Int × Int × Int × Int) := (palletref02_TakeRecord.f k l0 a1).bind fun bt453 => (if bt453.2.2.2 = 0 then ((palletref02_TakeVary.f k bt453.2.1 0).bind fun bt459 => ((palletref02_TakeVary.f k bt453.2.1 bt459.2.1).bind fun bt462 => ((palletref02_TakeSign.f k bt453.2.1 bt462.2.1).bind fun bt465 => ((palletref02_TakeSign.f k bt453.2.1 bt465.2.1).bind fun bt468 => (if bt459.2.2 = 0 then (if bt462.2.2 = 0 then (if bt465.2.2 = 0 then (if bt468.2.2 = 0 then (if bt468.2.1 = (bt453.2.1.length : Int) then (if bt459.1 > 1152921504606846976 then (palletref19_Read.j0 k bt453.1 bt453.2.2.1 bt459.1 bt462.1 bt465.1 bt468.1 true) else (palletref19_Read.j0 k bt453.1 bt453.2.2.1 bt459.1 bt462.1 bt465.1 bt468.1 (decide (bt462.1 > 255)))) else (palletref19_Read.j0 k bt453.1 bt453.2.2.1 bt459.1 bt462.1 bt465.1 bt468.1 true)) else (palletref19_Read.j0 k bt453.1 bt453.2.2.1 bt459.1 bt462.1 bt465.1 bt468.1 true)) else (palletref19_Read.j0 k bt453.1 bt453.2.2.1 bt459.1 bt462.1 bt465.1 bt468.1 true)) else (palletref19_Read.j0 k bt453.1 bt453.2.2.1 bt459.1 bt462.1 bt465.1 bt468.1 true)) else (palletref19_Read.j0 k bt453.1 bt453.2.2.1 bt459.1 bt462.1 bt465.1 bt468.1 true)))))) else (some (0, 0, 0, 0, 0, 0, bt453.2.2.2)))
theorem palletref19_Read.mono_l : ∀ k, (∀ y0 y1 y2 y3 y4 y5 y6, LeO (palletref19_Read.j0 k y0 y1 y2 y3 y4 y5 y6) (palletref19_Read.j0 (k + 1) y0 y1 y2 y3 y4 y5 y6))
 | 0 => fun _ _ _ _ _ _ _ r h => by simp [palletref19_Read.j0] at h
 | k + 1 => by
  have ih0 := palletref19_Read.mono_l k
  ·intro y0 y1 y2 y3 y4 y5 y6
   unfold palletref19_Read.j0
   repeat' first
   | (with_reducible exact ih0 _ _ _ _ _ _ _)
   | (with_reducible exact palletref02_TakeRecord.mono _ _ _)
   | (with_reducible exact palletref02_TakeSign.mono _ _ _)
   | (with_reducible exact palletref02_TakeVary.mono _ _ _)
   | (with_reducible exact palletref19_One.mono _ _ _ _ _ _)
   | (with_reducible exact LeO.refl _)
   | (with_reducible exact LeO.none _)
   | (with_reducible refine LeO.ite ?_ ?_)
   | (with_reducible refine LeO.bind ?_ (fun _ => ?_))
   | exact ih0 _ _ _ _ _ _ _
   | exact palletref02_TakeRecord.mono _ _ _
   | exact palletref02_TakeSign.mono _ _ _
   | exact palletref02_TakeVary.mono _ _ _
   | exact palletref19_One.mono _ _ _ _ _ _
   | exact LeO.none _
   | refine LeO.ite ?_ ?_
   | refine LeO.bind ?_ (fun _ => ?_)
theorem palletref19_Read.mono : ∀ a0 a1 k, LeO (palletref19_Read.f k a0 a1) (palletref19_Read.f (k + 1) a0 a1) := by
 intro a0 a1 k
 have ih0 := palletref19_Read.mono_l k
 unfold palletref19_Read.f
 repeat' first
   | (with_reducible exact ih0 _ _ _ _ _ _ _)
   | (with_reducible exact palletref02_TakeRecord.mono _ _ _)
   | (with_reducible exact palletref02_TakeSign.mono _ _ _)
   | (with_reducible exact palletref02_TakeVary.mono _ _ _)
   | (with_reducible exact palletref19_One.mono _ _ _ _ _ _)
   | (with_reducible exact LeO.refl _)
   | (with_reducible exact LeO.none _)
   | (with_reducible refine LeO.ite ?_ ?_)
   | (with_reducible refine LeO.bind ?_ (fun _ => ?_))
   | exact ih0 _ _ _ _ _ _ _
   | exact palletref02_TakeRecord.mono _ _ _
   | exact palletref02_TakeSign.mono _ _ _
   | exact palletref02_TakeVary.mono _ _ _
   | exact palletref19_One.mono _ _ _ _ _ _
   | exact LeO.none _
   | refine LeO.ite ?_ ?_
   | refine LeO.bind ?_ (fun _ => ?_)
set_option maxHeartbeats 8000000 in
set_option maxRecDepth 100000 in
theorem palletref19_Read.calls (k : Nat) (A0 : Option Addr) (c0 : Nat) (l0 : List Int) (a1 : Int) (r1 : Int) (r2 : Int) (r3 : Int) (r4 : Int) (r5 : Int) (r6 : Int) (r7 : Int) (w : World) (hr0 : Kd.C (Kd.int .u8) w A0 l0.length l0) (hc0 : l0.length ≤ c0) (h : palletref19_Read.f k l0 a1 = some (r1, r2, r3, r4, r5, r6, r7)) :
  Calls Tryd.prog 22 #[.slice A0 l0.length c0, .int .i64 a1] w fun e w' => e = .returned (.tuple #[.agg #[.int .i64 r1, .int .i64 r2, .int .i64 r3, .int .i64 r4, .int .i64 r5], .int .i64 r6, .int .i64 r7]) ∧ Below w.heap.size w w' := by
 have hu30 := Tryd.underlying30
 have HR0 := Aside0.mk hr0
 have HC0 := Aside0.mk hc0
 clear hr0 hc0
 have HB := Aside0.mk (Below.refl w.heap.size w)
 have H : ((palletref02_TakeRecord.f k l0 a1).bind fun bt453 => (if bt453.2.2.2 = 0 then ((palletref02_TakeVary.f k bt453.2.1 0).bind fun bt459 => ((palletref02_TakeVary.f k bt453.2.1 bt459.2.1).bind fun bt462 => ((palletref02_TakeSign.f k bt453.2.1 bt462.2.1).bind fun bt465 => ((palletref02_TakeSign.f k bt453.2.1 bt465.2.1).bind fun bt468 => (if bt459.2.2 = 0 then (if bt462.2.2 = 0 then (if bt465.2.2 = 0 then (if bt468.2.2 = 0 then (if bt468.2.1 = (bt453.2.1.length : Int) then (if bt459.1 > 1152921504606846976 then (palletref19_Read.j0 k bt453.1 bt453.2.2.1 bt459.1 bt462.1 bt465.1 bt468.1 true) else (palletref19_Read.j0 k bt453.1 bt453.2.2.1 bt459.1 bt462.1 bt465.1 bt468.1 (decide (bt462.1 > 255)))) else (palletref19_Read.j0 k bt453.1 bt453.2.2.1 bt459.1 bt462.1 bt465.1 bt468.1 true)) else (palletref19_Read.j0 k bt453.1 bt453.2.2.1 bt459.1 bt462.1 bt465.1 bt468.1 true)) else (palletref19_Read.j0 k bt453.1 bt453.2.2.1 bt459.1 bt462.1 bt465.1 bt468.1 true)) else (palletref19_Read.j0 k bt453.1 bt453.2.2.1 bt459.1 bt462.1 bt465.1 bt468.1 true)) else (palletref19_Read.j0 k bt453.1 bt453.2.2.1 bt459.1 bt462.1 bt465.1 bt468.1 true)))))) else (some (0, 0, 0, 0, 0, 0, bt453.2.2.2)))) = some (r1, r2, r3, r4, r5, r6, r7) := h
 clear h
 replace H := Option.bind_eq_some_iff.mp H
 obtain ⟨⟨t453, t454, t455, t456⟩, A30, H⟩ := H
 replace H : (if t456 = 0 then ((palletref02_TakeVary.f k t454 0).bind fun bt459 => ((palletref02_TakeVary.f k t454 bt459.2.1).bind fun bt462 => ((palletref02_TakeSign.f k t454 bt462.2.1).bind fun bt465 => ((palletref02_TakeSign.f k t454 bt465.2.1).bind fun bt468 => (if bt459.2.2 = 0 then (if bt462.2.2 = 0 then (if bt465.2.2 = 0 then (if bt468.2.2 = 0 then (if bt468.2.1 = (t454.length : Int) then (if bt459.1 > 1152921504606846976 then (palletref19_Read.j0 k t453 t455 bt459.1 bt462.1 bt465.1 bt468.1 true) else (palletref19_Read.j0 k t453 t455 bt459.1 bt462.1 bt465.1 bt468.1 (decide (bt462.1 > 255)))) else (palletref19_Read.j0 k t453 t455 bt459.1 bt462.1 bt465.1 bt468.1 true)) else (palletref19_Read.j0 k t453 t455 bt459.1 bt462.1 bt465.1 bt468.1 true)) else (palletref19_Read.j0 k t453 t455 bt459.1 bt462.1 bt465.1 bt468.1 true)) else (palletref19_Read.j0 k t453 t455 bt459.1 bt462.1 bt465.1 bt468.1 true)) else (palletref19_Read.j0 k t453 t455 bt459.1 bt462.1 bt465.1 bt468.1 true)))))) else (some (0, 0, 0, 0, 0, 0, t456))) = some (r1, r2, r3, r4, r5, r6, r7) := H
 have A3 := Aside0.mk A30
 clear A30
 by_cases c4 : t456 = 0
 ·rw [if_pos c4] at H
  have c4b0 : (t456 == 0) = true := beq_iff_eq.mpr c4
  have c4b1 : (t456 != 0) = false := bne_eq_false_iff_eq.mpr c4
  clear c4
  replace H := Option.bind_eq_some_iff.mp H
  obtain ⟨⟨t459, t460, t461⟩, A50, H⟩ := H
  replace H : ((palletref02_TakeVary.f k t454 t460).bind fun bt462 => ((palletref02_TakeSign.f k t454 bt462.2.1).bind fun bt465 => ((palletref02_TakeSign.f k t454 bt465.2.1).bind fun bt468 => (if t461 = 0 then (if bt462.2.2 = 0 then (if bt465.2.2 = 0 then (if bt468.2.2 = 0 then (if bt468.2.1 = (t454.length : Int) then (if t459 > 1152921504606846976 then (palletref19_Read.j0 k t453 t455 t459 bt462.1 bt465.1 bt468.1 true) else (palletref19_Read.j0 k t453 t455 t459 bt462.1 bt465.1 bt468.1 (decide (bt462.1 > 255)))) else (palletref19_Read.j0 k t453 t455 t459 bt462.1 bt465.1 bt468.1 true)) else (palletref19_Read.j0 k t453 t455 t459 bt462.1 bt465.1 bt468.1 true)) else (palletref19_Read.j0 k t453 t455 t459 bt462.1 bt465.1 bt468.1 true)) else (palletref19_Read.j0 k t453 t455 t459 bt462.1 bt465.1 bt468.1 true)) else (palletref19_Read.j0 k t453 t455 t459 bt462.1 bt465.1 bt468.1 true))))) = some (r1, r2, r3, r4, r5, r6, r7) := H
  have A5 := Aside0.mk A50
  clear A50
  replace H := Option.bind_eq_some_iff.mp H
  obtain ⟨⟨t462, t463, t464⟩, A60, H⟩ := H
  replace H : ((palletref02_TakeSign.f k t454 t463).bind fun bt465 => ((palletref02_TakeSign.f k t454 bt465.2.1).bind fun bt468 => (if t461 = 0 then (if t464 = 0 then (if bt465.2.2 = 0 then (if bt468.2.2 = 0 then (if bt468.2.1 = (t454.length : Int) then (if t459 > 1152921504606846976 then (palletref19_Read.j0 k t453 t455 t459 t462 bt465.1 bt468.1 true) else (palletref19_Read.j0 k t453 t455 t459 t462 bt465.1 bt468.1 (decide (t462 > 255)))) else (palletref19_Read.j0 k t453 t455 t459 t462 bt465.1 bt468.1 true)) else (palletref19_Read.j0 k t453 t455 t459 t462 bt465.1 bt468.1 true)) else (palletref19_Read.j0 k t453 t455 t459 t462 bt465.1 bt468.1 true)) else (palletref19_Read.j0 k t453 t455 t459 t462 bt465.1 bt468.1 true)) else (palletref19_Read.j0 k t453 t455 t459 t462 bt465.1 bt468.1 true)))) = some (r1, r2, r3, r4, r5, r6, r7) := H
  have A6 := Aside0.mk A60
  clear A60
  replace H := Option.bind_eq_some_iff.mp H
  obtain ⟨⟨t465, t466, t467⟩, A70, H⟩ := H
  replace H : ((palletref02_TakeSign.f k t454 t466).bind fun bt468 => (if t461 = 0 then (if t464 = 0 then (if t467 = 0 then (if bt468.2.2 = 0 then (if bt468.2.1 = (t454.length : Int) then (if t459 > 1152921504606846976 then (palletref19_Read.j0 k t453 t455 t459 t462 t465 bt468.1 true) else (palletref19_Read.j0 k t453 t455 t459 t462 t465 bt468.1 (decide (t462 > 255)))) else (palletref19_Read.j0 k t453 t455 t459 t462 t465 bt468.1 true)) else (palletref19_Read.j0 k t453 t455 t459 t462 t465 bt468.1 true)) else (palletref19_Read.j0 k t453 t455 t459 t462 t465 bt468.1 true)) else (palletref19_Read.j0 k t453 t455 t459 t462 t465 bt468.1 true)) else (palletref19_Read.j0 k t453 t455 t459 t462 t465 bt468.1 true))) = some (r1, r2, r3, r4, r5, r6, r7) := H
  have A7 := Aside0.mk A70
  clear A70
  replace H := Option.bind_eq_some_iff.mp H
  obtain ⟨⟨t468, t469, t470⟩, A80, H⟩ := H
  replace H : (if t461 = 0 then (if t464 = 0 then (if t467 = 0 then (if t470 = 0 then (if t469 = (t454.length : Int) then (if t459 > 1152921504606846976 then (palletref19_Read.j0 k t453 t455 t459 t462 t465 t468 true) else (palletref19_Read.j0 k t453 t455 t459 t462 t465 t468 (decide (t462 > 255)))) else (palletref19_Read.j0 k t453 t455 t459 t462 t465 t468 true)) else (palletref19_Read.j0 k t453 t455 t459 t462 t465 t468 true)) else (palletref19_Read.j0 k t453 t455 t459 t462 t465 t468 true)) else (palletref19_Read.j0 k t453 t455 t459 t462 t465 t468 true)) else (palletref19_Read.j0 k t453 t455 t459 t462 t465 t468 true)) = some (r1, r2, r3, r4, r5, r6, r7) := H
  have A8 := Aside0.mk A80
  clear A80
  have HC9 := Aside0.mk H
  clear H
  go_enter Tryd.func22, Tryd.ntmps22
  go_upto_region 8 with (first | ((with_reducible refine gate_dst (N := 4) rfl ?_); (try (refine gate_guard (by rfl) ?_; dsimp only)); refine box_event ?hg (N := 4) ?hd (cs := #[.int .i64 0, .int .i64 0, .int .i64 0, .int .i64 0, .int .i64 0]) (t := 30) ?hr ?_; (case hd => rfl); (case hg => rfl); (case hr => first | (go_simp; done) | (go_simp; rfl)); intro gb452 hg w10 hbox hb; have n0_ := Aside0.mk (below_step (by repeat (first | (with_reducible first | exact HB.out | apply below_alloc | apply pw_below_drewN | apply below_drew1) | exact HB.out)) hb); have n1_ := Aside0.mk (hbox); have n2_ := Aside0.mk ((by rw [hg]; exact (below_size (by repeat (first | (with_reducible first | exact HB.out | apply below_alloc | apply pw_below_drewN | apply below_drew1) | exact HB.out))) : w.heap.size ≤ gb452)); have n3_ := Aside0.mk ((by rw [hg]; exact (below_size (by repeat (first | (with_reducible first | exact HB.out | apply below_alloc | apply pw_below_drewN | apply below_drew1) | exact HB.out))) : w.heap.size ≤ gb452)); clear HB; have HB := n0_; have BK452 := n1_; have GW452 := n2_; have GE452 := n3_; clear n0_ n1_ n2_ n3_; clear hb hbox hg) | ((with_reducible refine gate_callee (f := 48) rfl ?_); refine goesL_ (some 24) rfl rfl Tryd.func48 (by kernel_rfl) rfl #[.slice A0 l0.length c0, .int .i64 a1] rfl (by (try simp only [List.map_toArray, List.map_cons, List.map_nil]); first | done | rfl | (simp only [List.length_drop, List.length_take]; first | rfl | (rw [Nat.min_eq_left (Int.toNat_le.2 (of_decide_eq_true (by assumption)))]; rfl))) ?_; (with_reducible refine (palletref02_TakeRecord.calls k _ _ l0 a1 t453 t454 t455 t456 _ ?side1 ?side2 A3.out).mono ?_); (case side1 => repeat (first | exact (Kd.C_below HR0.out HB.out) | (with_reducible refine Kd.C_alloc ?_ _) | (with_reducible refine Kd.C_drewN ?_ _) | (with_reducible refine Kd.C_drew ?_))); (case side2 => exact HC0.out); rintro e w11 ⟨v457, rfl, ho0, hb⟩; refine ⟨_, rfl, ?_⟩; have n0_ := Aside0.mk (Kd.R_lower ho0 (below_size (by repeat (first | (with_reducible first | exact HB.out | apply below_alloc | apply pw_below_drewN | apply below_drew1 | refine below_set ?_ GE452.out) | exact HB.out)))); have n1_ := Aside0.mk (blk_below (g := gb452) (o := .cells #[.int .i64 0, .int .i64 0, .int .i64 0, .int .i64 0, .int .i64 0] 30 (0, 0)) (by (with_reducible repeat (first | refine blk_drewN ?_ _ | refine blk_drew ?_ | refine blk_alloc ?_ _)); exact BK452.out) hb); have n2_ := Aside0.mk (below_step (by repeat (first | (with_reducible first | exact HB.out | apply below_alloc | apply pw_below_drewN | apply below_drew1 | refine below_set ?_ GE452.out) | exact HB.out)) hb); clear BK452; clear HB; have HO458 := n0_; have BK452 := n1_; have HB := n2_; clear n0_ n1_ n2_; (try clear hb); (try clear hb2); (try clear hk); (try clear hi); (try clear ho0); obtain ⟨Ao12, co12, eo12⟩ := Kd.R_slice HO458.out; subst eo12) | ((with_reducible refine gate_callee (f := 49) rfl ?_); refine goesL_ (some 35) rfl rfl Tryd.func49 (by kernel_rfl) rfl #[.slice Ao12 t454.length co12, .int .i64 0] rfl (by (try simp only [List.map_toArray, List.map_cons, List.map_nil]); first | done | rfl | (simp only [List.length_drop, List.length_take]; first | rfl | (rw [Nat.min_eq_left (Int.toNat_le.2 (of_decide_eq_true (by assumption)))]; rfl))) ?_; (with_reducible refine (palletref02_TakeVary.calls k _ _ t454 0 t459 t460 t461 _ ?side1 ?side2 A5.out).mono ?_); (case side1 => repeat (first | exact (Kd.R_reads' HO458.out).2.2 | (with_reducible refine Kd.C_alloc ?_ _) | (with_reducible refine Kd.C_drewN ?_ _) | (with_reducible refine Kd.C_drew ?_))); (case side2 => exact (Kd.R_reads' HO458.out).2.1); rintro e w' ⟨rfl, ⟨nd, rfl⟩⟩; refine ⟨_, rfl, ?_⟩) | ((with_reducible refine gate_callee (f := 49) rfl ?_); refine goesL_ (some 42) rfl rfl Tryd.func49 (by kernel_rfl) rfl #[.slice Ao12 t454.length co12, .int .i64 t460] rfl (by (try simp only [List.map_toArray, List.map_cons, List.map_nil]); first | done | rfl | (simp only [List.length_drop, List.length_take]; first | rfl | (rw [Nat.min_eq_left (Int.toNat_le.2 (of_decide_eq_true (by assumption)))]; rfl))) ?_; (with_reducible refine (palletref02_TakeVary.calls k _ _ t454 t460 t462 t463 t464 _ ?side1 ?side2 A6.out).mono ?_); (case side1 => repeat (first | exact (Kd.R_reads' HO458.out).2.2 | (with_reducible refine Kd.C_alloc ?_ _) | (with_reducible refine Kd.C_drewN ?_ _) | (with_reducible refine Kd.C_drew ?_))); (case side2 => exact (Kd.R_reads' HO458.out).2.1); rintro e w' ⟨rfl, ⟨nd, rfl⟩⟩; refine ⟨_, rfl, ?_⟩) | ((with_reducible refine gate_callee (f := 50) rfl ?_); refine goesL_ (some 49) rfl rfl Tryd.func50 (by kernel_rfl) rfl #[.slice Ao12 t454.length co12, .int .i64 t463] rfl (by (try simp only [List.map_toArray, List.map_cons, List.map_nil]); first | done | rfl | (simp only [List.length_drop, List.length_take]; first | rfl | (rw [Nat.min_eq_left (Int.toNat_le.2 (of_decide_eq_true (by assumption)))]; rfl))) ?_; (with_reducible refine (palletref02_TakeSign.calls k _ _ t454 t463 t465 t466 t467 _ ?side1 ?side2 A7.out).mono ?_); (case side1 => repeat (first | exact (Kd.R_reads' HO458.out).2.2 | (with_reducible refine Kd.C_alloc ?_ _) | (with_reducible refine Kd.C_drewN ?_ _) | (with_reducible refine Kd.C_drew ?_))); (case side2 => exact (Kd.R_reads' HO458.out).2.1); rintro e w' ⟨rfl, ⟨nd, rfl⟩⟩; refine ⟨_, rfl, ?_⟩) | ((with_reducible refine gate_callee (f := 50) rfl ?_); refine goesL_ (some 56) rfl rfl Tryd.func50 (by kernel_rfl) rfl #[.slice Ao12 t454.length co12, .int .i64 t466] rfl (by (try simp only [List.map_toArray, List.map_cons, List.map_nil]); first | done | rfl | (simp only [List.length_drop, List.length_take]; first | rfl | (rw [Nat.min_eq_left (Int.toNat_le.2 (of_decide_eq_true (by assumption)))]; rfl))) ?_; (with_reducible refine (palletref02_TakeSign.calls k _ _ t454 t466 t468 t469 t470 _ ?side1 ?side2 A8.out).mono ?_); (case side1 => repeat (first | exact (Kd.R_reads' HO458.out).2.2 | (with_reducible refine Kd.C_alloc ?_ _) | (with_reducible refine Kd.C_drewN ?_ _) | (with_reducible refine Kd.C_drew ?_))); (case side2 => exact (Kd.R_reads' HO458.out).2.1); rintro e w' ⟨rfl, ⟨nd, rfl⟩⟩; refine ⟨_, rfl, ?_⟩))
  (try simp only [Act.put, List.setIfInBounds_toArray, List.set_cons_zero, List.set_cons_succ])
  go_cut [87] (fun v87 wc => ∃ (kq : Nat) (x87_8 : Bool), v87 = .bool x87_8 ∧ Aside0 (palletref19_Read.j0 kq t453 t455 t459 t462 t465 t468 x87_8 = some (r1, r2, r3, r4, r5, r6, r7)) ∧ Aside0 (kq ≤ k) ∧ Aside0 (wc.heap[gb452]? = some (.cells #[.int .i64 0, .int .i64 0, .int .i64 0, .int .i64 0, .int .i64 0] 30 (0, 0))) ∧ Aside0 (Below w.heap.size w wc))
  case first =>
   have H := HC9.out
   clear HC9
   by_cases c13 : t461 = 0
   ·rw [if_pos c13] at H
    have c13b0 : (t461 == 0) = true := beq_iff_eq.mpr c13
    have c13b1 : (t461 != 0) = false := bne_eq_false_iff_eq.mpr c13
    clear c13
    (first | rw [c13b0] | (simp only [i64_w, i32_w]; rw [c13b0]) | skip)
    by_cases c14 : t464 = 0
    ·rw [if_pos c14] at H
     have c14b0 : (t464 == 0) = true := beq_iff_eq.mpr c14
     have c14b1 : (t464 != 0) = false := bne_eq_false_iff_eq.mpr c14
     clear c14
     by_cases c15 : t467 = 0
     ·rw [if_pos c15] at H
      have c15b0 : (t467 == 0) = true := beq_iff_eq.mpr c15
      have c15b1 : (t467 != 0) = false := bne_eq_false_iff_eq.mpr c15
      clear c15
      by_cases c16 : t470 = 0
      ·rw [if_pos c16] at H
       have c16b0 : (t470 == 0) = true := beq_iff_eq.mpr c16
       have c16b1 : (t470 != 0) = false := bne_eq_false_iff_eq.mpr c16
       clear c16
       by_cases c17 : t469 = (t454.length : Int)
       ·rw [if_pos c17] at H
        have c17b0 : (t469 == (t454.length : Int)) = true := beq_iff_eq.mpr c17
        have c17b1 : (t469 != (t454.length : Int)) = false := bne_eq_false_iff_eq.mpr c17
        clear c17
        by_cases c18 : t459 > 1152921504606846976
        ·rw [if_pos c18] at H
         have c18b0 : decide (1152921504606846976 < t459) = true := decide_eq_true c18
         clear c18
         have H' := Aside0.mk H
         clear H
         go_wp2
         go_meet
         case rel => exact ⟨_, (true), (by first | rfl | (simp; done) | (simp [*]; done)), H', ⟨by first | omega | exact Nat.le_refl _⟩, ⟨by (with_reducible repeat (first | refine blk_drewN ?_ _ | refine blk_drew ?_ | refine blk_alloc ?_ _)); exact BK452.out⟩, ⟨by repeat (first | (with_reducible first | exact HB.out | apply below_alloc | apply pw_below_drewN | apply below_drew1 | refine below_set ?_ GE452.out) | exact HB.out)⟩⟩
        ·rw [if_neg c18] at H
         have c18b0 : decide (1152921504606846976 < t459) = false := decide_eq_false c18
         clear c18
         have H' := Aside0.mk H
         clear H
         go_wp2
         go_meet
         case rel => exact ⟨_, (decide (t462 > 255)), (by first | rfl | (simp; done) | (simp [*]; done)), H', ⟨by first | omega | exact Nat.le_refl _⟩, ⟨by (with_reducible repeat (first | refine blk_drewN ?_ _ | refine blk_drew ?_ | refine blk_alloc ?_ _)); exact BK452.out⟩, ⟨by repeat (first | (with_reducible first | exact HB.out | apply below_alloc | apply pw_below_drewN | apply below_drew1 | refine below_set ?_ GE452.out) | exact HB.out)⟩⟩
       ·rw [if_neg c17] at H
        have c17b0 : (t469 == (t454.length : Int)) = false := beq_eq_false_iff_ne.mpr c17
        have c17b1 : (t469 != (t454.length : Int)) = true := bne_iff_ne.mpr c17
        have H' := Aside0.mk H
        clear H
        go_wp2
        go_meet
        case rel => exact ⟨_, (true), (by first | rfl | (simp; done) | (simp [*]; done)), H', ⟨by first | omega | exact Nat.le_refl _⟩, ⟨by (with_reducible repeat (first | refine blk_drewN ?_ _ | refine blk_drew ?_ | refine blk_alloc ?_ _)); exact BK452.out⟩, ⟨by repeat (first | (with_reducible first | exact HB.out | apply below_alloc | apply pw_below_drewN | apply below_drew1 | refine below_set ?_ GE452.out) | exact HB.out)⟩⟩
      ·rw [if_neg c16] at H
       have c16b0 : (t470 == 0) = false := beq_eq_false_iff_ne.mpr c16
       have c16b1 : (t470 != 0) = true := bne_iff_ne.mpr c16
       have H' := Aside0.mk H
       clear H
       go_wp2
       go_meet
       case rel => exact ⟨_, (true), (by first | rfl | (simp; done) | (simp [*]; done)), H', ⟨by first | omega | exact Nat.le_refl _⟩, ⟨by (with_reducible repeat (first | refine blk_drewN ?_ _ | refine blk_drew ?_ | refine blk_alloc ?_ _)); exact BK452.out⟩, ⟨by repeat (first | (with_reducible first | exact HB.out | apply below_alloc | apply pw_below_drewN | apply below_drew1 | refine below_set ?_ GE452.out) | exact HB.out)⟩⟩
     ·rw [if_neg c15] at H
      have c15b0 : (t467 == 0) = false := beq_eq_false_iff_ne.mpr c15
      have c15b1 : (t467 != 0) = true := bne_iff_ne.mpr c15
      have H' := Aside0.mk H
      clear H
      go_wp2
      go_meet
      case rel => exact ⟨_, (true), (by first | rfl | (simp; done) | (simp [*]; done)), H', ⟨by first | omega | exact Nat.le_refl _⟩, ⟨by (with_reducible repeat (first | refine blk_drewN ?_ _ | refine blk_drew ?_ | refine blk_alloc ?_ _)); exact BK452.out⟩, ⟨by repeat (first | (with_reducible first | exact HB.out | apply below_alloc | apply pw_below_drewN | apply below_drew1 | refine below_set ?_ GE452.out) | exact HB.out)⟩⟩
    ·rw [if_neg c14] at H
     have c14b0 : (t464 == 0) = false := beq_eq_false_iff_ne.mpr c14
     have c14b1 : (t464 != 0) = true := bne_iff_ne.mpr c14
     have H' := Aside0.mk H
     clear H
     go_wp2
     go_meet
     case rel => exact ⟨_, (true), (by first | rfl | (simp; done) | (simp [*]; done)), H', ⟨by first | omega | exact Nat.le_refl _⟩, ⟨by (with_reducible repeat (first | refine blk_drewN ?_ _ | refine blk_drew ?_ | refine blk_alloc ?_ _)); exact BK452.out⟩, ⟨by repeat (first | (with_reducible first | exact HB.out | apply below_alloc | apply pw_below_drewN | apply below_drew1 | refine below_set ?_ GE452.out) | exact HB.out)⟩⟩
   ·rw [if_neg c13] at H
    have c13b0 : (t461 == 0) = false := beq_eq_false_iff_ne.mpr c13
    have c13b1 : (t461 != 0) = true := bne_iff_ne.mpr c13
    (first | rw [c13b0] | (simp only [i64_w, i32_w]; rw [c13b0]) | skip)
    have H' := Aside0.mk H
    clear H
    go_wp2
    go_meet
    case rel => exact ⟨_, (true), (by first | rfl | (simp; done) | (simp [*]; done)), H', ⟨by first | omega | exact Nat.le_refl _⟩, ⟨by (with_reducible repeat (first | refine blk_drewN ?_ _ | refine blk_drew ?_ | refine blk_alloc ?_ _)); exact BK452.out⟩, ⟨by repeat (first | (with_reducible first | exact HB.out | apply below_alloc | apply pw_below_drewN | apply below_drew1 | refine below_set ?_ GE452.out) | exact HB.out)⟩⟩
  case rest =>
   clear HC9
   try clear c1
   try clear c2
   try clear p2
   try clear c4
   try clear c4b0
   try clear c4b1
   try clear c5
   try clear c13
   try clear c13b0
   try clear c13b1
   try clear c14
   try clear c14b0
   try clear c14b1
   try clear c15
   try clear c15b0
   try clear c15b1
   try clear c16
   try clear c16b0
   try clear c16b1
   try clear c17
   try clear c17b0
   try clear c17b1
   try clear c18
   try clear c18b0
   obtain ⟨kq, x87_8, rfl, HA, HJ8, BK452, HB⟩ := hcut
   cases kq with
   | zero => exact absurd HA.out (by simp [palletref19_Read.j0])
   | succ kj8 =>
    have H := HA.out
    clear HA
    simp only [palletref19_Read.j0] at H
    by_cases c19 : x87_8 = true
    ·subst c19
     have H1 : (some (0, 0, 0, 0, 0, 0, 4)) = some (r1, r2, r3, r4, r5, r6, r7) := by rw [if_pos rfl] at H; exact H
     clear H
     have H := H1
     clear H1
     simp only [Option.some.injEq, Prod.mk.injEq] at H
     obtain ⟨rfl, rfl, rfl, rfl, rfl, rfl, rfl⟩ := H
     have hcz20_0 : wc.cell? ⟨gb452, 0, none⟩ = some (.int .i64 0) := (blk_cell BK452.out 0).trans rfl
     have hcz20_1 : wc.cell? ⟨gb452, 1, none⟩ = some (.int .i64 0) := (blk_cell BK452.out 1).trans rfl
     have hcz20_2 : wc.cell? ⟨gb452, 2, none⟩ = some (.int .i64 0) := (blk_cell BK452.out 2).trans rfl
     have hcz20_3 : wc.cell? ⟨gb452, 3, none⟩ = some (.int .i64 0) := (blk_cell BK452.out 3).trans rfl
     have hcz20_4 : wc.cell? ⟨gb452, 4, none⟩ = some (.int .i64 0) := (blk_cell BK452.out 4).trans rfl
     have hfz20_0 := blk_frozen BK452.out 0
     have hfz20_1 := blk_frozen BK452.out 1
     have hfz20_2 := blk_frozen BK452.out 2
     have hfz20_3 := blk_frozen BK452.out 3
     have hfz20_4 := blk_frozen BK452.out 4
     go_wp2
     refine bodyPost_ret (results_ctt rfl _ _ gb452 30 #[.int .i64 0, .int .i64 0, .int .i64 0, .int .i64 0, .int .i64 0] (0, 0) _ rfl (by (with_reducible repeat (first | refine blk_drewN ?_ _ | refine blk_drew ?_ | refine blk_alloc ?_ _)); refine blk_put (cs := #[.int .i64 0, .int .i64 0, .int .i64 0, .int .i64 0, .int .i64 0]) ?_ 4 _ rfl; (with_reducible repeat (first | refine blk_drewN ?_ _ | refine blk_drew ?_ | refine blk_alloc ?_ _)); refine blk_put (cs := #[.int .i64 0, .int .i64 0, .int .i64 0, .int .i64 0, .int .i64 0]) ?_ 3 _ rfl; (with_reducible repeat (first | refine blk_drewN ?_ _ | refine blk_drew ?_ | refine blk_alloc ?_ _)); refine blk_put (cs := #[.int .i64 0, .int .i64 0, .int .i64 0, .int .i64 0, .int .i64 0]) ?_ 2 _ rfl; (with_reducible repeat (first | refine blk_drewN ?_ _ | refine blk_drew ?_ | refine blk_alloc ?_ _)); refine blk_put (cs := #[.int .i64 0, .int .i64 0, .int .i64 0, .int .i64 0, .int .i64 0]) ?_ 1 _ rfl; (with_reducible repeat (first | refine blk_drewN ?_ _ | refine blk_drew ?_ | refine blk_alloc ?_ _)); refine blk_put (cs := #[.int .i64 0, .int .i64 0, .int .i64 0, .int .i64 0, .int .i64 0]) ?_ 0 _ rfl; (with_reducible repeat (first | refine blk_drewN ?_ _ | refine blk_drew ?_ | refine blk_alloc ?_ _)); exact BK452.out) Tryd.underlying30 rfl (by kernel_rfl)) rfl ?_
     exact ⟨by first | rfl | (simp [errW_none, errW_some] <;> rfl) | (simp [*, errW_none, errW_some] <;> rfl), by repeat (first | (with_reducible first | exact HB.out | apply below_alloc | apply pw_below_drewN | apply below_drew1 | refine below_set ?_ GE452.out) | exact HB.out)⟩
    ·replace c19 := Bool.eq_false_iff.mpr c19
     subst c19
     have H1 : ((palletref19_One.f kj8 (wrap64 (t459)) (wrap64 (t453)) (wrap64 (t462)) t465 t468).bind fun t472 => (if t472 = true then (some (wrap64 (t459), wrap64 (t453), wrap64 (t462), t465, t468, t455, 0)) else (some (0, 0, 0, 0, 0, 0, 4)))) = some (r1, r2, r3, r4, r5, r6, r7) := by rw [if_neg (show ¬ (false = true) by decide)] at H; exact H
     clear H
     have H := H1
     clear H1
     replace H := Option.bind_eq_some_iff.mp H
     obtain ⟨t472, A210, H⟩ := H
     replace H : (if t472 = true then (some (wrap64 (t459), wrap64 (t453), wrap64 (t462), t465, t468, t455, 0)) else (some (0, 0, 0, 0, 0, 0, 4))) = some (r1, r2, r3, r4, r5, r6, r7) := H
     have A21 := Aside0.mk A210
     clear A210
     by_cases c22 : t472 = true
     ·subst c22
      have H1 : (some (wrap64 (t459), wrap64 (t453), wrap64 (t462), t465, t468, t455, 0)) = some (r1, r2, r3, r4, r5, r6, r7) := by rw [if_pos rfl] at H; exact H
      clear H
      have H := H1
      clear H1
      simp only [Option.some.injEq, Prod.mk.injEq] at H
      obtain ⟨rfl, rfl, rfl, rfl, rfl, rfl, rfl⟩ := H
      go_wp2_with (first | ((with_reducible refine gate_dst (N := 20) rfl ?_); (try (refine gate_guard (by rfl) ?_; dsimp only)); refine box_event ?hg (N := 20) ?hd (cs := #[.int .i64 0, .int .i64 0, .int .i64 0, .int .i64 0, .int .i64 0]) (t := 30) ?hr ?_; (case hd => rfl); (case hg => rfl); (case hr => first | (go_simp; done) | (go_simp; rfl)); intro gb471 hg w23 hbox hb; have n0_ := Aside0.mk (blk_below (g := gb452) (o := .cells #[.int .i64 0, .int .i64 0, .int .i64 0, .int .i64 0, .int .i64 0] 30 (0, 0)) (by (with_reducible repeat (first | refine blk_drewN ?_ _ | refine blk_drew ?_ | refine blk_alloc ?_ _)); exact BK452.out) hb); have n1_ := Aside0.mk (below_step (by repeat (first | (with_reducible first | exact HB.out | apply below_alloc | apply pw_below_drewN | apply below_drew1 | refine below_set ?_ GE452.out) | exact HB.out)) hb); have n2_ := Aside0.mk (hbox); have n3_ := Aside0.mk ((by rw [hg]; exact (below_size (by repeat (first | (with_reducible first | exact HB.out | apply below_alloc | apply pw_below_drewN | apply below_drew1 | refine below_set ?_ GE452.out) | exact HB.out))) : w.heap.size ≤ gb471)); have n4_ := Aside0.mk ((by rw [hg]; exact (below_size (by repeat (first | (with_reducible first | exact HB.out | apply below_alloc | apply pw_below_drewN | apply below_drew1 | refine below_set ?_ GE452.out) | exact HB.out))) : w.heap.size ≤ gb471)); have n5_ := Aside0.mk ((by rw [hg]; exact Nat.ne_of_lt (blk_lt (g := gb452) (o := .cells #[.int .i64 0, .int .i64 0, .int .i64 0, .int .i64 0, .int .i64 0] 30 (0, 0)) (by (with_reducible repeat (first | refine blk_drewN ?_ _ | refine blk_drew ?_ | refine blk_alloc ?_ _)); exact BK452.out)) : gb452 ≠ gb471)); have n6_ := Aside0.mk ((by rw [hg]; exact Nat.ne_of_gt (blk_lt (g := gb452) (o := .cells #[.int .i64 0, .int .i64 0, .int .i64 0, .int .i64 0, .int .i64 0] 30 (0, 0)) (by (with_reducible repeat (first | refine blk_drewN ?_ _ | refine blk_drew ?_ | refine blk_alloc ?_ _)); exact BK452.out)) : gb471 ≠ gb452)); clear BK452; clear HB; have BK452 := n0_; have HB := n1_; have BK471 := n2_; have GW471 := n3_; have GE471 := n4_; have NB452_471 := n5_; have NB471_452 := n6_; clear n0_ n1_ n2_ n3_ n4_ n5_ n6_; clear hb hbox hg; have hnb24 := NB471_452.out; have hnc24 := NB452_471.out; have hcz25_0 : w23.cell? ⟨gb471, 0, none⟩ = some (.int .i64 0) := (blk_cell BK471.out 0).trans rfl; have hcz25_1 : w23.cell? ⟨gb471, 1, none⟩ = some (.int .i64 0) := (blk_cell BK471.out 1).trans rfl; have hcz25_2 : w23.cell? ⟨gb471, 2, none⟩ = some (.int .i64 0) := (blk_cell BK471.out 2).trans rfl; have hcz25_3 : w23.cell? ⟨gb471, 3, none⟩ = some (.int .i64 0) := (blk_cell BK471.out 3).trans rfl; have hcz25_4 : w23.cell? ⟨gb471, 4, none⟩ = some (.int .i64 0) := (blk_cell BK471.out 4).trans rfl; have hfz25_0 := blk_frozen BK471.out 0; have hfz25_1 := blk_frozen BK471.out 1; have hfz25_2 := blk_frozen BK471.out 2; have hfz25_3 := blk_frozen BK471.out 3; have hfz25_4 := blk_frozen BK471.out 4) | ((with_reducible refine gate_callee (f := 38) rfl ?_); refine goesL_ (some 99) rfl rfl Tryd.func38 (by kernel_rfl) rfl #[.agg #[.int .i64 (wrap64 (t459)), .int .i64 (wrap64 (t453)), .int .i64 (wrap64 (t462)), .int .i64 t465, .int .i64 t468]] rfl (by (try simp only [List.map_toArray, List.map_cons, List.map_nil]); first | done | rfl | (simp only [List.length_drop, List.length_take]; first | rfl | (rw [Nat.min_eq_left (Int.toNat_le.2 (of_decide_eq_true (by assumption)))]; rfl))) ?_; (with_reducible refine (palletref19_One.calls kj8 (wrap64 (t459)) (wrap64 (t453)) (wrap64 (t462)) t465 t468 true _ A21.out).mono ?_); rintro e w26 ⟨rfl, hb⟩; refine ⟨_, rfl, ?_⟩; have n0_ := Aside0.mk (blk_below (g := gb452) (o := .cells #[.int .i64 0, .int .i64 0, .int .i64 0, .int .i64 0, .int .i64 0] 30 (0, 0)) (by (with_reducible repeat (first | refine blk_drewN ?_ _ | refine blk_drew ?_ | refine blk_alloc ?_ _)); refine blk_far ?_ NB452_471.out _; (with_reducible repeat (first | refine blk_drewN ?_ _ | refine blk_drew ?_ | refine blk_alloc ?_ _)); refine blk_far ?_ NB452_471.out _; (with_reducible repeat (first | refine blk_drewN ?_ _ | refine blk_drew ?_ | refine blk_alloc ?_ _)); refine blk_far ?_ NB452_471.out _; (with_reducible repeat (first | refine blk_drewN ?_ _ | refine blk_drew ?_ | refine blk_alloc ?_ _)); refine blk_far ?_ NB452_471.out _; (with_reducible repeat (first | refine blk_drewN ?_ _ | refine blk_drew ?_ | refine blk_alloc ?_ _)); refine blk_far ?_ NB452_471.out _; (with_reducible repeat (first | refine blk_drewN ?_ _ | refine blk_drew ?_ | refine blk_alloc ?_ _)); exact BK452.out) hb); have n1_ := Aside0.mk (blk_below (g := gb471) (o := .cells #[.int .i64 (wrap64 (t459)), .int .i64 (wrap64 (t453)), .int .i64 (wrap64 (t462)), .int .i64 t465, .int .i64 t468] 30 (0, 0)) (by (with_reducible repeat (first | refine blk_drewN ?_ _ | refine blk_drew ?_ | refine blk_alloc ?_ _)); refine blk_put (cs := #[.int .i64 (wrap64 (t459)), .int .i64 (wrap64 (t453)), .int .i64 (wrap64 (t462)), .int .i64 t465, .int .i64 0]) ?_ 4 _ rfl; (with_reducible repeat (first | refine blk_drewN ?_ _ | refine blk_drew ?_ | refine blk_alloc ?_ _)); refine blk_put (cs := #[.int .i64 (wrap64 (t459)), .int .i64 (wrap64 (t453)), .int .i64 (wrap64 (t462)), .int .i64 0, .int .i64 0]) ?_ 3 _ rfl; (with_reducible repeat (first | refine blk_drewN ?_ _ | refine blk_drew ?_ | refine blk_alloc ?_ _)); refine blk_put (cs := #[.int .i64 (wrap64 (t459)), .int .i64 (wrap64 (t453)), .int .i64 0, .int .i64 0, .int .i64 0]) ?_ 2 _ rfl; (with_reducible repeat (first | refine blk_drewN ?_ _ | refine blk_drew ?_ | refine blk_alloc ?_ _)); refine blk_put (cs := #[.int .i64 (wrap64 (t459)), .int .i64 0, .int .i64 0, .int .i64 0, .int .i64 0]) ?_ 1 _ rfl; (with_reducible repeat (first | refine blk_drewN ?_ _ | refine blk_drew ?_ | refine blk_alloc ?_ _)); refine blk_put (cs := #[.int .i64 0, .int .i64 0, .int .i64 0, .int .i64 0, .int .i64 0]) ?_ 0 _ rfl; (with_reducible repeat (first | refine blk_drewN ?_ _ | refine blk_drew ?_ | refine blk_alloc ?_ _)); exact BK471.out) hb); have n2_ := Aside0.mk (below_step (by repeat (first | (with_reducible first | exact HB.out | apply below_alloc | apply pw_below_drewN | apply below_drew1 | refine below_set ?_ GE452.out | refine below_set ?_ GE471.out) | exact HB.out)) hb); clear BK452; clear BK471; clear HB; have BK452 := n0_; have BK471 := n1_; have HB := n2_; clear n0_ n1_ n2_; (try clear hb); (try clear hb2); (try clear hk); (try clear hi); have hcz27_0 : w26.cell? ⟨gb471, 0, none⟩ = some (.int .i64 (wrap64 (t459))) := (blk_cell BK471.out 0).trans rfl; have hcz27_1 : w26.cell? ⟨gb471, 1, none⟩ = some (.int .i64 (wrap64 (t453))) := (blk_cell BK471.out 1).trans rfl; have hcz27_2 : w26.cell? ⟨gb471, 2, none⟩ = some (.int .i64 (wrap64 (t462))) := (blk_cell BK471.out 2).trans rfl; have hcz27_3 : w26.cell? ⟨gb471, 3, none⟩ = some (.int .i64 t465) := (blk_cell BK471.out 3).trans rfl; have hcz27_4 : w26.cell? ⟨gb471, 4, none⟩ = some (.int .i64 t468) := (blk_cell BK471.out 4).trans rfl; have hfz27_0 := blk_frozen BK471.out 0; have hfz27_1 := blk_frozen BK471.out 1; have hfz27_2 := blk_frozen BK471.out 2; have hfz27_3 := blk_frozen BK471.out 3; have hfz27_4 := blk_frozen BK471.out 4; have hcz28_0 : w26.cell? ⟨gb452, 0, none⟩ = some (.int .i64 0) := (blk_cell BK452.out 0).trans rfl; have hcz28_1 : w26.cell? ⟨gb452, 1, none⟩ = some (.int .i64 0) := (blk_cell BK452.out 1).trans rfl; have hcz28_2 : w26.cell? ⟨gb452, 2, none⟩ = some (.int .i64 0) := (blk_cell BK452.out 2).trans rfl; have hcz28_3 : w26.cell? ⟨gb452, 3, none⟩ = some (.int .i64 0) := (blk_cell BK452.out 3).trans rfl; have hcz28_4 : w26.cell? ⟨gb452, 4, none⟩ = some (.int .i64 0) := (blk_cell BK452.out 4).trans rfl; have hfz28_0 := blk_frozen BK452.out 0; have hfz28_1 := blk_frozen BK452.out 1; have hfz28_2 := blk_frozen BK452.out 2; have hfz28_3 := blk_frozen BK452.out 3; have hfz28_4 := blk_frozen BK452.out 4))
      refine bodyPost_ret (results_ctt rfl _ _ gb452 30 #[.int .i64 (wrap64 (t459)), .int .i64 (wrap64 (t453)), .int .i64 (wrap64 (t462)), .int .i64 t465, .int .i64 t468] (0, 0) _ rfl (by (with_reducible repeat (first | refine blk_drewN ?_ _ | refine blk_drew ?_ | refine blk_alloc ?_ _)); refine blk_put (cs := #[.int .i64 (wrap64 (t459)), .int .i64 (wrap64 (t453)), .int .i64 (wrap64 (t462)), .int .i64 t465, .int .i64 0]) ?_ 4 _ rfl; (with_reducible repeat (first | refine blk_drewN ?_ _ | refine blk_drew ?_ | refine blk_alloc ?_ _)); refine blk_put (cs := #[.int .i64 (wrap64 (t459)), .int .i64 (wrap64 (t453)), .int .i64 (wrap64 (t462)), .int .i64 0, .int .i64 0]) ?_ 3 _ rfl; (with_reducible repeat (first | refine blk_drewN ?_ _ | refine blk_drew ?_ | refine blk_alloc ?_ _)); refine blk_put (cs := #[.int .i64 (wrap64 (t459)), .int .i64 (wrap64 (t453)), .int .i64 0, .int .i64 0, .int .i64 0]) ?_ 2 _ rfl; (with_reducible repeat (first | refine blk_drewN ?_ _ | refine blk_drew ?_ | refine blk_alloc ?_ _)); refine blk_put (cs := #[.int .i64 (wrap64 (t459)), .int .i64 0, .int .i64 0, .int .i64 0, .int .i64 0]) ?_ 1 _ rfl; (with_reducible repeat (first | refine blk_drewN ?_ _ | refine blk_drew ?_ | refine blk_alloc ?_ _)); refine blk_put (cs := #[.int .i64 0, .int .i64 0, .int .i64 0, .int .i64 0, .int .i64 0]) ?_ 0 _ rfl; (with_reducible repeat (first | refine blk_drewN ?_ _ | refine blk_drew ?_ | refine blk_alloc ?_ _)); exact BK452.out) Tryd.underlying30 rfl (by kernel_rfl)) rfl ?_
      exact ⟨by first | rfl | (simp [errW_none, errW_some] <;> rfl) | (simp [*, errW_none, errW_some] <;> rfl), by repeat (first | (with_reducible first | exact HB.out | apply below_alloc | apply pw_below_drewN | apply below_drew1 | refine below_set ?_ GE452.out | refine below_set ?_ GE471.out) | exact HB.out)⟩
     ·replace c22 := Bool.eq_false_iff.mpr c22
      subst c22
      have H1 : (some (0, 0, 0, 0, 0, 0, 4)) = some (r1, r2, r3, r4, r5, r6, r7) := by rw [if_neg (show ¬ (false = true) by decide)] at H; exact H
      clear H
      have H := H1
      clear H1
      simp only [Option.some.injEq, Prod.mk.injEq] at H
      obtain ⟨rfl, rfl, rfl, rfl, rfl, rfl, rfl⟩ := H
      go_wp2_with (first | ((with_reducible refine gate_dst (N := 20) rfl ?_); (try (refine gate_guard (by rfl) ?_; dsimp only)); refine box_event ?hg (N := 20) ?hd (cs := #[.int .i64 0, .int .i64 0, .int .i64 0, .int .i64 0, .int .i64 0]) (t := 30) ?hr ?_; (case hd => rfl); (case hg => rfl); (case hr => first | (go_simp; done) | (go_simp; rfl)); intro gb471 hg w29 hbox hb; have n0_ := Aside0.mk (blk_below (g := gb452) (o := .cells #[.int .i64 0, .int .i64 0, .int .i64 0, .int .i64 0, .int .i64 0] 30 (0, 0)) (by (with_reducible repeat (first | refine blk_drewN ?_ _ | refine blk_drew ?_ | refine blk_alloc ?_ _)); exact BK452.out) hb); have n1_ := Aside0.mk (below_step (by repeat (first | (with_reducible first | exact HB.out | apply below_alloc | apply pw_below_drewN | apply below_drew1 | refine below_set ?_ GE452.out) | exact HB.out)) hb); have n2_ := Aside0.mk (hbox); have n3_ := Aside0.mk ((by rw [hg]; exact (below_size (by repeat (first | (with_reducible first | exact HB.out | apply below_alloc | apply pw_below_drewN | apply below_drew1 | refine below_set ?_ GE452.out) | exact HB.out))) : w.heap.size ≤ gb471)); have n4_ := Aside0.mk ((by rw [hg]; exact (below_size (by repeat (first | (with_reducible first | exact HB.out | apply below_alloc | apply pw_below_drewN | apply below_drew1 | refine below_set ?_ GE452.out) | exact HB.out))) : w.heap.size ≤ gb471)); have n5_ := Aside0.mk ((by rw [hg]; exact Nat.ne_of_lt (blk_lt (g := gb452) (o := .cells #[.int .i64 0, .int .i64 0, .int .i64 0, .int .i64 0, .int .i64 0] 30 (0, 0)) (by (with_reducible repeat (first | refine blk_drewN ?_ _ | refine blk_drew ?_ | refine blk_alloc ?_ _)); exact BK452.out)) : gb452 ≠ gb471)); have n6_ := Aside0.mk ((by rw [hg]; exact Nat.ne_of_gt (blk_lt (g := gb452) (o := .cells #[.int .i64 0, .int .i64 0, .int .i64 0, .int .i64 0, .int .i64 0] 30 (0, 0)) (by (with_reducible repeat (first | refine blk_drewN ?_ _ | refine blk_drew ?_ | refine blk_alloc ?_ _)); exact BK452.out)) : gb471 ≠ gb452)); clear BK452; clear HB; have BK452 := n0_; have HB := n1_; have BK471 := n2_; have GW471 := n3_; have GE471 := n4_; have NB452_471 := n5_; have NB471_452 := n6_; clear n0_ n1_ n2_ n3_ n4_ n5_ n6_; clear hb hbox hg; have hnb30 := NB471_452.out; have hnc30 := NB452_471.out; have hcz31_0 : w29.cell? ⟨gb471, 0, none⟩ = some (.int .i64 0) := (blk_cell BK471.out 0).trans rfl; have hcz31_1 : w29.cell? ⟨gb471, 1, none⟩ = some (.int .i64 0) := (blk_cell BK471.out 1).trans rfl; have hcz31_2 : w29.cell? ⟨gb471, 2, none⟩ = some (.int .i64 0) := (blk_cell BK471.out 2).trans rfl; have hcz31_3 : w29.cell? ⟨gb471, 3, none⟩ = some (.int .i64 0) := (blk_cell BK471.out 3).trans rfl; have hcz31_4 : w29.cell? ⟨gb471, 4, none⟩ = some (.int .i64 0) := (blk_cell BK471.out 4).trans rfl; have hfz31_0 := blk_frozen BK471.out 0; have hfz31_1 := blk_frozen BK471.out 1; have hfz31_2 := blk_frozen BK471.out 2; have hfz31_3 := blk_frozen BK471.out 3; have hfz31_4 := blk_frozen BK471.out 4) | ((with_reducible refine gate_callee (f := 38) rfl ?_); refine goesL_ (some 99) rfl rfl Tryd.func38 (by kernel_rfl) rfl #[.agg #[.int .i64 (wrap64 (t459)), .int .i64 (wrap64 (t453)), .int .i64 (wrap64 (t462)), .int .i64 t465, .int .i64 t468]] rfl (by (try simp only [List.map_toArray, List.map_cons, List.map_nil]); first | done | rfl | (simp only [List.length_drop, List.length_take]; first | rfl | (rw [Nat.min_eq_left (Int.toNat_le.2 (of_decide_eq_true (by assumption)))]; rfl))) ?_; (with_reducible refine (palletref19_One.calls kj8 (wrap64 (t459)) (wrap64 (t453)) (wrap64 (t462)) t465 t468 false _ A21.out).mono ?_); rintro e w32 ⟨rfl, hb⟩; refine ⟨_, rfl, ?_⟩; have n0_ := Aside0.mk (blk_below (g := gb452) (o := .cells #[.int .i64 0, .int .i64 0, .int .i64 0, .int .i64 0, .int .i64 0] 30 (0, 0)) (by (with_reducible repeat (first | refine blk_drewN ?_ _ | refine blk_drew ?_ | refine blk_alloc ?_ _)); refine blk_far ?_ NB452_471.out _; (with_reducible repeat (first | refine blk_drewN ?_ _ | refine blk_drew ?_ | refine blk_alloc ?_ _)); refine blk_far ?_ NB452_471.out _; (with_reducible repeat (first | refine blk_drewN ?_ _ | refine blk_drew ?_ | refine blk_alloc ?_ _)); refine blk_far ?_ NB452_471.out _; (with_reducible repeat (first | refine blk_drewN ?_ _ | refine blk_drew ?_ | refine blk_alloc ?_ _)); refine blk_far ?_ NB452_471.out _; (with_reducible repeat (first | refine blk_drewN ?_ _ | refine blk_drew ?_ | refine blk_alloc ?_ _)); refine blk_far ?_ NB452_471.out _; (with_reducible repeat (first | refine blk_drewN ?_ _ | refine blk_drew ?_ | refine blk_alloc ?_ _)); exact BK452.out) hb); have n1_ := Aside0.mk (blk_below (g := gb471) (o := .cells #[.int .i64 (wrap64 (t459)), .int .i64 (wrap64 (t453)), .int .i64 (wrap64 (t462)), .int .i64 t465, .int .i64 t468] 30 (0, 0)) (by (with_reducible repeat (first | refine blk_drewN ?_ _ | refine blk_drew ?_ | refine blk_alloc ?_ _)); refine blk_put (cs := #[.int .i64 (wrap64 (t459)), .int .i64 (wrap64 (t453)), .int .i64 (wrap64 (t462)), .int .i64 t465, .int .i64 0]) ?_ 4 _ rfl; (with_reducible repeat (first | refine blk_drewN ?_ _ | refine blk_drew ?_ | refine blk_alloc ?_ _)); refine blk_put (cs := #[.int .i64 (wrap64 (t459)), .int .i64 (wrap64 (t453)), .int .i64 (wrap64 (t462)), .int .i64 0, .int .i64 0]) ?_ 3 _ rfl; (with_reducible repeat (first | refine blk_drewN ?_ _ | refine blk_drew ?_ | refine blk_alloc ?_ _)); refine blk_put (cs := #[.int .i64 (wrap64 (t459)), .int .i64 (wrap64 (t453)), .int .i64 0, .int .i64 0, .int .i64 0]) ?_ 2 _ rfl; (with_reducible repeat (first | refine blk_drewN ?_ _ | refine blk_drew ?_ | refine blk_alloc ?_ _)); refine blk_put (cs := #[.int .i64 (wrap64 (t459)), .int .i64 0, .int .i64 0, .int .i64 0, .int .i64 0]) ?_ 1 _ rfl; (with_reducible repeat (first | refine blk_drewN ?_ _ | refine blk_drew ?_ | refine blk_alloc ?_ _)); refine blk_put (cs := #[.int .i64 0, .int .i64 0, .int .i64 0, .int .i64 0, .int .i64 0]) ?_ 0 _ rfl; (with_reducible repeat (first | refine blk_drewN ?_ _ | refine blk_drew ?_ | refine blk_alloc ?_ _)); exact BK471.out) hb); have n2_ := Aside0.mk (below_step (by repeat (first | (with_reducible first | exact HB.out | apply below_alloc | apply pw_below_drewN | apply below_drew1 | refine below_set ?_ GE452.out | refine below_set ?_ GE471.out) | exact HB.out)) hb); clear BK452; clear BK471; clear HB; have BK452 := n0_; have BK471 := n1_; have HB := n2_; clear n0_ n1_ n2_; (try clear hb); (try clear hb2); (try clear hk); (try clear hi); have hcz33_0 : w32.cell? ⟨gb452, 0, none⟩ = some (.int .i64 0) := (blk_cell BK452.out 0).trans rfl; have hcz33_1 : w32.cell? ⟨gb452, 1, none⟩ = some (.int .i64 0) := (blk_cell BK452.out 1).trans rfl; have hcz33_2 : w32.cell? ⟨gb452, 2, none⟩ = some (.int .i64 0) := (blk_cell BK452.out 2).trans rfl; have hcz33_3 : w32.cell? ⟨gb452, 3, none⟩ = some (.int .i64 0) := (blk_cell BK452.out 3).trans rfl; have hcz33_4 : w32.cell? ⟨gb452, 4, none⟩ = some (.int .i64 0) := (blk_cell BK452.out 4).trans rfl; have hfz33_0 := blk_frozen BK452.out 0; have hfz33_1 := blk_frozen BK452.out 1; have hfz33_2 := blk_frozen BK452.out 2; have hfz33_3 := blk_frozen BK452.out 3; have hfz33_4 := blk_frozen BK452.out 4))
      refine bodyPost_ret (results_ctt rfl _ _ gb452 30 #[.int .i64 0, .int .i64 0, .int .i64 0, .int .i64 0, .int .i64 0] (0, 0) _ rfl (by (with_reducible repeat (first | refine blk_drewN ?_ _ | refine blk_drew ?_ | refine blk_alloc ?_ _)); refine blk_put (cs := #[.int .i64 0, .int .i64 0, .int .i64 0, .int .i64 0, .int .i64 0]) ?_ 4 _ rfl; (with_reducible repeat (first | refine blk_drewN ?_ _ | refine blk_drew ?_ | refine blk_alloc ?_ _)); refine blk_put (cs := #[.int .i64 0, .int .i64 0, .int .i64 0, .int .i64 0, .int .i64 0]) ?_ 3 _ rfl; (with_reducible repeat (first | refine blk_drewN ?_ _ | refine blk_drew ?_ | refine blk_alloc ?_ _)); refine blk_put (cs := #[.int .i64 0, .int .i64 0, .int .i64 0, .int .i64 0, .int .i64 0]) ?_ 2 _ rfl; (with_reducible repeat (first | refine blk_drewN ?_ _ | refine blk_drew ?_ | refine blk_alloc ?_ _)); refine blk_put (cs := #[.int .i64 0, .int .i64 0, .int .i64 0, .int .i64 0, .int .i64 0]) ?_ 1 _ rfl; (with_reducible repeat (first | refine blk_drewN ?_ _ | refine blk_drew ?_ | refine blk_alloc ?_ _)); refine blk_put (cs := #[.int .i64 0, .int .i64 0, .int .i64 0, .int .i64 0, .int .i64 0]) ?_ 0 _ rfl; (with_reducible repeat (first | refine blk_drewN ?_ _ | refine blk_drew ?_ | refine blk_alloc ?_ _)); exact BK452.out) Tryd.underlying30 rfl (by kernel_rfl)) rfl ?_
      exact ⟨by first | rfl | (simp [errW_none, errW_some] <;> rfl) | (simp [*, errW_none, errW_some] <;> rfl), by repeat (first | (with_reducible first | exact HB.out | apply below_alloc | apply pw_below_drewN | apply below_drew1 | refine below_set ?_ GE452.out | refine below_set ?_ GE471.out) | exact HB.out)⟩
 ·rw [if_neg c4] at H
  have c4b0 : (t456 == 0) = false := beq_eq_false_iff_ne.mpr c4
  have c4b1 : (t456 != 0) = true := bne_iff_ne.mpr c4
  simp only [Option.some.injEq, Prod.mk.injEq] at H
  obtain ⟨rfl, rfl, rfl, rfl, rfl, rfl, rfl⟩ := H
  go_enter Tryd.func22, Tryd.ntmps22
  go_wp2_with (first | ((with_reducible refine gate_dst (N := 4) rfl ?_); (try (refine gate_guard (by rfl) ?_; dsimp only)); refine box_event ?hg (N := 4) ?hd (cs := #[.int .i64 0, .int .i64 0, .int .i64 0, .int .i64 0, .int .i64 0]) (t := 30) ?hr ?_; (case hd => rfl); (case hg => rfl); (case hr => first | (go_simp; done) | (go_simp; rfl)); intro gb452 hg w34 hbox hb; have n0_ := Aside0.mk (below_step (by repeat (first | (with_reducible first | exact HB.out | apply below_alloc | apply pw_below_drewN | apply below_drew1) | exact HB.out)) hb); have n1_ := Aside0.mk (hbox); have n2_ := Aside0.mk ((by rw [hg]; exact (below_size (by repeat (first | (with_reducible first | exact HB.out | apply below_alloc | apply pw_below_drewN | apply below_drew1) | exact HB.out))) : w.heap.size ≤ gb452)); have n3_ := Aside0.mk ((by rw [hg]; exact (below_size (by repeat (first | (with_reducible first | exact HB.out | apply below_alloc | apply pw_below_drewN | apply below_drew1) | exact HB.out))) : w.heap.size ≤ gb452)); clear HB; have HB := n0_; have BK452 := n1_; have GW452 := n2_; have GE452 := n3_; clear n0_ n1_ n2_ n3_; clear hb hbox hg) | ((with_reducible refine gate_callee (f := 48) rfl ?_); refine goesL_ (some 24) rfl rfl Tryd.func48 (by kernel_rfl) rfl #[.slice A0 l0.length c0, .int .i64 a1] rfl (by (try simp only [List.map_toArray, List.map_cons, List.map_nil]); first | done | rfl | (simp only [List.length_drop, List.length_take]; first | rfl | (rw [Nat.min_eq_left (Int.toNat_le.2 (of_decide_eq_true (by assumption)))]; rfl))) ?_; (with_reducible refine (palletref02_TakeRecord.calls k _ _ l0 a1 t453 t454 t455 t456 _ ?side1 ?side2 A3.out).mono ?_); (case side1 => repeat (first | exact (Kd.C_below HR0.out HB.out) | (with_reducible refine Kd.C_alloc ?_ _) | (with_reducible refine Kd.C_drewN ?_ _) | (with_reducible refine Kd.C_drew ?_))); (case side2 => exact HC0.out); rintro e w35 ⟨v457, rfl, ho0, hb⟩; refine ⟨_, rfl, ?_⟩; have n0_ := Aside0.mk (Kd.R_lower ho0 (below_size (by repeat (first | (with_reducible first | exact HB.out | apply below_alloc | apply pw_below_drewN | apply below_drew1 | refine below_set ?_ GE452.out) | exact HB.out)))); have n1_ := Aside0.mk (blk_below (g := gb452) (o := .cells #[.int .i64 0, .int .i64 0, .int .i64 0, .int .i64 0, .int .i64 0] 30 (0, 0)) (by (with_reducible repeat (first | refine blk_drewN ?_ _ | refine blk_drew ?_ | refine blk_alloc ?_ _)); exact BK452.out) hb); have n2_ := Aside0.mk (below_step (by repeat (first | (with_reducible first | exact HB.out | apply below_alloc | apply pw_below_drewN | apply below_drew1 | refine below_set ?_ GE452.out) | exact HB.out)) hb); clear BK452; clear HB; have HO458 := n0_; have BK452 := n1_; have HB := n2_; clear n0_ n1_ n2_; (try clear hb); (try clear hb2); (try clear hk); (try clear hi); (try clear ho0); have hcz36_0 : w35.cell? ⟨gb452, 0, none⟩ = some (.int .i64 0) := (blk_cell BK452.out 0).trans rfl; have hcz36_1 : w35.cell? ⟨gb452, 1, none⟩ = some (.int .i64 0) := (blk_cell BK452.out 1).trans rfl; have hcz36_2 : w35.cell? ⟨gb452, 2, none⟩ = some (.int .i64 0) := (blk_cell BK452.out 2).trans rfl; have hcz36_3 : w35.cell? ⟨gb452, 3, none⟩ = some (.int .i64 0) := (blk_cell BK452.out 3).trans rfl; have hcz36_4 : w35.cell? ⟨gb452, 4, none⟩ = some (.int .i64 0) := (blk_cell BK452.out 4).trans rfl; have hfz36_0 := blk_frozen BK452.out 0; have hfz36_1 := blk_frozen BK452.out 1; have hfz36_2 := blk_frozen BK452.out 2; have hfz36_3 := blk_frozen BK452.out 3; have hfz36_4 := blk_frozen BK452.out 4))
  refine bodyPost_ret (results_ctt rfl _ _ gb452 30 #[.int .i64 0, .int .i64 0, .int .i64 0, .int .i64 0, .int .i64 0] (0, 0) _ rfl (by (with_reducible repeat (first | refine blk_drewN ?_ _ | refine blk_drew ?_ | refine blk_alloc ?_ _)); refine blk_put (cs := #[.int .i64 0, .int .i64 0, .int .i64 0, .int .i64 0, .int .i64 0]) ?_ 4 _ rfl; (with_reducible repeat (first | refine blk_drewN ?_ _ | refine blk_drew ?_ | refine blk_alloc ?_ _)); refine blk_put (cs := #[.int .i64 0, .int .i64 0, .int .i64 0, .int .i64 0, .int .i64 0]) ?_ 3 _ rfl; (with_reducible repeat (first | refine blk_drewN ?_ _ | refine blk_drew ?_ | refine blk_alloc ?_ _)); refine blk_put (cs := #[.int .i64 0, .int .i64 0, .int .i64 0, .int .i64 0, .int .i64 0]) ?_ 2 _ rfl; (with_reducible repeat (first | refine blk_drewN ?_ _ | refine blk_drew ?_ | refine blk_alloc ?_ _)); refine blk_put (cs := #[.int .i64 0, .int .i64 0, .int .i64 0, .int .i64 0, .int .i64 0]) ?_ 1 _ rfl; (with_reducible repeat (first | refine blk_drewN ?_ _ | refine blk_drew ?_ | refine blk_alloc ?_ _)); refine blk_put (cs := #[.int .i64 0, .int .i64 0, .int .i64 0, .int .i64 0, .int .i64 0]) ?_ 0 _ rfl; (with_reducible repeat (first | refine blk_drewN ?_ _ | refine blk_drew ?_ | refine blk_alloc ?_ _)); exact BK452.out) Tryd.underlying30 rfl (by kernel_rfl)) rfl ?_
  exact ⟨by first | rfl | (simp [errW_none, errW_some] <;> rfl) | (simp [*, errW_none, errW_some] <;> rfl), by repeat (first | (with_reducible first | exact HB.out | apply below_alloc | apply pw_below_drewN | apply below_drew1 | refine below_set ?_ GE452.out) | exact HB.out)⟩

/-! ### bytes_Equal: function 70 -/
def bytes_Equal.f (l0 : List Int) (l1 : List Int) : Option (Bool) := some ((strOfNums l0).toList == (strOfNums l1).toList)
set_option maxHeartbeats 8000000 in
set_option maxRecDepth 100000 in
theorem bytes_Equal.calls (A0 : Option Addr) (c0 : Nat) (l0 : List Int) (A1 : Option Addr) (c1 : Nat) (l1 : List Int) (r : Bool) (w : World) (hr0 : Kd.C (Kd.int .u8) w A0 l0.length l0) (hc0 : l0.length ≤ c0) (hr1 : Kd.C (Kd.int .u8) w A1 l1.length l1) (hc1 : l1.length ≤ c1) (h : bytes_Equal.f l0 l1 = some r) :
  Calls Tryd.prog 70 #[.slice A0 l0.length c0, .slice A1 l1.length c1] w fun e w' => e = .returned (.bool r) ∧ Drawn0 w w' := by
 have HR0 := Aside0.mk hr0
 have HC0 := Aside0.mk hc0
 clear hr0 hc0
 have HR1 := Aside0.mk hr1
 have HC1 := Aside0.mk hc1
 clear hr1 hc1
 have H : (some ((strOfNums l0).toList == (strOfNums l1).toList)) = some r := h
 clear h
 obtain rfl := Option.some.inj H
 have hcv3 := Kd.C_string (P := Tryd.prog) (A := A0) (c := c0) Tryd.underlying26 Tryd.underlying5 Tryd.underlying9 HR0.out
 have hcv4 := Kd.C_string (P := Tryd.prog) (A := A1) (c := c1) Tryd.underlying26 Tryd.underlying5 Tryd.underlying9 HR1.out
 go_enter Tryd.func70, Tryd.ntmps70
 go_wp2
 go_ret
 exact ⟨by first | rfl | (simp; done) | (simp [*]; done), by repeat (first | exact Drawn0.refl _ | apply Drawn0.step)⟩

-- NOT PRINTED: function 55 (crc_open)

end Go.Proofs.YtcbjbgleflbpmaaDoor.Print
