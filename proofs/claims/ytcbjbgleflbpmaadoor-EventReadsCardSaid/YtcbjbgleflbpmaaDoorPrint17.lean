-- PRINTED by print.py (a twelfth state) out of the translation. Not trusted: Lean checks it.
import Derived.Test.YtcbjbgleflbpmaaDoorPrint0
import Derived.Test.YtcbjbgleflbpmaaDoorPrint14
import Derived.Test.YtcbjbgleflbpmaaDoorPrint15
import Derived.Test.YtcbjbgleflbpmaaDoorPrint16
namespace Go.Proofs.YtcbjbgleflbpmaaDoor.Print
open Go.RowKit Go.Proofs.YtcbjbgleflbpmaaDoorW.PrintWords Go.Proofs.YtcbjbgleflbpmaaDoorW.PrintLast Go.Proofs.YtcbjbgleflbpmaaDoorW.PrintMore Go.Proofs.YtcbjbgleflbpmaaDoorX
attribute [local go_sem] str_lss str_geq max2_int min2_int max_two min_two max_three min_three max_four min_four   -- for this text's walks alone
set_option linter.unusedVariables false
set_option linter.unusedSimpArgs false

/-! ### palletref19_Read: function 22 -/
def palletref19_Read.j0 : Nat → Int → Int → Int → Int → Int → Int → Bool → Option (Int × Int × Int × Int × Int × Int × Int)
 | 0, _, _, _, _, _, _, _ => none
 | k + 1, x7, x9, x11, x14, x16, x18, x87 => if x87 = true then (some (0, 0, 0, 0, 0, 0, 4)) else ((palletref19_One.f k (wrap64 (x11)) (wrap64 (x7)) (wrap64 (x14)) x16 x18).bind fun t267 => (if t267 = true then (some (wrap64 (x11), wrap64 (x7), wrap64 (x14), x16, x18, x9, 0)) else (some (0, 0, 0, 0, 0, 0, 4))))
def palletref19_Read.f (k : Nat) (l0 : List Int) (a1 : Int) : Option (Int × Int × Int × Int × Int × Int × Int) := (palletref02_TakeRecord.f k l0 a1).bind fun bt248 => (if bt248.2.2.2 = 0 then ((palletref02_TakeVary.f k bt248.2.1 0).bind fun bt254 => ((palletref02_TakeVary.f k bt248.2.1 bt254.2.1).bind fun bt257 => ((palletref02_TakeSign.f k bt248.2.1 bt257.2.1).bind fun bt260 => ((palletref02_TakeSign.f k bt248.2.1 bt260.2.1).bind fun bt263 => (if bt254.2.2 = 0 then (if bt257.2.2 = 0 then (if bt260.2.2 = 0 then (if bt263.2.2 = 0 then (if bt263.2.1 = (bt248.2.1.length : Int) then (if bt254.1 > 1152921504606846976 then (palletref19_Read.j0 k bt248.1 bt248.2.2.1 bt254.1 bt257.1 bt260.1 bt263.1 true) else (palletref19_Read.j0 k bt248.1 bt248.2.2.1 bt254.1 bt257.1 bt260.1 bt263.1 (decide (bt257.1 > 255)))) else (palletref19_Read.j0 k bt248.1 bt248.2.2.1 bt254.1 bt257.1 bt260.1 bt263.1 true)) else (palletref19_Read.j0 k bt248.1 bt248.2.2.1 bt254.1 bt257.1 bt260.1 bt263.1 true)) else (palletref19_Read.j0 k bt248.1 bt248.2.2.1 bt254.1 bt257.1 bt260.1 bt263.1 true)) else (palletref19_Read.j0 k bt248.1 bt248.2.2.1 bt254.1 bt257.1 bt260.1 bt263.1 true)) else (palletref19_Read.j0 k bt248.1 bt248.2.2.1 bt254.1 bt257.1 bt260.1 bt263.1 true)))))) else (some (0, 0, 0, 0, 0, 0, bt248.2.2.2)))
theorem palletref19_Read.mono_l : ∀ k, (∀ y0 y1 y2 y3 y4 y5 y6, LeO (palletref19_Read.j0 k y0 y1 y2 y3 y4 y5 y6) (palletref19_Read.j0 (k + 1) y0 y1 y2 y3 y4 y5 y6))
 | 0 => fun _ _ _ _ _ _ _ r h => by simp [palletref19_Read.j0] at h
 | k + 1 => by
  have ih0 := palletref19_Read.mono_l k
  ·intro y0 y1 y2 y3 y4 y5 y6
   unfold palletref19_Read.j0
   repeat' first
   | (with_reducible exact ih0 _ _ _ _ _ _ _)
   | (with_reducible exact palletref02_TakeRecord.mono _ _ _)
   | (with_reducible exact palletref02_TakeSign.mono _ _ _)
   | (with_reducible exact palletref02_TakeVary.mono _ _ _)
   | (with_reducible exact palletref19_One.mono _ _ _ _ _ _)
   | (with_reducible exact LeO.refl _)
   | (with_reducible exact LeO.none _)
   | (with_reducible refine LeO.ite ?_ ?_)
   | (with_reducible refine LeO.bind ?_ (fun _ => ?_))
   | exact ih0 _ _ _ _ _ _ _
   | exact palletref02_TakeRecord.mono _ _ _
   | exact palletref02_TakeSign.mono _ _ _
   | exact palletref02_TakeVary.mono _ _ _
   | exact palletref19_One.mono _ _ _ _ _ _
   | exact LeO.none _
   | refine LeO.ite ?_ ?_
   | refine LeO.bind ?_ (fun _ => ?_)
theorem palletref19_Read.mono : ∀ a0 a1 k, LeO (palletref19_Read.f k a0 a1) (palletref19_Read.f (k + 1) a0 a1) := by
 intro a0 a1 k
 have ih0 := palletref19_Read.mono_l k
 unfold palletref19_Read.f
 repeat' first
   | (with_reducible exact ih0 _ _ _ _ _ _ _)
   | (with_reducible exact palletref02_TakeRecord.mono _ _ _)
   | (with_reducible exact palletref02_TakeSign.mono _ _ _)
   | (with_reducible exact palletref02_TakeVary.mono _ _ _)
   | (with_reducible exact palletref19_One.mono _ _ _ _ _ _)
   | (with_reducible exact LeO.refl _)
   | (with_reducible exact LeO.none _)
   | (with_reducible refine LeO.ite ?_ ?_)
   | (with_reducible refine LeO.bind ?_ (fun _ => ?_))
   | exact ih0 _ _ _ _ _ _ _
   | exact palletref02_TakeRecord.mono _ _ _
   | exact palletref02_TakeSign.mono _ _ _
   | exact palletref02_TakeVary.mono _ _ _
   | exact palletref19_One.mono _ _ _ _ _ _
   | exact LeO.none _
   | refine LeO.ite ?_ ?_
   | refine LeO.bind ?_ (fun _ => ?_)
set_option maxHeartbeats 8000000 in
set_option maxRecDepth 100000 in
theorem palletref19_Read.calls (k : Nat) (A0 : Option Addr) (c0 : Nat) (l0 : List Int) (a1 : Int) (r1 : Int) (r2 : Int) (r3 : Int) (r4 : Int) (r5 : Int) (r6 : Int) (r7 : Int) (w : World) (hr0 : Kd.C (Kd.int .u8) w A0 l0.length l0) (hc0 : l0.length ≤ c0) (h : palletref19_Read.f k l0 a1 = some (r1, r2, r3, r4, r5, r6, r7)) :
  Calls Tryd.prog 22 #[.slice A0 l0.length c0, .int .i64 a1] w fun e w' => e = .returned (.tuple #[.agg #[.int .i64 r1, .int .i64 r2, .int .i64 r3, .int .i64 r4, .int .i64 r5], .int .i64 r6, .int .i64 r7]) ∧ Below w.heap.size w w' := by
 have hu30 := Tryd.underlying30
 have HR0 := Aside0.mk hr0
 have HC0 := Aside0.mk hc0
 clear hr0 hc0
 have HB := Aside0.mk (Below.refl w.heap.size w)
 have H : ((palletref02_TakeRecord.f k l0 a1).bind fun bt248 => (if bt248.2.2.2 = 0 then ((palletref02_TakeVary.f k bt248.2.1 0).bind fun bt254 => ((palletref02_TakeVary.f k bt248.2.1 bt254.2.1).bind fun bt257 => ((palletref02_TakeSign.f k bt248.2.1 bt257.2.1).bind fun bt260 => ((palletref02_TakeSign.f k bt248.2.1 bt260.2.1).bind fun bt263 => (if bt254.2.2 = 0 then (if bt257.2.2 = 0 then (if bt260.2.2 = 0 then (if bt263.2.2 = 0 then (if bt263.2.1 = (bt248.2.1.length : Int) then (if bt254.1 > 1152921504606846976 then (palletref19_Read.j0 k bt248.1 bt248.2.2.1 bt254.1 bt257.1 bt260.1 bt263.1 true) else (palletref19_Read.j0 k bt248.1 bt248.2.2.1 bt254.1 bt257.1 bt260.1 bt263.1 (decide (bt257.1 > 255)))) else (palletref19_Read.j0 k bt248.1 bt248.2.2.1 bt254.1 bt257.1 bt260.1 bt263.1 true)) else (palletref19_Read.j0 k bt248.1 bt248.2.2.1 bt254.1 bt257.1 bt260.1 bt263.1 true)) else (palletref19_Read.j0 k bt248.1 bt248.2.2.1 bt254.1 bt257.1 bt260.1 bt263.1 true)) else (palletref19_Read.j0 k bt248.1 bt248.2.2.1 bt254.1 bt257.1 bt260.1 bt263.1 true)) else (palletref19_Read.j0 k bt248.1 bt248.2.2.1 bt254.1 bt257.1 bt260.1 bt263.1 true)))))) else (some (0, 0, 0, 0, 0, 0, bt248.2.2.2)))) = some (r1, r2, r3, r4, r5, r6, r7) := h
 clear h
 replace H := Option.bind_eq_some_iff.mp H
 obtain ⟨⟨t248, t249, t250, t251⟩, A30, H⟩ := H
 replace H : (if t251 = 0 then ((palletref02_TakeVary.f k t249 0).bind fun bt254 => ((palletref02_TakeVary.f k t249 bt254.2.1).bind fun bt257 => ((palletref02_TakeSign.f k t249 bt257.2.1).bind fun bt260 => ((palletref02_TakeSign.f k t249 bt260.2.1).bind fun bt263 => (if bt254.2.2 = 0 then (if bt257.2.2 = 0 then (if bt260.2.2 = 0 then (if bt263.2.2 = 0 then (if bt263.2.1 = (t249.length : Int) then (if bt254.1 > 1152921504606846976 then (palletref19_Read.j0 k t248 t250 bt254.1 bt257.1 bt260.1 bt263.1 true) else (palletref19_Read.j0 k t248 t250 bt254.1 bt257.1 bt260.1 bt263.1 (decide (bt257.1 > 255)))) else (palletref19_Read.j0 k t248 t250 bt254.1 bt257.1 bt260.1 bt263.1 true)) else (palletref19_Read.j0 k t248 t250 bt254.1 bt257.1 bt260.1 bt263.1 true)) else (palletref19_Read.j0 k t248 t250 bt254.1 bt257.1 bt260.1 bt263.1 true)) else (palletref19_Read.j0 k t248 t250 bt254.1 bt257.1 bt260.1 bt263.1 true)) else (palletref19_Read.j0 k t248 t250 bt254.1 bt257.1 bt260.1 bt263.1 true)))))) else (some (0, 0, 0, 0, 0, 0, t251))) = some (r1, r2, r3, r4, r5, r6, r7) := H
 have A3 := Aside0.mk A30
 clear A30
 by_cases c4 : t251 = 0
 ·rw [if_pos c4] at H
  have c4b0 : (t251 == 0) = true := beq_iff_eq.mpr c4
  have c4b1 : (t251 != 0) = false := bne_eq_false_iff_eq.mpr c4
  clear c4
  replace H := Option.bind_eq_some_iff.mp H
  obtain ⟨⟨t254, t255, t256⟩, A50, H⟩ := H
  replace H : ((palletref02_TakeVary.f k t249 t255).bind fun bt257 => ((palletref02_TakeSign.f k t249 bt257.2.1).bind fun bt260 => ((palletref02_TakeSign.f k t249 bt260.2.1).bind fun bt263 => (if t256 = 0 then (if bt257.2.2 = 0 then (if bt260.2.2 = 0 then (if bt263.2.2 = 0 then (if bt263.2.1 = (t249.length : Int) then (if t254 > 1152921504606846976 then (palletref19_Read.j0 k t248 t250 t254 bt257.1 bt260.1 bt263.1 true) else (palletref19_Read.j0 k t248 t250 t254 bt257.1 bt260.1 bt263.1 (decide (bt257.1 > 255)))) else (palletref19_Read.j0 k t248 t250 t254 bt257.1 bt260.1 bt263.1 true)) else (palletref19_Read.j0 k t248 t250 t254 bt257.1 bt260.1 bt263.1 true)) else (palletref19_Read.j0 k t248 t250 t254 bt257.1 bt260.1 bt263.1 true)) else (palletref19_Read.j0 k t248 t250 t254 bt257.1 bt260.1 bt263.1 true)) else (palletref19_Read.j0 k t248 t250 t254 bt257.1 bt260.1 bt263.1 true))))) = some (r1, r2, r3, r4, r5, r6, r7) := H
  have A5 := Aside0.mk A50
  clear A50
  replace H := Option.bind_eq_some_iff.mp H
  obtain ⟨⟨t257, t258, t259⟩, A60, H⟩ := H
  replace H : ((palletref02_TakeSign.f k t249 t258).bind fun bt260 => ((palletref02_TakeSign.f k t249 bt260.2.1).bind fun bt263 => (if t256 = 0 then (if t259 = 0 then (if bt260.2.2 = 0 then (if bt263.2.2 = 0 then (if bt263.2.1 = (t249.length : Int) then (if t254 > 1152921504606846976 then (palletref19_Read.j0 k t248 t250 t254 t257 bt260.1 bt263.1 true) else (palletref19_Read.j0 k t248 t250 t254 t257 bt260.1 bt263.1 (decide (t257 > 255)))) else (palletref19_Read.j0 k t248 t250 t254 t257 bt260.1 bt263.1 true)) else (palletref19_Read.j0 k t248 t250 t254 t257 bt260.1 bt263.1 true)) else (palletref19_Read.j0 k t248 t250 t254 t257 bt260.1 bt263.1 true)) else (palletref19_Read.j0 k t248 t250 t254 t257 bt260.1 bt263.1 true)) else (palletref19_Read.j0 k t248 t250 t254 t257 bt260.1 bt263.1 true)))) = some (r1, r2, r3, r4, r5, r6, r7) := H
  have A6 := Aside0.mk A60
  clear A60
  replace H := Option.bind_eq_some_iff.mp H
  obtain ⟨⟨t260, t261, t262⟩, A70, H⟩ := H
  replace H : ((palletref02_TakeSign.f k t249 t261).bind fun bt263 => (if t256 = 0 then (if t259 = 0 then (if t262 = 0 then (if bt263.2.2 = 0 then (if bt263.2.1 = (t249.length : Int) then (if t254 > 1152921504606846976 then (palletref19_Read.j0 k t248 t250 t254 t257 t260 bt263.1 true) else (palletref19_Read.j0 k t248 t250 t254 t257 t260 bt263.1 (decide (t257 > 255)))) else (palletref19_Read.j0 k t248 t250 t254 t257 t260 bt263.1 true)) else (palletref19_Read.j0 k t248 t250 t254 t257 t260 bt263.1 true)) else (palletref19_Read.j0 k t248 t250 t254 t257 t260 bt263.1 true)) else (palletref19_Read.j0 k t248 t250 t254 t257 t260 bt263.1 true)) else (palletref19_Read.j0 k t248 t250 t254 t257 t260 bt263.1 true))) = some (r1, r2, r3, r4, r5, r6, r7) := H
  have A7 := Aside0.mk A70
  clear A70
  replace H := Option.bind_eq_some_iff.mp H
  obtain ⟨⟨t263, t264, t265⟩, A80, H⟩ := H
  replace H : (if t256 = 0 then (if t259 = 0 then (if t262 = 0 then (if t265 = 0 then (if t264 = (t249.length : Int) then (if t254 > 1152921504606846976 then (palletref19_Read.j0 k t248 t250 t254 t257 t260 t263 true) else (palletref19_Read.j0 k t248 t250 t254 t257 t260 t263 (decide (t257 > 255)))) else (palletref19_Read.j0 k t248 t250 t254 t257 t260 t263 true)) else (palletref19_Read.j0 k t248 t250 t254 t257 t260 t263 true)) else (palletref19_Read.j0 k t248 t250 t254 t257 t260 t263 true)) else (palletref19_Read.j0 k t248 t250 t254 t257 t260 t263 true)) else (palletref19_Read.j0 k t248 t250 t254 t257 t260 t263 true)) = some (r1, r2, r3, r4, r5, r6, r7) := H
  have A8 := Aside0.mk A80
  clear A80
  have HC9 := Aside0.mk H
  clear H
  go_enter Tryd.func22, Tryd.ntmps22
  go_upto_region 8 with (first | ((with_reducible refine gate_dst (N := 4) rfl ?_); (try (refine gate_guard (by rfl) ?_; dsimp only)); refine box_event ?hg (N := 4) ?hd (cs := #[.int .i64 0, .int .i64 0, .int .i64 0, .int .i64 0, .int .i64 0]) (t := 30) ?hr ?_; (case hd => rfl); (case hg => rfl); (case hr => first | (go_simp; done) | (go_simp; rfl)); intro gb247 hg w10 hbox hb; have n0_ := Aside0.mk (below_step (by repeat (first | (with_reducible first | exact HB.out | apply below_alloc | apply pw_below_drewN | apply below_drew1) | exact HB.out)) hb); have n1_ := Aside0.mk (hbox); have n2_ := Aside0.mk ((by rw [hg]; exact (below_size (by repeat (first | (with_reducible first | exact HB.out | apply below_alloc | apply pw_below_drewN | apply below_drew1) | exact HB.out))) : w.heap.size ≤ gb247)); have n3_ := Aside0.mk ((by rw [hg]; exact (below_size (by repeat (first | (with_reducible first | exact HB.out | apply below_alloc | apply pw_below_drewN | apply below_drew1) | exact HB.out))) : w.heap.size ≤ gb247)); clear HB; have HB := n0_; have BK247 := n1_; have GW247 := n2_; have GE247 := n3_; clear n0_ n1_ n2_ n3_; clear hb hbox hg) | ((with_reducible refine gate_callee (f := 48) rfl ?_); refine goesL_ (some 24) rfl rfl Tryd.func48 (by kernel_rfl) rfl #[.slice A0 l0.length c0, .int .i64 a1] rfl (by (try simp only [List.map_toArray, List.map_cons, List.map_nil]); first | done | rfl | (simp only [List.length_drop, List.length_take]; first | rfl | (rw [Nat.min_eq_left (Int.toNat_le.2 (of_decide_eq_true (by assumption)))]; rfl))) ?_; (with_reducible refine (palletref02_TakeRecord.calls k _ _ l0 a1 t248 t249 t250 t251 _ ?side1 ?side2 A3.out).mono ?_); (case side1 => repeat (first | exact (Kd.C_below HR0.out HB.out) | (with_reducible refine Kd.C_alloc ?_ _) | (with_reducible refine Kd.C_drewN ?_ _) | (with_reducible refine Kd.C_drew ?_))); (case side2 => exact HC0.out); rintro e w11 ⟨v252, rfl, ho0, hb⟩; refine ⟨_, rfl, ?_⟩; have n0_ := Aside0.mk (Kd.R_lower ho0 (below_size (by repeat (first | (with_reducible first | exact HB.out | apply below_alloc | apply pw_below_drewN | apply below_drew1 | refine below_set ?_ GE247.out) | exact HB.out)))); have n1_ := Aside0.mk (blk_below (g := gb247) (o := .cells #[.int .i64 0, .int .i64 0, .int .i64 0, .int .i64 0, .int .i64 0] 30 (0, 0)) (by (with_reducible repeat (first | refine blk_drewN ?_ _ | refine blk_drew ?_ | refine blk_alloc ?_ _)); exact BK247.out) hb); have n2_ := Aside0.mk (below_step (by repeat (first | (with_reducible first | exact HB.out | apply below_alloc | apply pw_below_drewN | apply below_drew1 | refine below_set ?_ GE247.out) | exact HB.out)) hb); clear BK247; clear HB; have HO253 := n0_; have BK247 := n1_; have HB := n2_; clear n0_ n1_ n2_; (try clear hb); (try clear hb2); (try clear hk); (try clear hi); (try clear ho0); obtain ⟨Ao12, co12, eo12⟩ := Kd.R_slice HO253.out; subst eo12) | ((with_reducible refine gate_callee (f := 49) rfl ?_); refine goesL_ (some 35) rfl rfl Tryd.func49 (by kernel_rfl) rfl #[.slice Ao12 t249.length co12, .int .i64 0] rfl (by (try simp only [List.map_toArray, List.map_cons, List.map_nil]); first | done | rfl | (simp only [List.length_drop, List.length_take]; first | rfl | (rw [Nat.min_eq_left (Int.toNat_le.2 (of_decide_eq_true (by assumption)))]; rfl))) ?_; (with_reducible refine (palletref02_TakeVary.calls k _ _ t249 0 t254 t255 t256 _ ?side1 ?side2 A5.out).mono ?_); (case side1 => repeat (first | exact (Kd.R_reads' HO253.out).2.2 | (with_reducible refine Kd.C_alloc ?_ _) | (with_reducible refine Kd.C_drewN ?_ _) | (with_reducible refine Kd.C_drew ?_))); (case side2 => exact (Kd.R_reads' HO253.out).2.1); rintro e w' ⟨rfl, ⟨nd, rfl⟩⟩; refine ⟨_, rfl, ?_⟩) | ((with_reducible refine gate_callee (f := 49) rfl ?_); refine goesL_ (some 42) rfl rfl Tryd.func49 (by kernel_rfl) rfl #[.slice Ao12 t249.length co12, .int .i64 t255] rfl (by (try simp only [List.map_toArray, List.map_cons, List.map_nil]); first | done | rfl | (simp only [List.length_drop, List.length_take]; first | rfl | (rw [Nat.min_eq_left (Int.toNat_le.2 (of_decide_eq_true (by assumption)))]; rfl))) ?_; (with_reducible refine (palletref02_TakeVary.calls k _ _ t249 t255 t257 t258 t259 _ ?side1 ?side2 A6.out).mono ?_); (case side1 => repeat (first | exact (Kd.R_reads' HO253.out).2.2 | (with_reducible refine Kd.C_alloc ?_ _) | (with_reducible refine Kd.C_drewN ?_ _) | (with_reducible refine Kd.C_drew ?_))); (case side2 => exact (Kd.R_reads' HO253.out).2.1); rintro e w' ⟨rfl, ⟨nd, rfl⟩⟩; refine ⟨_, rfl, ?_⟩) | ((with_reducible refine gate_callee (f := 50) rfl ?_); refine goesL_ (some 49) rfl rfl Tryd.func50 (by kernel_rfl) rfl #[.slice Ao12 t249.length co12, .int .i64 t258] rfl (by (try simp only [List.map_toArray, List.map_cons, List.map_nil]); first | done | rfl | (simp only [List.length_drop, List.length_take]; first | rfl | (rw [Nat.min_eq_left (Int.toNat_le.2 (of_decide_eq_true (by assumption)))]; rfl))) ?_; (with_reducible refine (palletref02_TakeSign.calls k _ _ t249 t258 t260 t261 t262 _ ?side1 ?side2 A7.out).mono ?_); (case side1 => repeat (first | exact (Kd.R_reads' HO253.out).2.2 | (with_reducible refine Kd.C_alloc ?_ _) | (with_reducible refine Kd.C_drewN ?_ _) | (with_reducible refine Kd.C_drew ?_))); (case side2 => exact (Kd.R_reads' HO253.out).2.1); rintro e w' ⟨rfl, ⟨nd, rfl⟩⟩; refine ⟨_, rfl, ?_⟩) | ((with_reducible refine gate_callee (f := 50) rfl ?_); refine goesL_ (some 56) rfl rfl Tryd.func50 (by kernel_rfl) rfl #[.slice Ao12 t249.length co12, .int .i64 t261] rfl (by (try simp only [List.map_toArray, List.map_cons, List.map_nil]); first | done | rfl | (simp only [List.length_drop, List.length_take]; first | rfl | (rw [Nat.min_eq_left (Int.toNat_le.2 (of_decide_eq_true (by assumption)))]; rfl))) ?_; (with_reducible refine (palletref02_TakeSign.calls k _ _ t249 t261 t263 t264 t265 _ ?side1 ?side2 A8.out).mono ?_); (case side1 => repeat (first | exact (Kd.R_reads' HO253.out).2.2 | (with_reducible refine Kd.C_alloc ?_ _) | (with_reducible refine Kd.C_drewN ?_ _) | (with_reducible refine Kd.C_drew ?_))); (case side2 => exact (Kd.R_reads' HO253.out).2.1); rintro e w' ⟨rfl, ⟨nd, rfl⟩⟩; refine ⟨_, rfl, ?_⟩))
  (try simp only [Act.put, List.setIfInBounds_toArray, List.set_cons_zero, List.set_cons_succ])
  go_cut [87] (fun v87 wc => ∃ (kq : Nat) (x87_8 : Bool), v87 = .bool x87_8 ∧ Aside0 (palletref19_Read.j0 kq t248 t250 t254 t257 t260 t263 x87_8 = some (r1, r2, r3, r4, r5, r6, r7)) ∧ Aside0 (kq ≤ k) ∧ Aside0 (wc.heap[gb247]? = some (.cells #[.int .i64 0, .int .i64 0, .int .i64 0, .int .i64 0, .int .i64 0] 30 (0, 0))) ∧ Aside0 (Below w.heap.size w wc))
  case first =>
   have H := HC9.out
   clear HC9
   by_cases c13 : t256 = 0
   ·rw [if_pos c13] at H
    have c13b0 : (t256 == 0) = true := beq_iff_eq.mpr c13
    have c13b1 : (t256 != 0) = false := bne_eq_false_iff_eq.mpr c13
    clear c13
    (first | rw [c13b0] | (simp only [i64_w, i32_w]; rw [c13b0]) | skip)
    by_cases c14 : t259 = 0
    ·rw [if_pos c14] at H
     have c14b0 : (t259 == 0) = true := beq_iff_eq.mpr c14
     have c14b1 : (t259 != 0) = false := bne_eq_false_iff_eq.mpr c14
     clear c14
     by_cases c15 : t262 = 0
     ·rw [if_pos c15] at H
      have c15b0 : (t262 == 0) = true := beq_iff_eq.mpr c15
      have c15b1 : (t262 != 0) = false := bne_eq_false_iff_eq.mpr c15
      clear c15
      by_cases c16 : t265 = 0
      ·rw [if_pos c16] at H
       have c16b0 : (t265 == 0) = true := beq_iff_eq.mpr c16
       have c16b1 : (t265 != 0) = false := bne_eq_false_iff_eq.mpr c16
       clear c16
       by_cases c17 : t264 = (t249.length : Int)
       ·rw [if_pos c17] at H
        have c17b0 : (t264 == (t249.length : Int)) = true := beq_iff_eq.mpr c17
        have c17b1 : (t264 != (t249.length : Int)) = false := bne_eq_false_iff_eq.mpr c17
        clear c17
        by_cases c18 : t254 > 1152921504606846976
        ·rw [if_pos c18] at H
         have c18b0 : decide (1152921504606846976 < t254) = true := decide_eq_true c18
         clear c18
         have H' := Aside0.mk H
         clear H
         go_wp2
         go_meet
         case rel => exact ⟨_, (true), (by first | rfl | (simp; done) | (simp [*]; done)), H', ⟨by first | omega | exact Nat.le_refl _⟩, ⟨by (with_reducible repeat (first | refine blk_drewN ?_ _ | refine blk_drew ?_ | refine blk_alloc ?_ _)); exact BK247.out⟩, ⟨by repeat (first | (with_reducible first | exact HB.out | apply below_alloc | apply pw_below_drewN | apply below_drew1 | refine below_set ?_ GE247.out) | exact HB.out)⟩⟩
        ·rw [if_neg c18] at H
         have c18b0 : decide (1152921504606846976 < t254) = false := decide_eq_false c18
         clear c18
         have H' := Aside0.mk H
         clear H
         go_wp2
         go_meet
         case rel => exact ⟨_, (decide (t257 > 255)), (by first | rfl | (simp; done) | (simp [*]; done)), H', ⟨by first | omega | exact Nat.le_refl _⟩, ⟨by (with_reducible repeat (first | refine blk_drewN ?_ _ | refine blk_drew ?_ | refine blk_alloc ?_ _)); exact BK247.out⟩, ⟨by repeat (first | (with_reducible first | exact HB.out | apply below_alloc | apply pw_below_drewN | apply below_drew1 | refine below_set ?_ GE247.out) | exact HB.out)⟩⟩
       ·rw [if_neg c17] at H
        have c17b0 : (t264 == (t249.length : Int)) = false := beq_eq_false_iff_ne.mpr c17
        have c17b1 : (t264 != (t249.length : Int)) = true := bne_iff_ne.mpr c17
        have H' := Aside0.mk H
        clear H
        go_wp2
        go_meet
        case rel => exact ⟨_, (true), (by first | rfl | (simp; done) | (simp [*]; done)), H', ⟨by first | omega | exact Nat.le_refl _⟩, ⟨by (with_reducible repeat (first | refine blk_drewN ?_ _ | refine blk_drew ?_ | refine blk_alloc ?_ _)); exact BK247.out⟩, ⟨by repeat (first | (with_reducible first | exact HB.out | apply below_alloc | apply pw_below_drewN | apply below_drew1 | refine below_set ?_ GE247.out) | exact HB.out)⟩⟩
      ·rw [if_neg c16] at H
       have c16b0 : (t265 == 0) = false := beq_eq_false_iff_ne.mpr c16
       have c16b1 : (t265 != 0) = true := bne_iff_ne.mpr c16
       have H' := Aside0.mk H
       clear H
       go_wp2
       go_meet
       case rel => exact ⟨_, (true), (by first | rfl | (simp; done) | (simp [*]; done)), H', ⟨by first | omega | exact Nat.le_refl _⟩, ⟨by (with_reducible repeat (first | refine blk_drewN ?_ _ | refine blk_drew ?_ | refine blk_alloc ?_ _)); exact BK247.out⟩, ⟨by repeat (first | (with_reducible first | exact HB.out | apply below_alloc | apply pw_below_drewN | apply below_drew1 | refine below_set ?_ GE247.out) | exact HB.out)⟩⟩
     ·rw [if_neg c15] at H
      have c15b0 : (t262 == 0) = false := beq_eq_false_iff_ne.mpr c15
      have c15b1 : (t262 != 0) = true := bne_iff_ne.mpr c15
      have H' := Aside0.mk H
      clear H
      go_wp2
      go_meet
      case rel => exact ⟨_, (true), (by first | rfl | (simp; done) | (simp [*]; done)), H', ⟨by first | omega | exact Nat.le_refl _⟩, ⟨by (with_reducible repeat (first | refine blk_drewN ?_ _ | refine blk_drew ?_ | refine blk_alloc ?_ _)); exact BK247.out⟩, ⟨by repeat (first | (with_reducible first | exact HB.out | apply below_alloc | apply pw_below_drewN | apply below_drew1 | refine below_set ?_ GE247.out) | exact HB.out)⟩⟩
    ·rw [if_neg c14] at H
     have c14b0 : (t259 == 0) = false := beq_eq_false_iff_ne.mpr c14
     have c14b1 : (t259 != 0) = true := bne_iff_ne.mpr c14
     have H' := Aside0.mk H
     clear H
     go_wp2
     go_meet
     case rel => exact ⟨_, (true), (by first | rfl | (simp; done) | (simp [*]; done)), H', ⟨by first | omega | exact Nat.le_refl _⟩, ⟨by (with_reducible repeat (first | refine blk_drewN ?_ _ | refine blk_drew ?_ | refine blk_alloc ?_ _)); exact BK247.out⟩, ⟨by repeat (first | (with_reducible first | exact HB.out | apply below_alloc | apply pw_below_drewN | apply below_drew1 | refine below_set ?_ GE247.out) | exact HB.out)⟩⟩
   ·rw [if_neg c13] at H
    have c13b0 : (t256 == 0) = false := beq_eq_false_iff_ne.mpr c13
    have c13b1 : (t256 != 0) = true := bne_iff_ne.mpr c13
    (first | rw [c13b0] | (simp only [i64_w, i32_w]; rw [c13b0]) | skip)
    have H' := Aside0.mk H
    clear H
    go_wp2
    go_meet
    case rel => exact ⟨_, (true), (by first | rfl | (simp; done) | (simp [*]; done)), H', ⟨by first | omega | exact Nat.le_refl _⟩, ⟨by (with_reducible repeat (first | refine blk_drewN ?_ _ | refine blk_drew ?_ | refine blk_alloc ?_ _)); exact BK247.out⟩, ⟨by repeat (first | (with_reducible first | exact HB.out | apply below_alloc | apply pw_below_drewN | apply below_drew1 | refine below_set ?_ GE247.out) | exact HB.out)⟩⟩
  case rest =>
   clear HC9
   try clear c1
   try clear c2
   try clear p2
   try clear c4
   try clear c4b0
   try clear c4b1
   try clear c5
   try clear c13
   try clear c13b0
   try clear c13b1
   try clear c14
   try clear c14b0
   try clear c14b1
   try clear c15
   try clear c15b0
   try clear c15b1
   try clear c16
   try clear c16b0
   try clear c16b1
   try clear c17
   try clear c17b0
   try clear c17b1
   try clear c18
   try clear c18b0
   obtain ⟨kq, x87_8, rfl, HA, HJ8, BK247, HB⟩ := hcut
   cases kq with
   | zero => exact absurd HA.out (by simp [palletref19_Read.j0])
   | succ kj8 =>
    have H := HA.out
    clear HA
    simp only [palletref19_Read.j0] at H
    by_cases c19 : x87_8 = true
    ·subst c19
     have H1 : (some (0, 0, 0, 0, 0, 0, 4)) = some (r1, r2, r3, r4, r5, r6, r7) := by rw [if_pos rfl] at H; exact H
     clear H
     have H := H1
     clear H1
     simp only [Option.some.injEq, Prod.mk.injEq] at H
     obtain ⟨rfl, rfl, rfl, rfl, rfl, rfl, rfl⟩ := H
     have hcz20_0 : wc.cell? ⟨gb247, 0, none⟩ = some (.int .i64 0) := (blk_cell BK247.out 0).trans rfl
     have hcz20_1 : wc.cell? ⟨gb247, 1, none⟩ = some (.int .i64 0) := (blk_cell BK247.out 1).trans rfl
     have hcz20_2 : wc.cell? ⟨gb247, 2, none⟩ = some (.int .i64 0) := (blk_cell BK247.out 2).trans rfl
     have hcz20_3 : wc.cell? ⟨gb247, 3, none⟩ = some (.int .i64 0) := (blk_cell BK247.out 3).trans rfl
     have hcz20_4 : wc.cell? ⟨gb247, 4, none⟩ = some (.int .i64 0) := (blk_cell BK247.out 4).trans rfl
     have hfz20_0 := blk_frozen BK247.out 0
     have hfz20_1 := blk_frozen BK247.out 1
     have hfz20_2 := blk_frozen BK247.out 2
     have hfz20_3 := blk_frozen BK247.out 3
     have hfz20_4 := blk_frozen BK247.out 4
     go_wp2
     refine bodyPost_ret (results_ctt rfl _ _ gb247 30 #[.int .i64 0, .int .i64 0, .int .i64 0, .int .i64 0, .int .i64 0] (0, 0) _ rfl (by (with_reducible repeat (first | refine blk_drewN ?_ _ | refine blk_drew ?_ | refine blk_alloc ?_ _)); refine blk_put (cs := #[.int .i64 0, .int .i64 0, .int .i64 0, .int .i64 0, .int .i64 0]) ?_ 4 _ rfl; (with_reducible repeat (first | refine blk_drewN ?_ _ | refine blk_drew ?_ | refine blk_alloc ?_ _)); refine blk_put (cs := #[.int .i64 0, .int .i64 0, .int .i64 0, .int .i64 0, .int .i64 0]) ?_ 3 _ rfl; (with_reducible repeat (first | refine blk_drewN ?_ _ | refine blk_drew ?_ | refine blk_alloc ?_ _)); refine blk_put (cs := #[.int .i64 0, .int .i64 0, .int .i64 0, .int .i64 0, .int .i64 0]) ?_ 2 _ rfl; (with_reducible repeat (first | refine blk_drewN ?_ _ | refine blk_drew ?_ | refine blk_alloc ?_ _)); refine blk_put (cs := #[.int .i64 0, .int .i64 0, .int .i64 0, .int .i64 0, .int .i64 0]) ?_ 1 _ rfl; (with_reducible repeat (first | refine blk_drewN ?_ _ | refine blk_drew ?_ | refine blk_alloc ?_ _)); refine blk_put (cs := #[.int .i64 0, .int .i64 0, .int .i64 0, .int .i64 0, .int .i64 0]) ?_ 0 _ rfl; (with_reducible repeat (first | refine blk_drewN ?_ _ | refine blk_drew ?_ | refine blk_alloc ?_ _)); exact BK247.out) Tryd.underlying30 rfl (by kernel_rfl)) rfl ?_
     exact ⟨by first | rfl | (simp [errW_none, errW_some] <;> rfl) | (simp [*, errW_none, errW_some] <;> rfl), by repeat (first | (with_reducible first | exact HB.out | apply below_alloc | apply pw_below_drewN | apply below_drew1 | refine below_set ?_ GE247.out) | exact HB.out)⟩
    ·replace c19 := Bool.eq_false_iff.mpr c19
     subst c19
     have H1 : ((palletref19_One.f kj8 (wrap64 (t254)) (wrap64 (t248)) (wrap64 (t257)) t260 t263).bind fun t267 => (if t267 = true then (some (wrap64 (t254), wrap64 (t248), wrap64 (t257), t260, t263, t250, 0)) else (some (0, 0, 0, 0, 0, 0, 4)))) = some (r1, r2, r3, r4, r5, r6, r7) := by rw [if_neg (show ¬ (false = true) by decide)] at H; exact H
     clear H
     have H := H1
     clear H1
     replace H := Option.bind_eq_some_iff.mp H
     obtain ⟨t267, A210, H⟩ := H
     replace H : (if t267 = true then (some (wrap64 (t254), wrap64 (t248), wrap64 (t257), t260, t263, t250, 0)) else (some (0, 0, 0, 0, 0, 0, 4))) = some (r1, r2, r3, r4, r5, r6, r7) := H
     have A21 := Aside0.mk A210
     clear A210
     by_cases c22 : t267 = true
     ·subst c22
      have H1 : (some (wrap64 (t254), wrap64 (t248), wrap64 (t257), t260, t263, t250, 0)) = some (r1, r2, r3, r4, r5, r6, r7) := by rw [if_pos rfl] at H; exact H
      clear H
      have H := H1
      clear H1
      simp only [Option.some.injEq, Prod.mk.injEq] at H
      obtain ⟨rfl, rfl, rfl, rfl, rfl, rfl, rfl⟩ := H
      go_wp2_with (first | ((with_reducible refine gate_dst (N := 20) rfl ?_); (try (refine gate_guard (by rfl) ?_; dsimp only)); refine box_event ?hg (N := 20) ?hd (cs := #[.int .i64 0, .int .i64 0, .int .i64 0, .int .i64 0, .int .i64 0]) (t := 30) ?hr ?_; (case hd => rfl); (case hg => rfl); (case hr => first | (go_simp; done) | (go_simp; rfl)); intro gb266 hg w23 hbox hb; have n0_ := Aside0.mk (blk_below (g := gb247) (o := .cells #[.int .i64 0, .int .i64 0, .int .i64 0, .int .i64 0, .int .i64 0] 30 (0, 0)) (by (with_reducible repeat (first | refine blk_drewN ?_ _ | refine blk_drew ?_ | refine blk_alloc ?_ _)); exact BK247.out) hb); have n1_ := Aside0.mk (below_step (by repeat (first | (with_reducible first | exact HB.out | apply below_alloc | apply pw_below_drewN | apply below_drew1 | refine below_set ?_ GE247.out) | exact HB.out)) hb); have n2_ := Aside0.mk (hbox); have n3_ := Aside0.mk ((by rw [hg]; exact (below_size (by repeat (first | (with_reducible first | exact HB.out | apply below_alloc | apply pw_below_drewN | apply below_drew1 | refine below_set ?_ GE247.out) | exact HB.out))) : w.heap.size ≤ gb266)); have n4_ := Aside0.mk ((by rw [hg]; exact (below_size (by repeat (first | (with_reducible first | exact HB.out | apply below_alloc | apply pw_below_drewN | apply below_drew1 | refine below_set ?_ GE247.out) | exact HB.out))) : w.heap.size ≤ gb266)); have n5_ := Aside0.mk ((by rw [hg]; exact Nat.ne_of_lt (blk_lt (g := gb247) (o := .cells #[.int .i64 0, .int .i64 0, .int .i64 0, .int .i64 0, .int .i64 0] 30 (0, 0)) (by (with_reducible repeat (first | refine blk_drewN ?_ _ | refine blk_drew ?_ | refine blk_alloc ?_ _)); exact BK247.out)) : gb247 ≠ gb266)); have n6_ := Aside0.mk ((by rw [hg]; exact Nat.ne_of_gt (blk_lt (g := gb247) (o := .cells #[.int .i64 0, .int .i64 0, .int .i64 0, .int .i64 0, .int .i64 0] 30 (0, 0)) (by (with_reducible repeat (first | refine blk_drewN ?_ _ | refine blk_drew ?_ | refine blk_alloc ?_ _)); exact BK247.out)) : gb266 ≠ gb247)); clear BK247; clear HB; have BK247 := n0_; have HB := n1_; have BK266 := n2_; have GW266 := n3_; have GE266 := n4_; have NB247_266 := n5_; have NB266_247 := n6_; clear n0_ n1_ n2_ n3_ n4_ n5_ n6_; clear hb hbox hg; have hnb24 := NB266_247.out; have hnc24 := NB247_266.out; have hcz25_0 : w23.cell? ⟨gb266, 0, none⟩ = some (.int .i64 0) := (blk_cell BK266.out 0).trans rfl; have hcz25_1 : w23.cell? ⟨gb266, 1, none⟩ = some (.int .i64 0) := (blk_cell BK266.out 1).trans rfl; have hcz25_2 : w23.cell? ⟨gb266, 2, none⟩ = some (.int .i64 0) := (blk_cell BK266.out 2).trans rfl; have hcz25_3 : w23.cell? ⟨gb266, 3, none⟩ = some (.int .i64 0) := (blk_cell BK266.out 3).trans rfl; have hcz25_4 : w23.cell? ⟨gb266, 4, none⟩ = some (.int .i64 0) := (blk_cell BK266.out 4).trans rfl; have hfz25_0 := blk_frozen BK266.out 0; have hfz25_1 := blk_frozen BK266.out 1; have hfz25_2 := blk_frozen BK266.out 2; have hfz25_3 := blk_frozen BK266.out 3; have hfz25_4 := blk_frozen BK266.out 4) | ((with_reducible refine gate_callee (f := 38) rfl ?_); refine goesL_ (some 99) rfl rfl Tryd.func38 (by kernel_rfl) rfl #[.agg #[.int .i64 (wrap64 (t254)), .int .i64 (wrap64 (t248)), .int .i64 (wrap64 (t257)), .int .i64 t260, .int .i64 t263]] rfl (by (try simp only [List.map_toArray, List.map_cons, List.map_nil]); first | done | rfl | (simp only [List.length_drop, List.length_take]; first | rfl | (rw [Nat.min_eq_left (Int.toNat_le.2 (of_decide_eq_true (by assumption)))]; rfl))) ?_; (with_reducible refine (palletref19_One.calls kj8 (wrap64 (t254)) (wrap64 (t248)) (wrap64 (t257)) t260 t263 true _ A21.out).mono ?_); rintro e w26 ⟨rfl, hb⟩; refine ⟨_, rfl, ?_⟩; have n0_ := Aside0.mk (blk_below (g := gb247) (o := .cells #[.int .i64 0, .int .i64 0, .int .i64 0, .int .i64 0, .int .i64 0] 30 (0, 0)) (by (with_reducible repeat (first | refine blk_drewN ?_ _ | refine blk_drew ?_ | refine blk_alloc ?_ _)); refine blk_far ?_ NB247_266.out _; (with_reducible repeat (first | refine blk_drewN ?_ _ | refine blk_drew ?_ | refine blk_alloc ?_ _)); refine blk_far ?_ NB247_266.out _; (with_reducible repeat (first | refine blk_drewN ?_ _ | refine blk_drew ?_ | refine blk_alloc ?_ _)); refine blk_far ?_ NB247_266.out _; (with_reducible repeat (first | refine blk_drewN ?_ _ | refine blk_drew ?_ | refine blk_alloc ?_ _)); refine blk_far ?_ NB247_266.out _; (with_reducible repeat (first | refine blk_drewN ?_ _ | refine blk_drew ?_ | refine blk_alloc ?_ _)); refine blk_far ?_ NB247_266.out _; (with_reducible repeat (first | refine blk_drewN ?_ _ | refine blk_drew ?_ | refine blk_alloc ?_ _)); exact BK247.out) hb); have n1_ := Aside0.mk (blk_below (g := gb266) (o := .cells #[.int .i64 (wrap64 (t254)), .int .i64 (wrap64 (t248)), .int .i64 (wrap64 (t257)), .int .i64 t260, .int .i64 t263] 30 (0, 0)) (by (with_reducible repeat (first | refine blk_drewN ?_ _ | refine blk_drew ?_ | refine blk_alloc ?_ _)); refine blk_put (cs := #[.int .i64 (wrap64 (t254)), .int .i64 (wrap64 (t248)), .int .i64 (wrap64 (t257)), .int .i64 t260, .int .i64 0]) ?_ 4 _ rfl; (with_reducible repeat (first | refine blk_drewN ?_ _ | refine blk_drew ?_ | refine blk_alloc ?_ _)); refine blk_put (cs := #[.int .i64 (wrap64 (t254)), .int .i64 (wrap64 (t248)), .int .i64 (wrap64 (t257)), .int .i64 0, .int .i64 0]) ?_ 3 _ rfl; (with_reducible repeat (first | refine blk_drewN ?_ _ | refine blk_drew ?_ | refine blk_alloc ?_ _)); refine blk_put (cs := #[.int .i64 (wrap64 (t254)), .int .i64 (wrap64 (t248)), .int .i64 0, .int .i64 0, .int .i64 0]) ?_ 2 _ rfl; (with_reducible repeat (first | refine blk_drewN ?_ _ | refine blk_drew ?_ | refine blk_alloc ?_ _)); refine blk_put (cs := #[.int .i64 (wrap64 (t254)), .int .i64 0, .int .i64 0, .int .i64 0, .int .i64 0]) ?_ 1 _ rfl; (with_reducible repeat (first | refine blk_drewN ?_ _ | refine blk_drew ?_ | refine blk_alloc ?_ _)); refine blk_put (cs := #[.int .i64 0, .int .i64 0, .int .i64 0, .int .i64 0, .int .i64 0]) ?_ 0 _ rfl; (with_reducible repeat (first | refine blk_drewN ?_ _ | refine blk_drew ?_ | refine blk_alloc ?_ _)); exact BK266.out) hb); have n2_ := Aside0.mk (below_step (by repeat (first | (with_reducible first | exact HB.out | apply below_alloc | apply pw_below_drewN | apply below_drew1 | refine below_set ?_ GE247.out | refine below_set ?_ GE266.out) | exact HB.out)) hb); clear BK247; clear BK266; clear HB; have BK247 := n0_; have BK266 := n1_; have HB := n2_; clear n0_ n1_ n2_; (try clear hb); (try clear hb2); (try clear hk); (try clear hi); have hcz27_0 : w26.cell? ⟨gb266, 0, none⟩ = some (.int .i64 (wrap64 (t254))) := (blk_cell BK266.out 0).trans rfl; have hcz27_1 : w26.cell? ⟨gb266, 1, none⟩ = some (.int .i64 (wrap64 (t248))) := (blk_cell BK266.out 1).trans rfl; have hcz27_2 : w26.cell? ⟨gb266, 2, none⟩ = some (.int .i64 (wrap64 (t257))) := (blk_cell BK266.out 2).trans rfl; have hcz27_3 : w26.cell? ⟨gb266, 3, none⟩ = some (.int .i64 t260) := (blk_cell BK266.out 3).trans rfl; have hcz27_4 : w26.cell? ⟨gb266, 4, none⟩ = some (.int .i64 t263) := (blk_cell BK266.out 4).trans rfl; have hfz27_0 := blk_frozen BK266.out 0; have hfz27_1 := blk_frozen BK266.out 1; have hfz27_2 := blk_frozen BK266.out 2; have hfz27_3 := blk_frozen BK266.out 3; have hfz27_4 := blk_frozen BK266.out 4; have hcz28_0 : w26.cell? ⟨gb247, 0, none⟩ = some (.int .i64 0) := (blk_cell BK247.out 0).trans rfl; have hcz28_1 : w26.cell? ⟨gb247, 1, none⟩ = some (.int .i64 0) := (blk_cell BK247.out 1).trans rfl; have hcz28_2 : w26.cell? ⟨gb247, 2, none⟩ = some (.int .i64 0) := (blk_cell BK247.out 2).trans rfl; have hcz28_3 : w26.cell? ⟨gb247, 3, none⟩ = some (.int .i64 0) := (blk_cell BK247.out 3).trans rfl; have hcz28_4 : w26.cell? ⟨gb247, 4, none⟩ = some (.int .i64 0) := (blk_cell BK247.out 4).trans rfl; have hfz28_0 := blk_frozen BK247.out 0; have hfz28_1 := blk_frozen BK247.out 1; have hfz28_2 := blk_frozen BK247.out 2; have hfz28_3 := blk_frozen BK247.out 3; have hfz28_4 := blk_frozen BK247.out 4))
      refine bodyPost_ret (results_ctt rfl _ _ gb247 30 #[.int .i64 (wrap64 (t254)), .int .i64 (wrap64 (t248)), .int .i64 (wrap64 (t257)), .int .i64 t260, .int .i64 t263] (0, 0) _ rfl (by (with_reducible repeat (first | refine blk_drewN ?_ _ | refine blk_drew ?_ | refine blk_alloc ?_ _)); refine blk_put (cs := #[.int .i64 (wrap64 (t254)), .int .i64 (wrap64 (t248)), .int .i64 (wrap64 (t257)), .int .i64 t260, .int .i64 0]) ?_ 4 _ rfl; (with_reducible repeat (first | refine blk_drewN ?_ _ | refine blk_drew ?_ | refine blk_alloc ?_ _)); refine blk_put (cs := #[.int .i64 (wrap64 (t254)), .int .i64 (wrap64 (t248)), .int .i64 (wrap64 (t257)), .int .i64 0, .int .i64 0]) ?_ 3 _ rfl; (with_reducible repeat (first | refine blk_drewN ?_ _ | refine blk_drew ?_ | refine blk_alloc ?_ _)); refine blk_put (cs := #[.int .i64 (wrap64 (t254)), .int .i64 (wrap64 (t248)), .int .i64 0, .int .i64 0, .int .i64 0]) ?_ 2 _ rfl; (with_reducible repeat (first | refine blk_drewN ?_ _ | refine blk_drew ?_ | refine blk_alloc ?_ _)); refine blk_put (cs := #[.int .i64 (wrap64 (t254)), .int .i64 0, .int .i64 0, .int .i64 0, .int .i64 0]) ?_ 1 _ rfl; (with_reducible repeat (first | refine blk_drewN ?_ _ | refine blk_drew ?_ | refine blk_alloc ?_ _)); refine blk_put (cs := #[.int .i64 0, .int .i64 0, .int .i64 0, .int .i64 0, .int .i64 0]) ?_ 0 _ rfl; (with_reducible repeat (first | refine blk_drewN ?_ _ | refine blk_drew ?_ | refine blk_alloc ?_ _)); exact BK247.out) Tryd.underlying30 rfl (by kernel_rfl)) rfl ?_
      exact ⟨by first | rfl | (simp [errW_none, errW_some] <;> rfl) | (simp [*, errW_none, errW_some] <;> rfl), by repeat (first | (with_reducible first | exact HB.out | apply below_alloc | apply pw_below_drewN | apply below_drew1 | refine below_set ?_ GE247.out | refine below_set ?_ GE266.out) | exact HB.out)⟩
     ·replace c22 := Bool.eq_false_iff.mpr c22
      subst c22
      have H1 : (some (0, 0, 0, 0, 0, 0, 4)) = some (r1, r2, r3, r4, r5, r6, r7) := by rw [if_neg (show ¬ (false = true) by decide)] at H; exact H
      clear H
      have H := H1
      clear H1
      simp only [Option.some.injEq, Prod.mk.injEq] at H
      obtain ⟨rfl, rfl, rfl, rfl, rfl, rfl, rfl⟩ := H
      go_wp2_with (first | ((with_reducible refine gate_dst (N := 20) rfl ?_); (try (refine gate_guard (by rfl) ?_; dsimp only)); refine box_event ?hg (N := 20) ?hd (cs := #[.int .i64 0, .int .i64 0, .int .i64 0, .int .i64 0, .int .i64 0]) (t := 30) ?hr ?_; (case hd => rfl); (case hg => rfl); (case hr => first | (go_simp; done) | (go_simp; rfl)); intro gb266 hg w29 hbox hb; have n0_ := Aside0.mk (blk_below (g := gb247) (o := .cells #[.int .i64 0, .int .i64 0, .int .i64 0, .int .i64 0, .int .i64 0] 30 (0, 0)) (by (with_reducible repeat (first | refine blk_drewN ?_ _ | refine blk_drew ?_ | refine blk_alloc ?_ _)); exact BK247.out) hb); have n1_ := Aside0.mk (below_step (by repeat (first | (with_reducible first | exact HB.out | apply below_alloc | apply pw_below_drewN | apply below_drew1 | refine below_set ?_ GE247.out) | exact HB.out)) hb); have n2_ := Aside0.mk (hbox); have n3_ := Aside0.mk ((by rw [hg]; exact (below_size (by repeat (first | (with_reducible first | exact HB.out | apply below_alloc | apply pw_below_drewN | apply below_drew1 | refine below_set ?_ GE247.out) | exact HB.out))) : w.heap.size ≤ gb266)); have n4_ := Aside0.mk ((by rw [hg]; exact (below_size (by repeat (first | (with_reducible first | exact HB.out | apply below_alloc | apply pw_below_drewN | apply below_drew1 | refine below_set ?_ GE247.out) | exact HB.out))) : w.heap.size ≤ gb266)); have n5_ := Aside0.mk ((by rw [hg]; exact Nat.ne_of_lt (blk_lt (g := gb247) (o := .cells #[.int .i64 0, .int .i64 0, .int .i64 0, .int .i64 0, .int .i64 0] 30 (0, 0)) (by (with_reducible repeat (first | refine blk_drewN ?_ _ | refine blk_drew ?_ | refine blk_alloc ?_ _)); exact BK247.out)) : gb247 ≠ gb266)); have n6_ := Aside0.mk ((by rw [hg]; exact Nat.ne_of_gt (blk_lt (g := gb247) (o := .cells #[.int .i64 0, .int .i64 0, .int .i64 0, .int .i64 0, .int .i64 0] 30 (0, 0)) (by (with_reducible repeat (first | refine blk_drewN ?_ _ | refine blk_drew ?_ | refine blk_alloc ?_ _)); exact BK247.out)) : gb266 ≠ gb247)); clear BK247; clear HB; have BK247 := n0_; have HB := n1_; have BK266 := n2_; have GW266 := n3_; have GE266 := n4_; have NB247_266 := n5_; have NB266_247 := n6_; clear n0_ n1_ n2_ n3_ n4_ n5_ n6_; clear hb hbox hg; have hnb30 := NB266_247.out; have hnc30 := NB247_266.out; have hcz31_0 : w29.cell? ⟨gb266, 0, none⟩ = some (.int .i64 0) := (blk_cell BK266.out 0).trans rfl; have hcz31_1 : w29.cell? ⟨gb266, 1, none⟩ = some (.int .i64 0) := (blk_cell BK266.out 1).trans rfl; have hcz31_2 : w29.cell? ⟨gb266, 2, none⟩ = some (.int .i64 0) := (blk_cell BK266.out 2).trans rfl; have hcz31_3 : w29.cell? ⟨gb266, 3, none⟩ = some (.int .i64 0) := (blk_cell BK266.out 3).trans rfl; have hcz31_4 : w29.cell? ⟨gb266, 4, none⟩ = some (.int .i64 0) := (blk_cell BK266.out 4).trans rfl; have hfz31_0 := blk_frozen BK266.out 0; have hfz31_1 := blk_frozen BK266.out 1; have hfz31_2 := blk_frozen BK266.out 2; have hfz31_3 := blk_frozen BK266.out 3; have hfz31_4 := blk_frozen BK266.out 4) | ((with_reducible refine gate_callee (f := 38) rfl ?_); refine goesL_ (some 99) rfl rfl Tryd.func38 (by kernel_rfl) rfl #[.agg #[.int .i64 (wrap64 (t254)), .int .i64 (wrap64 (t248)), .int .i64 (wrap64 (t257)), .int .i64 t260, .int .i64 t263]] rfl (by (try simp only [List.map_toArray, List.map_cons, List.map_nil]); first | done | rfl | (simp only [List.length_drop, List.length_take]; first | rfl | (rw [Nat.min_eq_left (Int.toNat_le.2 (of_decide_eq_true (by assumption)))]; rfl))) ?_; (with_reducible refine (palletref19_One.calls kj8 (wrap64 (t254)) (wrap64 (t248)) (wrap64 (t257)) t260 t263 false _ A21.out).mono ?_); rintro e w32 ⟨rfl, hb⟩; refine ⟨_, rfl, ?_⟩; have n0_ := Aside0.mk (blk_below (g := gb247) (o := .cells #[.int .i64 0, .int .i64 0, .int .i64 0, .int .i64 0, .int .i64 0] 30 (0, 0)) (by (with_reducible repeat (first | refine blk_drewN ?_ _ | refine blk_drew ?_ | refine blk_alloc ?_ _)); refine blk_far ?_ NB247_266.out _; (with_reducible repeat (first | refine blk_drewN ?_ _ | refine blk_drew ?_ | refine blk_alloc ?_ _)); refine blk_far ?_ NB247_266.out _; (with_reducible repeat (first | refine blk_drewN ?_ _ | refine blk_drew ?_ | refine blk_alloc ?_ _)); refine blk_far ?_ NB247_266.out _; (with_reducible repeat (first | refine blk_drewN ?_ _ | refine blk_drew ?_ | refine blk_alloc ?_ _)); refine blk_far ?_ NB247_266.out _; (with_reducible repeat (first | refine blk_drewN ?_ _ | refine blk_drew ?_ | refine blk_alloc ?_ _)); refine blk_far ?_ NB247_266.out _; (with_reducible repeat (first | refine blk_drewN ?_ _ | refine blk_drew ?_ | refine blk_alloc ?_ _)); exact BK247.out) hb); have n1_ := Aside0.mk (blk_below (g := gb266) (o := .cells #[.int .i64 (wrap64 (t254)), .int .i64 (wrap64 (t248)), .int .i64 (wrap64 (t257)), .int .i64 t260, .int .i64 t263] 30 (0, 0)) (by (with_reducible repeat (first | refine blk_drewN ?_ _ | refine blk_drew ?_ | refine blk_alloc ?_ _)); refine blk_put (cs := #[.int .i64 (wrap64 (t254)), .int .i64 (wrap64 (t248)), .int .i64 (wrap64 (t257)), .int .i64 t260, .int .i64 0]) ?_ 4 _ rfl; (with_reducible repeat (first | refine blk_drewN ?_ _ | refine blk_drew ?_ | refine blk_alloc ?_ _)); refine blk_put (cs := #[.int .i64 (wrap64 (t254)), .int .i64 (wrap64 (t248)), .int .i64 (wrap64 (t257)), .int .i64 0, .int .i64 0]) ?_ 3 _ rfl; (with_reducible repeat (first | refine blk_drewN ?_ _ | refine blk_drew ?_ | refine blk_alloc ?_ _)); refine blk_put (cs := #[.int .i64 (wrap64 (t254)), .int .i64 (wrap64 (t248)), .int .i64 0, .int .i64 0, .int .i64 0]) ?_ 2 _ rfl; (with_reducible repeat (first | refine blk_drewN ?_ _ | refine blk_drew ?_ | refine blk_alloc ?_ _)); refine blk_put (cs := #[.int .i64 (wrap64 (t254)), .int .i64 0, .int .i64 0, .int .i64 0, .int .i64 0]) ?_ 1 _ rfl; (with_reducible repeat (first | refine blk_drewN ?_ _ | refine blk_drew ?_ | refine blk_alloc ?_ _)); refine blk_put (cs := #[.int .i64 0, .int .i64 0, .int .i64 0, .int .i64 0, .int .i64 0]) ?_ 0 _ rfl; (with_reducible repeat (first | refine blk_drewN ?_ _ | refine blk_drew ?_ | refine blk_alloc ?_ _)); exact BK266.out) hb); have n2_ := Aside0.mk (below_step (by repeat (first | (with_reducible first | exact HB.out | apply below_alloc | apply pw_below_drewN | apply below_drew1 | refine below_set ?_ GE247.out | refine below_set ?_ GE266.out) | exact HB.out)) hb); clear BK247; clear BK266; clear HB; have BK247 := n0_; have BK266 := n1_; have HB := n2_; clear n0_ n1_ n2_; (try clear hb); (try clear hb2); (try clear hk); (try clear hi); have hcz33_0 : w32.cell? ⟨gb247, 0, none⟩ = some (.int .i64 0) := (blk_cell BK247.out 0).trans rfl; have hcz33_1 : w32.cell? ⟨gb247, 1, none⟩ = some (.int .i64 0) := (blk_cell BK247.out 1).trans rfl; have hcz33_2 : w32.cell? ⟨gb247, 2, none⟩ = some (.int .i64 0) := (blk_cell BK247.out 2).trans rfl; have hcz33_3 : w32.cell? ⟨gb247, 3, none⟩ = some (.int .i64 0) := (blk_cell BK247.out 3).trans rfl; have hcz33_4 : w32.cell? ⟨gb247, 4, none⟩ = some (.int .i64 0) := (blk_cell BK247.out 4).trans rfl; have hfz33_0 := blk_frozen BK247.out 0; have hfz33_1 := blk_frozen BK247.out 1; have hfz33_2 := blk_frozen BK247.out 2; have hfz33_3 := blk_frozen BK247.out 3; have hfz33_4 := blk_frozen BK247.out 4))
      refine bodyPost_ret (results_ctt rfl _ _ gb247 30 #[.int .i64 0, .int .i64 0, .int .i64 0, .int .i64 0, .int .i64 0] (0, 0) _ rfl (by (with_reducible repeat (first | refine blk_drewN ?_ _ | refine blk_drew ?_ | refine blk_alloc ?_ _)); refine blk_put (cs := #[.int .i64 0, .int .i64 0, .int .i64 0, .int .i64 0, .int .i64 0]) ?_ 4 _ rfl; (with_reducible repeat (first | refine blk_drewN ?_ _ | refine blk_drew ?_ | refine blk_alloc ?_ _)); refine blk_put (cs := #[.int .i64 0, .int .i64 0, .int .i64 0, .int .i64 0, .int .i64 0]) ?_ 3 _ rfl; (with_reducible repeat (first | refine blk_drewN ?_ _ | refine blk_drew ?_ | refine blk_alloc ?_ _)); refine blk_put (cs := #[.int .i64 0, .int .i64 0, .int .i64 0, .int .i64 0, .int .i64 0]) ?_ 2 _ rfl; (with_reducible repeat (first | refine blk_drewN ?_ _ | refine blk_drew ?_ | refine blk_alloc ?_ _)); refine blk_put (cs := #[.int .i64 0, .int .i64 0, .int .i64 0, .int .i64 0, .int .i64 0]) ?_ 1 _ rfl; (with_reducible repeat (first | refine blk_drewN ?_ _ | refine blk_drew ?_ | refine blk_alloc ?_ _)); refine blk_put (cs := #[.int .i64 0, .int .i64 0, .int .i64 0, .int .i64 0, .int .i64 0]) ?_ 0 _ rfl; (with_reducible repeat (first | refine blk_drewN ?_ _ | refine blk_drew ?_ | refine blk_alloc ?_ _)); exact BK247.out) Tryd.underlying30 rfl (by kernel_rfl)) rfl ?_
      exact ⟨by first | rfl | (simp [errW_none, errW_some] <;> rfl) | (simp [*, errW_none, errW_some] <;> rfl), by repeat (first | (with_reducible first | exact HB.out | apply below_alloc | apply pw_below_drewN | apply below_drew1 | refine below_set ?_ GE247.out | refine below_set ?_ GE266.out) | exact HB.out)⟩
 ·rw [if_neg c4] at H
  have c4b0 : (t251 == 0) = false := beq_eq_false_iff_ne.mpr c4
  have c4b1 : (t251 != 0) = true := bne_iff_ne.mpr c4
  simp only [Option.some.injEq, Prod.mk.injEq] at H
  obtain ⟨rfl, rfl, rfl, rfl, rfl, rfl, rfl⟩ := H
  go_enter Tryd.func22, Tryd.ntmps22
  go_wp2_with (first | ((with_reducible refine gate_dst (N := 4) rfl ?_); (try (refine gate_guard (by rfl) ?_; dsimp only)); refine box_event ?hg (N := 4) ?hd (cs := #[.int .i64 0, .int .i64 0, .int .i64 0, .int .i64 0, .int .i64 0]) (t := 30) ?hr ?_; (case hd => rfl); (case hg => rfl); (case hr => first | (go_simp; done) | (go_simp; rfl)); intro gb247 hg w34 hbox hb; have n0_ := Aside0.mk (below_step (by repeat (first | (with_reducible first | exact HB.out | apply below_alloc | apply pw_below_drewN | apply below_drew1) | exact HB.out)) hb); have n1_ := Aside0.mk (hbox); have n2_ := Aside0.mk ((by rw [hg]; exact (below_size (by repeat (first | (with_reducible first | exact HB.out | apply below_alloc | apply pw_below_drewN | apply below_drew1) | exact HB.out))) : w.heap.size ≤ gb247)); have n3_ := Aside0.mk ((by rw [hg]; exact (below_size (by repeat (first | (with_reducible first | exact HB.out | apply below_alloc | apply pw_below_drewN | apply below_drew1) | exact HB.out))) : w.heap.size ≤ gb247)); clear HB; have HB := n0_; have BK247 := n1_; have GW247 := n2_; have GE247 := n3_; clear n0_ n1_ n2_ n3_; clear hb hbox hg) | ((with_reducible refine gate_callee (f := 48) rfl ?_); refine goesL_ (some 24) rfl rfl Tryd.func48 (by kernel_rfl) rfl #[.slice A0 l0.length c0, .int .i64 a1] rfl (by (try simp only [List.map_toArray, List.map_cons, List.map_nil]); first | done | rfl | (simp only [List.length_drop, List.length_take]; first | rfl | (rw [Nat.min_eq_left (Int.toNat_le.2 (of_decide_eq_true (by assumption)))]; rfl))) ?_; (with_reducible refine (palletref02_TakeRecord.calls k _ _ l0 a1 t248 t249 t250 t251 _ ?side1 ?side2 A3.out).mono ?_); (case side1 => repeat (first | exact (Kd.C_below HR0.out HB.out) | (with_reducible refine Kd.C_alloc ?_ _) | (with_reducible refine Kd.C_drewN ?_ _) | (with_reducible refine Kd.C_drew ?_))); (case side2 => exact HC0.out); rintro e w35 ⟨v252, rfl, ho0, hb⟩; refine ⟨_, rfl, ?_⟩; have n0_ := Aside0.mk (Kd.R_lower ho0 (below_size (by repeat (first | (with_reducible first | exact HB.out | apply below_alloc | apply pw_below_drewN | apply below_drew1 | refine below_set ?_ GE247.out) | exact HB.out)))); have n1_ := Aside0.mk (blk_below (g := gb247) (o := .cells #[.int .i64 0, .int .i64 0, .int .i64 0, .int .i64 0, .int .i64 0] 30 (0, 0)) (by (with_reducible repeat (first | refine blk_drewN ?_ _ | refine blk_drew ?_ | refine blk_alloc ?_ _)); exact BK247.out) hb); have n2_ := Aside0.mk (below_step (by repeat (first | (with_reducible first | exact HB.out | apply below_alloc | apply pw_below_drewN | apply below_drew1 | refine below_set ?_ GE247.out) | exact HB.out)) hb); clear BK247; clear HB; have HO253 := n0_; have BK247 := n1_; have HB := n2_; clear n0_ n1_ n2_; (try clear hb); (try clear hb2); (try clear hk); (try clear hi); (try clear ho0); have hcz36_0 : w35.cell? ⟨gb247, 0, none⟩ = some (.int .i64 0) := (blk_cell BK247.out 0).trans rfl; have hcz36_1 : w35.cell? ⟨gb247, 1, none⟩ = some (.int .i64 0) := (blk_cell BK247.out 1).trans rfl; have hcz36_2 : w35.cell? ⟨gb247, 2, none⟩ = some (.int .i64 0) := (blk_cell BK247.out 2).trans rfl; have hcz36_3 : w35.cell? ⟨gb247, 3, none⟩ = some (.int .i64 0) := (blk_cell BK247.out 3).trans rfl; have hcz36_4 : w35.cell? ⟨gb247, 4, none⟩ = some (.int .i64 0) := (blk_cell BK247.out 4).trans rfl; have hfz36_0 := blk_frozen BK247.out 0; have hfz36_1 := blk_frozen BK247.out 1; have hfz36_2 := blk_frozen BK247.out 2; have hfz36_3 := blk_frozen BK247.out 3; have hfz36_4 := blk_frozen BK247.out 4))
  refine bodyPost_ret (results_ctt rfl _ _ gb247 30 #[.int .i64 0, .int .i64 0, .int .i64 0, .int .i64 0, .int .i64 0] (0, 0) _ rfl (by (with_reducible repeat (first | refine blk_drewN ?_ _ | refine blk_drew ?_ | refine blk_alloc ?_ _)); refine blk_put (cs := #[.int .i64 0, .int .i64 0, .int .i64 0, .int .i64 0, .int .i64 0]) ?_ 4 _ rfl; (with_reducible repeat (first | refine blk_drewN ?_ _ | refine blk_drew ?_ | refine blk_alloc ?_ _)); refine blk_put (cs := #[.int .i64 0, .int .i64 0, .int .i64 0, .int .i64 0, .int .i64 0]) ?_ 3 _ rfl; (with_reducible repeat (first | refine blk_drewN ?_ _ | refine blk_drew ?_ | refine blk_alloc ?_ _)); refine blk_put (cs := #[.int .i64 0, .int .i64 0, .int .i64 0, .int .i64 0, .int .i64 0]) ?_ 2 _ rfl; (with_reducible repeat (first | refine blk_drewN ?_ _ | refine blk_drew ?_ | refine blk_alloc ?_ _)); refine blk_put (cs := #[.int .i64 0, .int .i64 0, .int .i64 0, .int .i64 0, .int .i64 0]) ?_ 1 _ rfl; (with_reducible repeat (first | refine blk_drewN ?_ _ | refine blk_drew ?_ | refine blk_alloc ?_ _)); refine blk_put (cs := #[.int .i64 0, .int .i64 0, .int .i64 0, .int .i64 0, .int .i64 0]) ?_ 0 _ rfl; (with_reducible repeat (first | refine blk_drewN ?_ _ | refine blk_drew ?_ | refine blk_alloc ?_ _)); exact BK247.out) Tryd.underlying30 rfl (by kernel_rfl)) rfl ?_
  exact ⟨by first | rfl | (simp [errW_none, errW_some] <;> rfl) | (simp [*, errW_none, errW_some] <;> rfl), by repeat (first | (with_reducible first | exact HB.out | apply below_alloc | apply pw_below_drewN | apply below_drew1 | refine below_set ?_ GE247.out) | exact HB.out)⟩

/-! ### bytes_Equal: function 70 -/
def bytes_Equal.f (l0 : List Int) (l1 : List Int) : Option (Bool) := some ((strOfNums l0).toList == (strOfNums l1).toList)
set_option maxHeartbeats 8000000 in
set_option maxRecDepth 100000 in
theorem bytes_Equal.calls (A0 : Option Addr) (c0 : Nat) (l0 : List Int) (A1 : Option Addr) (c1 : Nat) (l1 : List Int) (r : Bool) (w : World) (hr0 : Kd.C (Kd.int .u8) w A0 l0.length l0) (hc0 : l0.length ≤ c0) (hr1 : Kd.C (Kd.int .u8) w A1 l1.length l1) (hc1 : l1.length ≤ c1) (h : bytes_Equal.f l0 l1 = some r) :
  Calls Tryd.prog 70 #[.slice A0 l0.length c0, .slice A1 l1.length c1] w fun e w' => e = .returned (.bool r) ∧ Drawn0 w w' := by
 have HR0 := Aside0.mk hr0
 have HC0 := Aside0.mk hc0
 clear hr0 hc0
 have HR1 := Aside0.mk hr1
 have HC1 := Aside0.mk hc1
 clear hr1 hc1
 have H : (some ((strOfNums l0).toList == (strOfNums l1).toList)) = some r := h
 clear h
 obtain rfl := Option.some.inj H
 have hcv3 := Kd.C_string (P := Tryd.prog) (A := A0) (c := c0) Tryd.underlying26 Tryd.underlying5 Tryd.underlying9 HR0.out
 have hcv4 := Kd.C_string (P := Tryd.prog) (A := A1) (c := c1) Tryd.underlying26 Tryd.underlying5 Tryd.underlying9 HR1.out
 go_enter Tryd.func70, Tryd.ntmps70
 go_wp2
 go_ret
 exact ⟨by first | rfl | (simp; done) | (simp [*]; done), by repeat (first | exact Drawn0.refl _ | apply Drawn0.step)⟩

-- NOT PRINTED: function 55 (crc_open)

end Go.Proofs.YtcbjbgleflbpmaaDoor.Print
