-- PRINTED by print.py (a twelfth state) out of the translation. Not trusted: Lean checks it.
import Derived.Test.YtogdelhofdelgaaPrint0
import Derived.Test.YtogdelhofdelgaaPrint1
import Derived.Test.YtogdelhofdelgaaPrint3
import Derived.Test.YtogdelhofdelgaaPrint7
import Derived.Test.YtogdelhofdelgaaPrint8
import Derived.Test.YtogdelhofdelgaaPrint19
import Derived.Test.YtogdelhofdelgaaPrint23
namespace Go.Proofs.Ytogdelhofdelgaa.Print
open Go.RowKit Go.Proofs.YtogdelhofdelgaaW.PrintWords Go.Proofs.YtogdelhofdelgaaW.PrintLast Go.Proofs.YtogdelhofdelgaaW.PrintMore Go.Proofs.YtogdelhofdelgaaX
attribute [local go_sem] str_lss str_geq max2_int min2_int max_two min_two max_three min_three max_four min_four   -- for this text's walks alone
set_option linter.unusedVariables false
set_option linter.unusedSimpArgs false

attribute [local go_sem high] eqA25
/-! ### palletlaw08_FrameBack: function 7 -/
mutual
def palletlaw08_FrameBack.j0 : Nat → Int → Int → Bool → Int → Int → Int → Int → Option (Bool)
 | 0, _, _, _, _, _, _, _ => none
 | k + 1, x2, x3, x9, x379000, x379001, x379002, x379003 => (frame_Write.f k x379000 x379001 x379002 x379003).bind fun bt392 => (if bt392.2 = 0 then ((frame_Read.f k bt392.1).bind fun bt397 => (if (!(bt397.1 == x379000) || (!(bt397.2.1 == x379001) || (!(bt397.2.2.1 == x379002) || (!(bt397.2.2.2.1 == x379003))))) = true then (palletlaw08_FrameBack.j1 k x2 x3 x9 bt392.1 true) else (if bt397.2.2.2.2 = 0 then (palletlaw08_FrameBack.j1 k x2 x3 x9 bt392.1 ((bt392.1.length : Int) == 0)) else (palletlaw08_FrameBack.j1 k x2 x3 x9 bt392.1 true)))) else (if x9 = true then ((frame_Check.f k x379000 x379001 x379002 x379003).bind fun t396 => (some (t396 == bt392.2))) else (some false)))
def palletlaw08_FrameBack.j1 : Nat → Int → Int → Bool → List Int → Bool → Option (Bool)
 | 0, _, _, _, _, _ => none
 | k + 1, x2, x3, x9, x14, x87 => if x87 = true then (some false) else (if (wrap64 (8 * (x14.length : Int))) = 0 then (none) else (palletlaw08_FrameBack.l0 k (Int.tmod (wrap64 ((Int.tmod x2 (wrap64 (8 * (x14.length : Int)))) + (wrap64 (8 * (x14.length : Int))))) (wrap64 (8 * (x14.length : Int)))) x3 x9 x14 (wrap64 (8 * (x14.length : Int))) false 0))
def palletlaw08_FrameBack.l0 : Nat → Int → Int → Bool → List Int → Int → Bool → Int → Option (Bool)
 | 0, _, _, _, _, _, _, _ => none
 | k + 1, x2, x3, x9, x14, x18, x19, x98 => if x98 < 24 then (if 0 ≤ x98 then (if (Go.bits .and .u32 (shr .u32 x3 x98) 1) = 1 then (palletlaw08_FrameBack.j3 k x2 x3 x9 x14 x18 x19 x98 x98 (decide ((wrap64 (x2 + x98)) < x18))) else (palletlaw08_FrameBack.j3 k x2 x3 x9 x14 x18 x19 x98 x98 false)) else (none)) else ((frame_Read.f k x14).bind fun bt403 => (if x9 = true then (some ((bt403.2.2.2.2 == 5) == x19)) else (some false)))
def palletlaw08_FrameBack.j3 : Nat → Int → Int → Bool → List Int → Int → Bool → Int → Int → Bool → Option (Bool)
 | 0, _, _, _, _, _, _, _, _, _ => none
 | k + 1, x2, x3, x9, x14, x18, x19, x20, x98, x112 => if x112 = true then ((crc_Turn.f x14 (wrap64 (x2 + x20))).bind fun bt409 => (if bt409.2 = 0 then (palletlaw08_FrameBack.l0 k x2 x3 x9 bt409.1 x18 true (wrap64 (x98 + 1))) else (some false))) else (palletlaw08_FrameBack.l0 k x2 x3 x9 x14 x18 x19 (wrap64 (x98 + 1)))
end
def palletlaw08_FrameBack.f (k : Nat) (a0_0 : Int) (a0_1 : Int) (a0_2 : Int) (a0_3 : Int) (l1 : List Int) (a2 : Int) (a3 : Int) : Option (Bool) := (palletlaw08_live.f k).bind fun t379 => (if t379 = true then (if (l1.length : Int) > 2000 then (some t379) else ((frame_Read.f k l1).bind fun bt380 => (if bt380.2.2.2.2 = 0 then ((frame_Write.f k bt380.1 bt380.2.1 bt380.2.2.1 bt380.2.2.2.1).bind fun bt386 => (if bt386.2 = 0 then ((palletref02_Same.f bt386.1 l1).bind fun t390 => (if t390 = true then ((frame_Check.f k bt380.1 bt380.2.1 bt380.2.2.1 bt380.2.2.2.1).bind fun t391 => (if t391 = 0 then (palletlaw08_FrameBack.j0 k a2 a3 t379 a0_0 a0_1 a0_2 a0_3) else (some false))) else (some false))) else (some false))) else (palletlaw08_FrameBack.j0 k a2 a3 t379 a0_0 a0_1 a0_2 a0_3)))) else (some false))
theorem palletlaw08_FrameBack.mono_l : ∀ k, (∀ y0 y1 y2 y3 y4 y5 y6, LeO (palletlaw08_FrameBack.j0 k y0 y1 y2 y3 y4 y5 y6) (palletlaw08_FrameBack.j0 (k + 1) y0 y1 y2 y3 y4 y5 y6)) ∧ (∀ y0 y1 y2 y3 y4, LeO (palletlaw08_FrameBack.j1 k y0 y1 y2 y3 y4) (palletlaw08_FrameBack.j1 (k + 1) y0 y1 y2 y3 y4)) ∧ (∀ y0 y1 y2 y3 y4 y5 y6, LeO (palletlaw08_FrameBack.l0 k y0 y1 y2 y3 y4 y5 y6) (palletlaw08_FrameBack.l0 (k + 1) y0 y1 y2 y3 y4 y5 y6)) ∧ (∀ y0 y1 y2 y3 y4 y5 y6 y7 y8, LeO (palletlaw08_FrameBack.j3 k y0 y1 y2 y3 y4 y5 y6 y7 y8) (palletlaw08_FrameBack.j3 (k + 1) y0 y1 y2 y3 y4 y5 y6 y7 y8))
 | 0 => ⟨fun _ _ _ _ _ _ _ r h => by simp [palletlaw08_FrameBack.j0] at h, fun _ _ _ _ _ r h => by simp [palletlaw08_FrameBack.j1] at h, fun _ _ _ _ _ _ _ r h => by simp [palletlaw08_FrameBack.l0] at h, fun _ _ _ _ _ _ _ _ _ r h => by simp [palletlaw08_FrameBack.j3] at h⟩
 | k + 1 => by
  obtain ⟨ih0, ih1, ih2, ih3⟩ := palletlaw08_FrameBack.mono_l k
  refine ⟨?_, ?_, ?_, ?_⟩
  ·intro y0 y1 y2 y3 y4 y5 y6
   unfold palletlaw08_FrameBack.j0
   repeat' first
   | (with_reducible exact ih0 _ _ _ _ _ _ _)
   | (with_reducible exact ih1 _ _ _ _ _)
   | (with_reducible exact ih2 _ _ _ _ _ _ _)
   | (with_reducible exact ih3 _ _ _ _ _ _ _ _ _)
   | (with_reducible exact frame_Check.mono _ _ _ _ _)
   | (with_reducible exact frame_Read.mono _ _)
   | (with_reducible exact frame_Write.mono _ _ _ _ _)
   | (with_reducible exact palletlaw08_live.mono _)
   | (with_reducible exact LeO.refl _)
   | (with_reducible exact LeO.none _)
   | (with_reducible refine LeO.ite ?_ ?_)
   | (with_reducible refine LeO.bind ?_ (fun _ => ?_))
   | exact ih0 _ _ _ _ _ _ _
   | exact ih1 _ _ _ _ _
   | exact ih2 _ _ _ _ _ _ _
   | exact ih3 _ _ _ _ _ _ _ _ _
   | exact frame_Check.mono _ _ _ _ _
   | exact frame_Read.mono _ _
   | exact frame_Write.mono _ _ _ _ _
   | exact palletlaw08_live.mono _
   | exact LeO.none _
   | refine LeO.ite ?_ ?_
   | refine LeO.bind ?_ (fun _ => ?_)
  ·intro y0 y1 y2 y3 y4
   unfold palletlaw08_FrameBack.j1
   repeat' first
   | (with_reducible exact ih0 _ _ _ _ _ _ _)
   | (with_reducible exact ih1 _ _ _ _ _)
   | (with_reducible exact ih2 _ _ _ _ _ _ _)
   | (with_reducible exact ih3 _ _ _ _ _ _ _ _ _)
   | (with_reducible exact frame_Check.mono _ _ _ _ _)
   | (with_reducible exact frame_Read.mono _ _)
   | (with_reducible exact frame_Write.mono _ _ _ _ _)
   | (with_reducible exact palletlaw08_live.mono _)
   | (with_reducible exact LeO.refl _)
   | (with_reducible exact LeO.none _)
   | (with_reducible refine LeO.ite ?_ ?_)
   | (with_reducible refine LeO.bind ?_ (fun _ => ?_))
   | exact ih0 _ _ _ _ _ _ _
   | exact ih1 _ _ _ _ _
   | exact ih2 _ _ _ _ _ _ _
   | exact ih3 _ _ _ _ _ _ _ _ _
   | exact frame_Check.mono _ _ _ _ _
   | exact frame_Read.mono _ _
   | exact frame_Write.mono _ _ _ _ _
   | exact palletlaw08_live.mono _
   | exact LeO.none _
   | refine LeO.ite ?_ ?_
   | refine LeO.bind ?_ (fun _ => ?_)
  ·intro y0 y1 y2 y3 y4 y5 y6
   unfold palletlaw08_FrameBack.l0
   repeat' first
   | (with_reducible exact ih0 _ _ _ _ _ _ _)
   | (with_reducible exact ih1 _ _ _ _ _)
   | (with_reducible exact ih2 _ _ _ _ _ _ _)
   | (with_reducible exact ih3 _ _ _ _ _ _ _ _ _)
   | (with_reducible exact frame_Check.mono _ _ _ _ _)
   | (with_reducible exact frame_Read.mono _ _)
   | (with_reducible exact frame_Write.mono _ _ _ _ _)
   | (with_reducible exact palletlaw08_live.mono _)
   | (with_reducible exact LeO.refl _)
   | (with_reducible exact LeO.none _)
   | (with_reducible refine LeO.ite ?_ ?_)
   | (with_reducible refine LeO.bind ?_ (fun _ => ?_))
   | exact ih0 _ _ _ _ _ _ _
   | exact ih1 _ _ _ _ _
   | exact ih2 _ _ _ _ _ _ _
   | exact ih3 _ _ _ _ _ _ _ _ _
   | exact frame_Check.mono _ _ _ _ _
   | exact frame_Read.mono _ _
   | exact frame_Write.mono _ _ _ _ _
   | exact palletlaw08_live.mono _
   | exact LeO.none _
   | refine LeO.ite ?_ ?_
   | refine LeO.bind ?_ (fun _ => ?_)
  ·intro y0 y1 y2 y3 y4 y5 y6 y7 y8
   unfold palletlaw08_FrameBack.j3
   repeat' first
   | (with_reducible exact ih0 _ _ _ _ _ _ _)
   | (with_reducible exact ih1 _ _ _ _ _)
   | (with_reducible exact ih2 _ _ _ _ _ _ _)
   | (with_reducible exact ih3 _ _ _ _ _ _ _ _ _)
   | (with_reducible exact frame_Check.mono _ _ _ _ _)
   | (with_reducible exact frame_Read.mono _ _)
   | (with_reducible exact frame_Write.mono _ _ _ _ _)
   | (with_reducible exact palletlaw08_live.mono _)
   | (with_reducible exact LeO.refl _)
   | (with_reducible exact LeO.none _)
   | (with_reducible refine LeO.ite ?_ ?_)
   | (with_reducible refine LeO.bind ?_ (fun _ => ?_))
   | exact ih0 _ _ _ _ _ _ _
   | exact ih1 _ _ _ _ _
   | exact ih2 _ _ _ _ _ _ _
   | exact ih3 _ _ _ _ _ _ _ _ _
   | exact frame_Check.mono _ _ _ _ _
   | exact frame_Read.mono _ _
   | exact frame_Write.mono _ _ _ _ _
   | exact palletlaw08_live.mono _
   | exact LeO.none _
   | refine LeO.ite ?_ ?_
   | refine LeO.bind ?_ (fun _ => ?_)
theorem palletlaw08_FrameBack.mono : ∀ a0 a1 a2 a3 a4 a5 a6 k, LeO (palletlaw08_FrameBack.f k a0 a1 a2 a3 a4 a5 a6) (palletlaw08_FrameBack.f (k + 1) a0 a1 a2 a3 a4 a5 a6) := by
 intro a0 a1 a2 a3 a4 a5 a6 k
 obtain ⟨ih0, ih1, ih2, ih3⟩ := palletlaw08_FrameBack.mono_l k
 unfold palletlaw08_FrameBack.f
 repeat' first
   | (with_reducible exact ih0 _ _ _ _ _ _ _)
   | (with_reducible exact ih1 _ _ _ _ _)
   | (with_reducible exact ih2 _ _ _ _ _ _ _)
   | (with_reducible exact ih3 _ _ _ _ _ _ _ _ _)
   | (with_reducible exact frame_Check.mono _ _ _ _ _)
   | (with_reducible exact frame_Read.mono _ _)
   | (with_reducible exact frame_Write.mono _ _ _ _ _)
   | (with_reducible exact palletlaw08_live.mono _)
   | (with_reducible exact LeO.refl _)
   | (with_reducible exact LeO.none _)
   | (with_reducible refine LeO.ite ?_ ?_)
   | (with_reducible refine LeO.bind ?_ (fun _ => ?_))
   | exact ih0 _ _ _ _ _ _ _
   | exact ih1 _ _ _ _ _
   | exact ih2 _ _ _ _ _ _ _
   | exact ih3 _ _ _ _ _ _ _ _ _
   | exact frame_Check.mono _ _ _ _ _
   | exact frame_Read.mono _ _
   | exact frame_Write.mono _ _ _ _ _
   | exact palletlaw08_live.mono _
   | exact LeO.none _
   | refine LeO.ite ?_ ?_
   | refine LeO.bind ?_ (fun _ => ?_)
set_option maxHeartbeats 8000000 in
set_option maxRecDepth 100000 in
theorem palletlaw08_FrameBack.calls (k : Nat) (a0_0 : Int) (a0_1 : Int) (a0_2 : Int) (a0_3 : Int) (A1 : Option Addr) (c1 : Nat) (l1 : List Int) (a2 : Int) (a3 : Int) (r : Bool) (w : World) (hr1 : Kd.C (Kd.int .u8) w A1 l1.length l1) (hc1 : l1.length ≤ c1) (hr_ : Aside0 (r = true)) (h : palletlaw08_FrameBack.f k a0_0 a0_1 a0_2 a0_3 l1 a2 a3 = some r) :
  Calls Try.prog 7 #[.agg #[.int .i64 a0_0, .int .i64 a0_1, .int .u64 a0_2, .int .u16 a0_3], .slice A1 l1.length c1, .int .i64 a2, .int .u32 a3] w fun e w' => e = .returned (.bool r) ∧ Below w.heap.size w w' := by
 have hu25 := Try.underlying25
 have HR1 := Aside0.mk hr1
 have HC1 := Aside0.mk hc1
 clear hr1 hc1
 have HB := Aside0.mk (Below.refl w.heap.size w)
 have H : ((palletlaw08_live.f k).bind fun t379 => (if t379 = true then (if (l1.length : Int) > 2000 then (some t379) else ((frame_Read.f k l1).bind fun bt380 => (if bt380.2.2.2.2 = 0 then ((frame_Write.f k bt380.1 bt380.2.1 bt380.2.2.1 bt380.2.2.2.1).bind fun bt386 => (if bt386.2 = 0 then ((palletref02_Same.f bt386.1 l1).bind fun t390 => (if t390 = true then ((frame_Check.f k bt380.1 bt380.2.1 bt380.2.2.1 bt380.2.2.2.1).bind fun t391 => (if t391 = 0 then (palletlaw08_FrameBack.j0 k a2 a3 t379 a0_0 a0_1 a0_2 a0_3) else (some false))) else (some false))) else (some false))) else (palletlaw08_FrameBack.j0 k a2 a3 t379 a0_0 a0_1 a0_2 a0_3)))) else (some false))) = some r := h
 clear h
 replace H := Option.bind_eq_some_iff.mp H
 obtain ⟨t379, A50, H⟩ := H
 replace H : (if t379 = true then (if (l1.length : Int) > 2000 then (some t379) else ((frame_Read.f k l1).bind fun bt380 => (if bt380.2.2.2.2 = 0 then ((frame_Write.f k bt380.1 bt380.2.1 bt380.2.2.1 bt380.2.2.2.1).bind fun bt386 => (if bt386.2 = 0 then ((palletref02_Same.f bt386.1 l1).bind fun t390 => (if t390 = true then ((frame_Check.f k bt380.1 bt380.2.1 bt380.2.2.1 bt380.2.2.2.1).bind fun t391 => (if t391 = 0 then (palletlaw08_FrameBack.j0 k a2 a3 t379 a0_0 a0_1 a0_2 a0_3) else (some false))) else (some false))) else (some false))) else (palletlaw08_FrameBack.j0 k a2 a3 t379 a0_0 a0_1 a0_2 a0_3)))) else (some false)) = some r := H
 have A5 := Aside0.mk A50
 clear A50
 by_cases c6 : t379 = true
 ·subst c6
  have H1 : (if (l1.length : Int) > 2000 then (some true) else ((frame_Read.f k l1).bind fun bt380 => (if bt380.2.2.2.2 = 0 then ((frame_Write.f k bt380.1 bt380.2.1 bt380.2.2.1 bt380.2.2.2.1).bind fun bt386 => (if bt386.2 = 0 then ((palletref02_Same.f bt386.1 l1).bind fun t390 => (if t390 = true then ((frame_Check.f k bt380.1 bt380.2.1 bt380.2.2.1 bt380.2.2.2.1).bind fun t391 => (if t391 = 0 then (palletlaw08_FrameBack.j0 k a2 a3 true a0_0 a0_1 a0_2 a0_3) else (some false))) else (some false))) else (some false))) else (palletlaw08_FrameBack.j0 k a2 a3 true a0_0 a0_1 a0_2 a0_3)))) = some r := by rw [if_pos rfl] at H; exact H
  clear H
  have H := H1
  clear H1
  by_cases c7 : (l1.length : Int) > 2000
  ·rw [if_pos c7] at H
   have c7b0 : decide (2000 < (l1.length : Int)) = true := decide_eq_true c7
   have c7b1 : decide (2000 < l1.length) = true := decide_eq_true (by omega)
   clear c7
   obtain rfl := Option.some.inj H
   go_enter Try.func7, Try.ntmps7
   go_wp2_with (first | ((with_reducible refine gate_dst (N := 4) rfl ?_); (try (refine gate_guard (by rfl) ?_; dsimp only)); refine box_event ?hg (N := 4) ?hd (cs := #[.int .i64 a0_0, .int .i64 a0_1, .int .u64 a0_2, .int .u16 a0_3]) (t := 25) ?hr ?_; (case hd => rfl); (case hg => rfl); (case hr => first | (go_simp; done) | (go_simp; rfl)); intro gb378 hg w8 hbox hb; have n0_ := Aside0.mk (below_step (by repeat (first | (with_reducible first | exact HB.out | apply below_alloc | apply pw_below_drewN | apply below_drew1) | exact HB.out)) hb); have n1_ := Aside0.mk (hbox); have n2_ := Aside0.mk ((by rw [hg]; exact (below_size (by repeat (first | (with_reducible first | exact HB.out | apply below_alloc | apply pw_below_drewN | apply below_drew1) | exact HB.out))) : w.heap.size ≤ gb378)); have n3_ := Aside0.mk ((by rw [hg]; exact (below_size (by repeat (first | (with_reducible first | exact HB.out | apply below_alloc | apply pw_below_drewN | apply below_drew1) | exact HB.out))) : w.heap.size ≤ gb378)); clear HB; have HB := n0_; have BK378 := n1_; have GW378 := n2_; have GE378 := n3_; clear n0_ n1_ n2_ n3_; clear hb hbox hg) | ((with_reducible refine gate_callee (f := 8) rfl ?_); refine goesL_ (some 25) rfl rfl Try.func8 (by kernel_rfl) rfl #[] rfl (by (try simp only [List.map_toArray, List.map_cons, List.map_nil]); first | done | rfl | (simp only [List.length_drop, List.length_take]; first | rfl | (rw [Nat.min_eq_left (Int.toNat_le.2 (of_decide_eq_true (by assumption)))]; rfl))) ?_; (with_reducible refine (palletlaw08_live.calls k  true _ A5.out).mono ?_); rintro e w9 ⟨rfl, hb⟩; refine ⟨_, rfl, ?_⟩; have n0_ := Aside0.mk (blk_below (g := gb378) (o := .cells #[.int .i64 a0_0, .int .i64 a0_1, .int .u64 a0_2, .int .u16 a0_3] 25 (0, 0)) (by (with_reducible repeat (first | refine blk_drewN ?_ _ | refine blk_drew ?_ | refine blk_alloc ?_ _)); exact BK378.out) hb); have n1_ := Aside0.mk (below_step (by repeat (first | (with_reducible first | exact HB.out | apply below_alloc | apply pw_below_drewN | apply below_drew1 | refine below_set ?_ GE378.out) | exact HB.out)) hb); clear BK378; clear HB; have BK378 := n0_; have HB := n1_; clear n0_ n1_; (try clear hb); (try clear hb2); (try clear hk); (try clear hi)))
   go_ret
   exact ⟨by first | rfl | (simp [errW_none, errW_some] <;> rfl) | (simp [*, errW_none, errW_some] <;> rfl), by repeat (first | (with_reducible first | exact HB.out | apply below_alloc | apply pw_below_drewN | apply below_drew1 | refine below_set ?_ GE378.out) | exact HB.out)⟩
  ·rw [if_neg c7] at H
   have c7b0 : decide (2000 < (l1.length : Int)) = false := decide_eq_false c7
   have c7b1 : decide (2000 < l1.length) = false := decide_eq_false (by omega)
   clear c7
   replace H := Option.bind_eq_some_iff.mp H
   obtain ⟨⟨t380, t381, t382, t383, t384⟩, A100, H⟩ := H
   replace H : (if t384 = 0 then ((frame_Write.f k t380 t381 t382 t383).bind fun bt386 => (if bt386.2 = 0 then ((palletref02_Same.f bt386.1 l1).bind fun t390 => (if t390 = true then ((frame_Check.f k t380 t381 t382 t383).bind fun t391 => (if t391 = 0 then (palletlaw08_FrameBack.j0 k a2 a3 true a0_0 a0_1 a0_2 a0_3) else (some false))) else (some false))) else (some false))) else (palletlaw08_FrameBack.j0 k a2 a3 true a0_0 a0_1 a0_2 a0_3)) = some r := H
   have A10 := Aside0.mk A100
   clear A100
   have HC11 := Aside0.mk H
   clear H
   go_enter Try.func7, Try.ntmps7
   go_upto_if 38 with (first | ((with_reducible refine gate_dst (N := 4) rfl ?_); (try (refine gate_guard (by rfl) ?_; dsimp only)); refine box_event ?hg (N := 4) ?hd (cs := #[.int .i64 a0_0, .int .i64 a0_1, .int .u64 a0_2, .int .u16 a0_3]) (t := 25) ?hr ?_; (case hd => rfl); (case hg => rfl); (case hr => first | (go_simp; done) | (go_simp; rfl)); intro gb378 hg w12 hbox hb; have n0_ := Aside0.mk (below_step (by repeat (first | (with_reducible first | exact HB.out | apply below_alloc | apply pw_below_drewN | apply below_drew1) | exact HB.out)) hb); have n1_ := Aside0.mk (hbox); have n2_ := Aside0.mk ((by rw [hg]; exact (below_size (by repeat (first | (with_reducible first | exact HB.out | apply below_alloc | apply pw_below_drewN | apply below_drew1) | exact HB.out))) : w.heap.size ≤ gb378)); have n3_ := Aside0.mk ((by rw [hg]; exact (below_size (by repeat (first | (with_reducible first | exact HB.out | apply below_alloc | apply pw_below_drewN | apply below_drew1) | exact HB.out))) : w.heap.size ≤ gb378)); clear HB; have HB := n0_; have BK378 := n1_; have GW378 := n2_; have GE378 := n3_; clear n0_ n1_ n2_ n3_; clear hb hbox hg) | ((with_reducible refine gate_callee (f := 8) rfl ?_); refine goesL_ (some 25) rfl rfl Try.func8 (by kernel_rfl) rfl #[] rfl (by (try simp only [List.map_toArray, List.map_cons, List.map_nil]); first | done | rfl | (simp only [List.length_drop, List.length_take]; first | rfl | (rw [Nat.min_eq_left (Int.toNat_le.2 (of_decide_eq_true (by assumption)))]; rfl))) ?_; (with_reducible refine (palletlaw08_live.calls k  true _ A5.out).mono ?_); rintro e w13 ⟨rfl, hb⟩; refine ⟨_, rfl, ?_⟩; have n0_ := Aside0.mk (blk_below (g := gb378) (o := .cells #[.int .i64 a0_0, .int .i64 a0_1, .int .u64 a0_2, .int .u16 a0_3] 25 (0, 0)) (by (with_reducible repeat (first | refine blk_drewN ?_ _ | refine blk_drew ?_ | refine blk_alloc ?_ _)); exact BK378.out) hb); have n1_ := Aside0.mk (below_step (by repeat (first | (with_reducible first | exact HB.out | apply below_alloc | apply pw_below_drewN | apply below_drew1 | refine below_set ?_ GE378.out) | exact HB.out)) hb); clear BK378; clear HB; have BK378 := n0_; have HB := n1_; clear n0_ n1_; (try clear hb); (try clear hb2); (try clear hk); (try clear hi)) | ((with_reducible refine gate_callee (f := 21) rfl ?_); refine goesL_ (some 34) rfl rfl Try.func21 (by kernel_rfl) rfl #[.slice A1 l1.length c1] rfl (by (try simp only [List.map_toArray, List.map_cons, List.map_nil]); first | done | rfl | (simp only [List.length_drop, List.length_take]; first | rfl | (rw [Nat.min_eq_left (Int.toNat_le.2 (of_decide_eq_true (by assumption)))]; rfl))) ?_; (with_reducible refine (frame_Read.calls k _ _ l1 t380 t381 t382 t383 t384 _ ?side1 ?side2 A10.out).mono ?_); (case side1 => repeat (first | exact (Kd.C_below HR1.out HB.out) | (with_reducible refine Kd.C_alloc ?_ _) | (with_reducible refine Kd.C_drewN ?_ _) | (with_reducible refine Kd.C_drew ?_))); (case side2 => exact HC1.out); rintro e w14 ⟨rfl, hb⟩; refine ⟨_, rfl, ?_⟩; have n0_ := Aside0.mk (blk_below (g := gb378) (o := .cells #[.int .i64 a0_0, .int .i64 a0_1, .int .u64 a0_2, .int .u16 a0_3] 25 (0, 0)) (by (with_reducible repeat (first | refine blk_drewN ?_ _ | refine blk_drew ?_ | refine blk_alloc ?_ _)); exact BK378.out) hb); have n1_ := Aside0.mk (below_step (by repeat (first | (with_reducible first | exact HB.out | apply below_alloc | apply pw_below_drewN | apply below_drew1 | refine below_set ?_ GE378.out) | exact HB.out)) hb); clear BK378; clear HB; have BK378 := n0_; have HB := n1_; clear n0_ n1_; (try clear hb); (try clear hb2); (try clear hk); (try clear hi)) | ((with_reducible refine gate_dst (N := 10) rfl ?_); (try (refine gate_guard (by rfl) ?_; dsimp only)); refine box_event ?hg (N := 10) ?hd (cs := #[.int .i64 0, .int .i64 0, .int .u64 0, .int .u16 0]) (t := 25) ?hr ?_; (case hd => rfl); (case hg => rfl); (case hr => first | (go_simp; done) | (go_simp; rfl)); intro gb385 hg w15 hbox hb; have n0_ := Aside0.mk (blk_below (g := gb378) (o := .cells #[.int .i64 a0_0, .int .i64 a0_1, .int .u64 a0_2, .int .u16 a0_3] 25 (0, 0)) (by (with_reducible repeat (first | refine blk_drewN ?_ _ | refine blk_drew ?_ | refine blk_alloc ?_ _)); exact BK378.out) hb); have n1_ := Aside0.mk (below_step (by repeat (first | (with_reducible first | exact HB.out | apply below_alloc | apply pw_below_drewN | apply below_drew1 | refine below_set ?_ GE378.out) | exact HB.out)) hb); have n2_ := Aside0.mk (hbox); have n3_ := Aside0.mk ((by rw [hg]; exact (below_size (by repeat (first | (with_reducible first | exact HB.out | apply below_alloc | apply pw_below_drewN | apply below_drew1 | refine below_set ?_ GE378.out) | exact HB.out))) : w.heap.size ≤ gb385)); have n4_ := Aside0.mk ((by rw [hg]; exact (below_size (by repeat (first | (with_reducible first | exact HB.out | apply below_alloc | apply pw_below_drewN | apply below_drew1 | refine below_set ?_ GE378.out) | exact HB.out))) : w.heap.size ≤ gb385)); have n5_ := Aside0.mk ((by rw [hg]; exact Nat.ne_of_lt (blk_lt (g := gb378) (o := .cells #[.int .i64 a0_0, .int .i64 a0_1, .int .u64 a0_2, .int .u16 a0_3] 25 (0, 0)) (by (with_reducible repeat (first | refine blk_drewN ?_ _ | refine blk_drew ?_ | refine blk_alloc ?_ _)); exact BK378.out)) : gb378 ≠ gb385)); have n6_ := Aside0.mk ((by rw [hg]; exact Nat.ne_of_gt (blk_lt (g := gb378) (o := .cells #[.int .i64 a0_0, .int .i64 a0_1, .int .u64 a0_2, .int .u16 a0_3] 25 (0, 0)) (by (with_reducible repeat (first | refine blk_drewN ?_ _ | refine blk_drew ?_ | refine blk_alloc ?_ _)); exact BK378.out)) : gb385 ≠ gb378)); clear BK378; clear HB; have BK378 := n0_; have HB := n1_; have BK385 := n2_; have GW385 := n3_; have GE385 := n4_; have NB378_385 := n5_; have NB385_378 := n6_; clear n0_ n1_ n2_ n3_ n4_ n5_ n6_; clear hb hbox hg; have hnb16 := NB385_378.out; have hnc16 := NB378_385.out; have hcz17_0 : w15.cell? ⟨gb385, 0, none⟩ = some (.int .i64 0) := (blk_cell BK385.out 0).trans rfl; have hcz17_1 : w15.cell? ⟨gb385, 1, none⟩ = some (.int .i64 0) := (blk_cell BK385.out 1).trans rfl; have hcz17_2 : w15.cell? ⟨gb385, 2, none⟩ = some (.int .u64 0) := (blk_cell BK385.out 2).trans rfl; have hcz17_3 : w15.cell? ⟨gb385, 3, none⟩ = some (.int .u16 0) := (blk_cell BK385.out 3).trans rfl; have hfz17_0 := blk_frozen BK385.out 0; have hfz17_1 := blk_frozen BK385.out 1; have hfz17_2 := blk_frozen BK385.out 2; have hfz17_3 := blk_frozen BK385.out 3))
   (try simp only [Act.put, List.setIfInBounds_toArray, List.set_cons_zero, List.set_cons_succ])
   go_cut [] (fun wc => ∃ (kq : Nat), Aside0 (palletlaw08_FrameBack.j0 kq a2 a3 true a0_0 a0_1 a0_2 a0_3 = some r) ∧ Aside0 (kq ≤ k) ∧ Aside0 (wc.heap[gb378]? = some (.cells #[.int .i64 a0_0, .int .i64 a0_1, .int .u64 a0_2, .int .u16 a0_3] 25 (0, 0))) ∧ Aside0 (wc.heap[gb385]? = some (.cells #[.int .i64 t380, .int .i64 t381, .int .u64 t382, .int .u16 t383] 25 (0, 0))) ∧ Aside0 (Below w.heap.size w wc))
   case first =>
    have H := HC11.out
    clear HC11
    by_cases c18 : t384 = 0
    ·rw [if_pos c18] at H
     have c18b0 : (t384 == 0) = true := beq_iff_eq.mpr c18
     have c18b1 : (t384 != 0) = false := bne_eq_false_iff_eq.mpr c18
     clear c18
     (first | rw [c18b0] | (simp only [i64_w, i32_w]; rw [c18b0]) | skip)
     replace H := Option.bind_eq_some_iff.mp H
     obtain ⟨⟨t386, t389⟩, A190, H⟩ := H
     replace H : (if t389 = 0 then ((palletref02_Same.f t386 l1).bind fun t390 => (if t390 = true then ((frame_Check.f k t380 t381 t382 t383).bind fun t391 => (if t391 = 0 then (palletlaw08_FrameBack.j0 k a2 a3 true a0_0 a0_1 a0_2 a0_3) else (some false))) else (some false))) else (some false)) = some r := H
     have A19 := Aside0.mk A190
     clear A190
     by_cases c20 : t389 = 0
     ·rw [if_pos c20] at H
      have c20b0 : (t389 == 0) = true := beq_iff_eq.mpr c20
      have c20b1 : (t389 != 0) = false := bne_eq_false_iff_eq.mpr c20
      clear c20
      replace H := Option.bind_eq_some_iff.mp H
      obtain ⟨t390, A210, H⟩ := H
      replace H : (if t390 = true then ((frame_Check.f k t380 t381 t382 t383).bind fun t391 => (if t391 = 0 then (palletlaw08_FrameBack.j0 k a2 a3 true a0_0 a0_1 a0_2 a0_3) else (some false))) else (some false)) = some r := H
      have A21 := Aside0.mk A210
      clear A210
      by_cases c22 : t390 = true
      ·subst c22
       have H1 : ((frame_Check.f k t380 t381 t382 t383).bind fun t391 => (if t391 = 0 then (palletlaw08_FrameBack.j0 k a2 a3 true a0_0 a0_1 a0_2 a0_3) else (some false))) = some r := by rw [if_pos rfl] at H; exact H
       clear H
       have H := H1
       clear H1
       replace H := Option.bind_eq_some_iff.mp H
       obtain ⟨t391, A230, H⟩ := H
       replace H : (if t391 = 0 then (palletlaw08_FrameBack.j0 k a2 a3 true a0_0 a0_1 a0_2 a0_3) else (some false)) = some r := H
       have A23 := Aside0.mk A230
       clear A230
       by_cases c24 : t391 = 0
       ·rw [if_pos c24] at H
        have c24b0 : (t391 == 0) = true := beq_iff_eq.mpr c24
        have c24b1 : (t391 != 0) = false := bne_eq_false_iff_eq.mpr c24
        clear c24
        have H' := Aside0.mk H
        clear H
        have hnb25 := NB385_378.out
        have hnc25 := NB378_385.out
        have hcz26_0 : w15.cell? ⟨gb385, 0, none⟩ = some (.int .i64 0) := (blk_cell BK385.out 0).trans rfl
        have hcz26_1 : w15.cell? ⟨gb385, 1, none⟩ = some (.int .i64 0) := (blk_cell BK385.out 1).trans rfl
        have hcz26_2 : w15.cell? ⟨gb385, 2, none⟩ = some (.int .u64 0) := (blk_cell BK385.out 2).trans rfl
        have hcz26_3 : w15.cell? ⟨gb385, 3, none⟩ = some (.int .u16 0) := (blk_cell BK385.out 3).trans rfl
        have hfz26_0 := blk_frozen BK385.out 0
        have hfz26_1 := blk_frozen BK385.out 1
        have hfz26_2 := blk_frozen BK385.out 2
        have hfz26_3 := blk_frozen BK385.out 3
        go_wp2_with (first | ((with_reducible refine gate_callee (f := 9) rfl ?_); refine goesL_ (some 41) rfl rfl Try.func9 (by kernel_rfl) rfl #[.agg #[.int .i64 t380, .int .i64 t381, .int .u64 t382, .int .u16 t383]] rfl (by (try simp only [List.map_toArray, List.map_cons, List.map_nil]); first | done | rfl | (simp only [List.length_drop, List.length_take]; first | rfl | (rw [Nat.min_eq_left (Int.toNat_le.2 (of_decide_eq_true (by assumption)))]; rfl))) ?_; (with_reducible refine (frame_Write.calls k t380 t381 t382 t383 t386 t389 _ A19.out).mono ?_); rintro e w27 ⟨v387, rfl, ho0, hb⟩; refine ⟨_, rfl, ?_⟩; have n0_ := Aside0.mk (Kd.R_lower ho0 (below_size (by repeat (first | (with_reducible first | exact HB.out | apply below_alloc | apply pw_below_drewN | apply below_drew1 | refine below_set ?_ GE378.out | refine below_set ?_ GE385.out) | exact HB.out)))); have n1_ := Aside0.mk (blk_below (g := gb378) (o := .cells #[.int .i64 a0_0, .int .i64 a0_1, .int .u64 a0_2, .int .u16 a0_3] 25 (0, 0)) (by (with_reducible repeat (first | refine blk_drewN ?_ _ | refine blk_drew ?_ | refine blk_alloc ?_ _)); refine blk_far ?_ NB378_385.out _; (with_reducible repeat (first | refine blk_drewN ?_ _ | refine blk_drew ?_ | refine blk_alloc ?_ _)); refine blk_far ?_ NB378_385.out _; (with_reducible repeat (first | refine blk_drewN ?_ _ | refine blk_drew ?_ | refine blk_alloc ?_ _)); refine blk_far ?_ NB378_385.out _; (with_reducible repeat (first | refine blk_drewN ?_ _ | refine blk_drew ?_ | refine blk_alloc ?_ _)); refine blk_far ?_ NB378_385.out _; (with_reducible repeat (first | refine blk_drewN ?_ _ | refine blk_drew ?_ | refine blk_alloc ?_ _)); exact BK378.out) hb); have n2_ := Aside0.mk (blk_below (g := gb385) (o := .cells #[.int .i64 t380, .int .i64 t381, .int .u64 t382, .int .u16 t383] 25 (0, 0)) (by (with_reducible repeat (first | refine blk_drewN ?_ _ | refine blk_drew ?_ | refine blk_alloc ?_ _)); refine blk_put (cs := #[.int .i64 t380, .int .i64 t381, .int .u64 t382, .int .u16 0]) ?_ 3 _ rfl; (with_reducible repeat (first | refine blk_drewN ?_ _ | refine blk_drew ?_ | refine blk_alloc ?_ _)); refine blk_put (cs := #[.int .i64 t380, .int .i64 t381, .int .u64 0, .int .u16 0]) ?_ 2 _ rfl; (with_reducible repeat (first | refine blk_drewN ?_ _ | refine blk_drew ?_ | refine blk_alloc ?_ _)); refine blk_put (cs := #[.int .i64 t380, .int .i64 0, .int .u64 0, .int .u16 0]) ?_ 1 _ rfl; (with_reducible repeat (first | refine blk_drewN ?_ _ | refine blk_drew ?_ | refine blk_alloc ?_ _)); refine blk_put (cs := #[.int .i64 0, .int .i64 0, .int .u64 0, .int .u16 0]) ?_ 0 _ rfl; (with_reducible repeat (first | refine blk_drewN ?_ _ | refine blk_drew ?_ | refine blk_alloc ?_ _)); exact BK385.out) hb); have n3_ := Aside0.mk (below_step (by repeat (first | (with_reducible first | exact HB.out | apply below_alloc | apply pw_below_drewN | apply below_drew1 | refine below_set ?_ GE378.out | refine below_set ?_ GE385.out) | exact HB.out)) hb); clear BK378; clear BK385; clear HB; have HO388 := n0_; have BK378 := n1_; have BK385 := n2_; have HB := n3_; clear n0_ n1_ n2_ n3_; (try clear hb); (try clear hb2); (try clear hk); (try clear hi); (try clear ho0); obtain ⟨Ao28, co28, eo28⟩ := Kd.R_slice HO388.out; subst eo28) | (go_at_call 11; (with_reducible refine (palletref02_Same.calls _ _ t386 _ _ l1 true _ ?side1 ?side2 ?side3 ?side4 A21.out).mono ?_); (case side1 => repeat (first | exact (Kd.R_reads' HO388.out).2.2 | (with_reducible refine Kd.C_alloc ?_ _) | (with_reducible refine Kd.C_drewN ?_ _) | (with_reducible refine Kd.C_drew ?_))); (case side2 => exact (Kd.R_reads' HO388.out).2.1); (case side3 => repeat (first | exact (Kd.C_below HR1.out HB.out) | (with_reducible refine Kd.C_alloc ?_ _) | (with_reducible refine Kd.C_drewN ?_ _) | (with_reducible refine Kd.C_drew ?_))); (case side4 => exact HC1.out); rintro e w' ⟨rfl, ⟨nd, rfl⟩⟩; have hcz29_0 : w27.cell? ⟨gb385, 0, none⟩ = some (.int .i64 t380) := (blk_cell BK385.out 0).trans rfl; have hcz29_1 : w27.cell? ⟨gb385, 1, none⟩ = some (.int .i64 t381) := (blk_cell BK385.out 1).trans rfl; have hcz29_2 : w27.cell? ⟨gb385, 2, none⟩ = some (.int .u64 t382) := (blk_cell BK385.out 2).trans rfl; have hcz29_3 : w27.cell? ⟨gb385, 3, none⟩ = some (.int .u16 t383) := (blk_cell BK385.out 3).trans rfl; have hfz29_0 := blk_frozen BK385.out 0; have hfz29_1 := blk_frozen BK385.out 1; have hfz29_2 := blk_frozen BK385.out 2; have hfz29_3 := blk_frozen BK385.out 3) | (go_at_call 24; (with_reducible refine (frame_Check.calls k t380 t381 t382 t383 t391 _ A23.out).mono ?_); rintro e w30 ⟨rfl, hb⟩; have n0_ := Aside0.mk (Kd.R_below (by (with_reducible repeat (first | apply Kd.R_alloc | apply Kd.R_drewN | apply Kd.R_drew)); exact HO388.out) hb); have n1_ := Aside0.mk (blk_below (g := gb378) (o := .cells #[.int .i64 a0_0, .int .i64 a0_1, .int .u64 a0_2, .int .u16 a0_3] 25 (0, 0)) (by (with_reducible repeat (first | refine blk_drewN ?_ _ | refine blk_drew ?_ | refine blk_alloc ?_ _)); exact BK378.out) hb); have n2_ := Aside0.mk (blk_below (g := gb385) (o := .cells #[.int .i64 t380, .int .i64 t381, .int .u64 t382, .int .u16 t383] 25 (0, 0)) (by (with_reducible repeat (first | refine blk_drewN ?_ _ | refine blk_drew ?_ | refine blk_alloc ?_ _)); exact BK385.out) hb); have n3_ := Aside0.mk (below_step (by repeat (first | (with_reducible first | exact HB.out | apply below_alloc | apply pw_below_drewN | apply below_drew1 | refine below_set ?_ GE378.out | refine below_set ?_ GE385.out) | exact HB.out)) hb); clear HO388; clear BK378; clear BK385; clear HB; have HO388 := n0_; have BK378 := n1_; have BK385 := n2_; have HB := n3_; clear n0_ n1_ n2_ n3_; (try clear hb); (try clear hb2); (try clear hk); (try clear hi)))
        go_meet
        case rel => exact ⟨_, H', ⟨by first | omega | exact Nat.le_refl _⟩, ⟨by (with_reducible repeat (first | refine blk_drewN ?_ _ | refine blk_drew ?_ | refine blk_alloc ?_ _)); exact BK378.out⟩, ⟨by (with_reducible repeat (first | refine blk_drewN ?_ _ | refine blk_drew ?_ | refine blk_alloc ?_ _)); exact BK385.out⟩, ⟨by repeat (first | (with_reducible first | exact HB.out | apply below_alloc | apply pw_below_drewN | apply below_drew1 | refine below_set ?_ GE378.out | refine below_set ?_ GE385.out) | exact HB.out)⟩⟩
       ·rw [if_neg c24] at H
        have c24b0 : (t391 == 0) = false := beq_eq_false_iff_ne.mpr c24
        have c24b1 : (t391 != 0) = true := bne_iff_ne.mpr c24
        obtain rfl := Option.some.inj H
        exact absurd hr_.out (by decide)
      ·replace c22 := Bool.eq_false_iff.mpr c22
       subst c22
       have H1 : (some false) = some r := by rw [if_neg (show ¬ (false = true) by decide)] at H; exact H
       clear H
       have H := H1
       clear H1
       obtain rfl := Option.some.inj H
       exact absurd hr_.out (by decide)
     ·rw [if_neg c20] at H
      have c20b0 : (t389 == 0) = false := beq_eq_false_iff_ne.mpr c20
      have c20b1 : (t389 != 0) = true := bne_iff_ne.mpr c20
      obtain rfl := Option.some.inj H
      exact absurd hr_.out (by decide)
    ·rw [if_neg c18] at H
     have c18b0 : (t384 == 0) = false := beq_eq_false_iff_ne.mpr c18
     have c18b1 : (t384 != 0) = true := bne_iff_ne.mpr c18
     (first | rw [c18b0] | (simp only [i64_w, i32_w]; rw [c18b0]) | skip)
     have H' := Aside0.mk H
     clear H
     go_wp2
     go_meet
     case rel => exact ⟨_, H', ⟨by first | omega | exact Nat.le_refl _⟩, ⟨by (with_reducible repeat (first | refine blk_drewN ?_ _ | refine blk_drew ?_ | refine blk_alloc ?_ _)); refine blk_far ?_ NB378_385.out _; (with_reducible repeat (first | refine blk_drewN ?_ _ | refine blk_drew ?_ | refine blk_alloc ?_ _)); refine blk_far ?_ NB378_385.out _; (with_reducible repeat (first | refine blk_drewN ?_ _ | refine blk_drew ?_ | refine blk_alloc ?_ _)); refine blk_far ?_ NB378_385.out _; (with_reducible repeat (first | refine blk_drewN ?_ _ | refine blk_drew ?_ | refine blk_alloc ?_ _)); refine blk_far ?_ NB378_385.out _; (with_reducible repeat (first | refine blk_drewN ?_ _ | refine blk_drew ?_ | refine blk_alloc ?_ _)); exact BK378.out⟩, ⟨by (with_reducible repeat (first | refine blk_drewN ?_ _ | refine blk_drew ?_ | refine blk_alloc ?_ _)); refine blk_put (cs := #[.int .i64 t380, .int .i64 t381, .int .u64 t382, .int .u16 0]) ?_ 3 _ rfl; (with_reducible repeat (first | refine blk_drewN ?_ _ | refine blk_drew ?_ | refine blk_alloc ?_ _)); refine blk_put (cs := #[.int .i64 t380, .int .i64 t381, .int .u64 0, .int .u16 0]) ?_ 2 _ rfl; (with_reducible repeat (first | refine blk_drewN ?_ _ | refine blk_drew ?_ | refine blk_alloc ?_ _)); refine blk_put (cs := #[.int .i64 t380, .int .i64 0, .int .u64 0, .int .u16 0]) ?_ 1 _ rfl; (with_reducible repeat (first | refine blk_drewN ?_ _ | refine blk_drew ?_ | refine blk_alloc ?_ _)); refine blk_put (cs := #[.int .i64 0, .int .i64 0, .int .u64 0, .int .u16 0]) ?_ 0 _ rfl; (with_reducible repeat (first | refine blk_drewN ?_ _ | refine blk_drew ?_ | refine blk_alloc ?_ _)); exact BK385.out⟩, ⟨by repeat (first | (with_reducible first | exact HB.out | apply below_alloc | apply pw_below_drewN | apply below_drew1 | refine below_set ?_ GE378.out | refine below_set ?_ GE385.out) | exact HB.out)⟩⟩
   case rest =>
    clear HC11
    try clear c1
    try clear c2
    try clear p2
    try clear c6
    try clear c7
    try clear c7b0
    try clear c7b1
    try clear c8
    try clear c9
    try clear c16
    try clear c18
    try clear c18b0
    try clear c18b1
    try clear c20
    try clear c20b0
    try clear c20b1
    try clear c21
    try clear c22
    try clear c24
    try clear c24b0
    try clear c24b1
    try clear c25
    try clear hcz17_0
    try clear hcz17_1
    try clear hcz17_2
    try clear hcz17_3
    try clear hcz26_0
    try clear hcz26_1
    try clear hcz26_2
    try clear hcz26_3
    try clear hcz29_0
    try clear hcz29_1
    try clear hcz29_2
    try clear hcz29_3
    try clear hfz17_0
    try clear hfz17_1
    try clear hfz17_2
    try clear hfz17_3
    try clear hfz26_0
    try clear hfz26_1
    try clear hfz26_2
    try clear hfz26_3
    try clear hfz29_0
    try clear hfz29_1
    try clear hfz29_2
    try clear hfz29_3
    obtain ⟨kq, HA, HJ10, BK378, BK385, HB⟩ := hcut
    cases kq with
    | zero => exact absurd HA.out (by simp [palletlaw08_FrameBack.j0])
    | succ kj10 =>
     have H := HA.out
     clear HA
     simp only [palletlaw08_FrameBack.j0] at H
     replace H := Option.bind_eq_some_iff.mp H
     obtain ⟨⟨t392, t395⟩, A310, H⟩ := H
     replace H : (if t395 = 0 then ((frame_Read.f kj10 t392).bind fun bt397 => (if (!(bt397.1 == a0_0) || (!(bt397.2.1 == a0_1) || (!(bt397.2.2.1 == a0_2) || (!(bt397.2.2.2.1 == a0_3))))) = true then (palletlaw08_FrameBack.j1 kj10 a2 a3 true t392 true) else (if bt397.2.2.2.2 = 0 then (palletlaw08_FrameBack.j1 kj10 a2 a3 true t392 ((t392.length : Int) == 0)) else (palletlaw08_FrameBack.j1 kj10 a2 a3 true t392 true)))) else (if true = true then ((frame_Check.f kj10 a0_0 a0_1 a0_2 a0_3).bind fun t396 => (some (t396 == t395))) else (some false))) = some r := H
     have A31 := Aside0.mk A310
     clear A310
     by_cases c32 : t395 = 0
     ·rw [if_pos c32] at H
      have c32b0 : (t395 == 0) = true := beq_iff_eq.mpr c32
      have c32b1 : (t395 != 0) = false := bne_eq_false_iff_eq.mpr c32
      clear c32
      replace H := Option.bind_eq_some_iff.mp H
      obtain ⟨⟨t397, t398, t399, t400, t401⟩, A330, H⟩ := H
      replace H : (if (!(t397 == a0_0) || (!(t398 == a0_1) || (!(t399 == a0_2) || (!(t400 == a0_3))))) = true then (palletlaw08_FrameBack.j1 kj10 a2 a3 true t392 true) else (if t401 = 0 then (palletlaw08_FrameBack.j1 kj10 a2 a3 true t392 ((t392.length : Int) == 0)) else (palletlaw08_FrameBack.j1 kj10 a2 a3 true t392 true))) = some r := H
      have A33 := Aside0.mk A330
      clear A330
      have HC34 := Aside0.mk H
      clear H
      have hnb35 := NB378_385.out
      have hnc35 := NB385_378.out
      have hcz36_0 : wc.cell? ⟨gb378, 0, none⟩ = some (.int .i64 a0_0) := (blk_cell BK378.out 0).trans rfl
      have hcz36_1 : wc.cell? ⟨gb378, 1, none⟩ = some (.int .i64 a0_1) := (blk_cell BK378.out 1).trans rfl
      have hcz36_2 : wc.cell? ⟨gb378, 2, none⟩ = some (.int .u64 a0_2) := (blk_cell BK378.out 2).trans rfl
      have hcz36_3 : wc.cell? ⟨gb378, 3, none⟩ = some (.int .u16 a0_3) := (blk_cell BK378.out 3).trans rfl
      have hfz36_0 := blk_frozen BK378.out 0
      have hfz36_1 := blk_frozen BK378.out 1
      have hfz36_2 := blk_frozen BK378.out 2
      have hfz36_3 := blk_frozen BK378.out 3
      go_upto_region 15 with (first | ((with_reducible refine gate_callee (f := 9) rfl ?_); refine goesL_ (some 59) rfl rfl Try.func9 (by kernel_rfl) rfl #[.agg #[.int .i64 a0_0, .int .i64 a0_1, .int .u64 a0_2, .int .u16 a0_3]] rfl (by (try simp only [List.map_toArray, List.map_cons, List.map_nil]); first | done | rfl | (simp only [List.length_drop, List.length_take]; first | rfl | (rw [Nat.min_eq_left (Int.toNat_le.2 (of_decide_eq_true (by assumption)))]; rfl))) ?_; (with_reducible refine (frame_Write.calls kj10 a0_0 a0_1 a0_2 a0_3 t392 t395 _ A31.out).mono ?_); rintro e w37 ⟨v393, rfl, ho0, hb⟩; refine ⟨_, rfl, ?_⟩; have n0_ := Aside0.mk (Kd.R_lower ho0 (below_size (by repeat (first | (with_reducible first | exact HB.out | apply below_alloc | apply pw_below_drewN | apply below_drew1 | refine below_set ?_ GE378.out | refine below_set ?_ GE385.out) | exact HB.out)))); have n1_ := Aside0.mk (blk_below (g := gb378) (o := .cells #[.int .i64 a0_0, .int .i64 a0_1, .int .u64 a0_2, .int .u16 a0_3] 25 (0, 0)) (by (with_reducible repeat (first | refine blk_drewN ?_ _ | refine blk_drew ?_ | refine blk_alloc ?_ _)); exact BK378.out) hb); have n2_ := Aside0.mk (blk_below (g := gb385) (o := .cells #[.int .i64 t380, .int .i64 t381, .int .u64 t382, .int .u16 t383] 25 (0, 0)) (by (with_reducible repeat (first | refine blk_drewN ?_ _ | refine blk_drew ?_ | refine blk_alloc ?_ _)); exact BK385.out) hb); have n3_ := Aside0.mk (below_step (by repeat (first | (with_reducible first | exact HB.out | apply below_alloc | apply pw_below_drewN | apply below_drew1 | refine below_set ?_ GE378.out | refine below_set ?_ GE385.out) | exact HB.out)) hb); clear BK378; clear BK385; clear HB; have HO394 := n0_; have BK378 := n1_; have BK385 := n2_; have HB := n3_; clear n0_ n1_ n2_ n3_; (try clear hb); (try clear hb2); (try clear hk); (try clear hi); (try clear ho0); obtain ⟨Ao38, co38, eo38⟩ := Kd.R_slice HO394.out; subst eo38) | ((with_reducible refine gate_callee (f := 21) rfl ?_); refine goesL_ (some 73) rfl rfl Try.func21 (by kernel_rfl) rfl #[.slice Ao38 t392.length co38] rfl (by (try simp only [List.map_toArray, List.map_cons, List.map_nil]); first | done | rfl | (simp only [List.length_drop, List.length_take]; first | rfl | (rw [Nat.min_eq_left (Int.toNat_le.2 (of_decide_eq_true (by assumption)))]; rfl))) ?_; (with_reducible refine (frame_Read.calls kj10 _ _ t392 t397 t398 t399 t400 t401 _ ?side1 ?side2 A33.out).mono ?_); (case side1 => repeat (first | exact (Kd.R_reads' HO394.out).2.2 | (with_reducible refine Kd.C_alloc ?_ _) | (with_reducible refine Kd.C_drewN ?_ _) | (with_reducible refine Kd.C_drew ?_))); (case side2 => exact (Kd.R_reads' HO394.out).2.1); rintro e w39 ⟨rfl, hb⟩; refine ⟨_, rfl, ?_⟩; have n0_ := Aside0.mk (Kd.R_below (by (with_reducible repeat (first | apply Kd.R_alloc | apply Kd.R_drewN | apply Kd.R_drew)); exact HO394.out) hb); have n1_ := Aside0.mk (blk_below (g := gb378) (o := .cells #[.int .i64 a0_0, .int .i64 a0_1, .int .u64 a0_2, .int .u16 a0_3] 25 (0, 0)) (by (with_reducible repeat (first | refine blk_drewN ?_ _ | refine blk_drew ?_ | refine blk_alloc ?_ _)); exact BK378.out) hb); have n2_ := Aside0.mk (blk_below (g := gb385) (o := .cells #[.int .i64 t380, .int .i64 t381, .int .u64 t382, .int .u16 t383] 25 (0, 0)) (by (with_reducible repeat (first | refine blk_drewN ?_ _ | refine blk_drew ?_ | refine blk_alloc ?_ _)); exact BK385.out) hb); have n3_ := Aside0.mk (below_step (by repeat (first | (with_reducible first | exact HB.out | apply below_alloc | apply pw_below_drewN | apply below_drew1 | refine below_set ?_ GE378.out | refine below_set ?_ GE385.out) | exact HB.out)) hb); clear HO394; clear BK378; clear BK385; clear HB; have HO394 := n0_; have BK378 := n1_; have BK385 := n2_; have HB := n3_; clear n0_ n1_ n2_ n3_; (try clear hb); (try clear hb2); (try clear hk); (try clear hi)) | ((with_reducible refine gate_dst (N := 16) rfl ?_); (try (refine gate_guard (by rfl) ?_; dsimp only)); refine box_event ?hg (N := 16) ?hd (cs := #[.int .i64 0, .int .i64 0, .int .u64 0, .int .u16 0]) (t := 25) ?hr ?_; (case hd => rfl); (case hg => rfl); (case hr => first | (go_simp; done) | (go_simp; rfl)); intro gb402 hg w40 hbox hb; have n0_ := Aside0.mk (Kd.R_below (by (with_reducible repeat (first | apply Kd.R_alloc | apply Kd.R_drewN | apply Kd.R_drew)); exact HO394.out) hb); have n1_ := Aside0.mk (blk_below (g := gb378) (o := .cells #[.int .i64 a0_0, .int .i64 a0_1, .int .u64 a0_2, .int .u16 a0_3] 25 (0, 0)) (by (with_reducible repeat (first | refine blk_drewN ?_ _ | refine blk_drew ?_ | refine blk_alloc ?_ _)); exact BK378.out) hb); have n2_ := Aside0.mk (blk_below (g := gb385) (o := .cells #[.int .i64 t380, .int .i64 t381, .int .u64 t382, .int .u16 t383] 25 (0, 0)) (by (with_reducible repeat (first | refine blk_drewN ?_ _ | refine blk_drew ?_ | refine blk_alloc ?_ _)); exact BK385.out) hb); have n3_ := Aside0.mk (below_step (by repeat (first | (with_reducible first | exact HB.out | apply below_alloc | apply pw_below_drewN | apply below_drew1 | refine below_set ?_ GE378.out | refine below_set ?_ GE385.out) | exact HB.out)) hb); have n4_ := Aside0.mk (hbox); have n5_ := Aside0.mk ((by rw [hg]; exact (below_size (by repeat (first | (with_reducible first | exact HB.out | apply below_alloc | apply pw_below_drewN | apply below_drew1 | refine below_set ?_ GE378.out | refine below_set ?_ GE385.out) | exact HB.out))) : w.heap.size ≤ gb402)); have n6_ := Aside0.mk ((by rw [hg]; exact (below_size (by repeat (first | (with_reducible first | exact HB.out | apply below_alloc | apply pw_below_drewN | apply below_drew1 | refine below_set ?_ GE378.out | refine below_set ?_ GE385.out) | exact HB.out))) : w.heap.size ≤ gb402)); have n7_ := Aside0.mk ((by rw [hg]; exact Nat.ne_of_lt (blk_lt (g := gb378) (o := .cells #[.int .i64 a0_0, .int .i64 a0_1, .int .u64 a0_2, .int .u16 a0_3] 25 (0, 0)) (by (with_reducible repeat (first | refine blk_drewN ?_ _ | refine blk_drew ?_ | refine blk_alloc ?_ _)); exact BK378.out)) : gb378 ≠ gb402)); have n8_ := Aside0.mk ((by rw [hg]; exact Nat.ne_of_gt (blk_lt (g := gb378) (o := .cells #[.int .i64 a0_0, .int .i64 a0_1, .int .u64 a0_2, .int .u16 a0_3] 25 (0, 0)) (by (with_reducible repeat (first | refine blk_drewN ?_ _ | refine blk_drew ?_ | refine blk_alloc ?_ _)); exact BK378.out)) : gb402 ≠ gb378)); have n9_ := Aside0.mk ((by rw [hg]; exact Nat.ne_of_lt (blk_lt (g := gb385) (o := .cells #[.int .i64 t380, .int .i64 t381, .int .u64 t382, .int .u16 t383] 25 (0, 0)) (by (with_reducible repeat (first | refine blk_drewN ?_ _ | refine blk_drew ?_ | refine blk_alloc ?_ _)); exact BK385.out)) : gb385 ≠ gb402)); have n10_ := Aside0.mk ((by rw [hg]; exact Nat.ne_of_gt (blk_lt (g := gb385) (o := .cells #[.int .i64 t380, .int .i64 t381, .int .u64 t382, .int .u16 t383] 25 (0, 0)) (by (with_reducible repeat (first | refine blk_drewN ?_ _ | refine blk_drew ?_ | refine blk_alloc ?_ _)); exact BK385.out)) : gb402 ≠ gb385)); clear HO394; clear BK378; clear BK385; clear HB; have HO394 := n0_; have BK378 := n1_; have BK385 := n2_; have HB := n3_; have BK402 := n4_; have GW402 := n5_; have GE402 := n6_; have NB378_402 := n7_; have NB402_378 := n8_; have NB385_402 := n9_; have NB402_385 := n10_; clear n0_ n1_ n2_ n3_ n4_ n5_ n6_ n7_ n8_ n9_ n10_; clear hb hbox hg; have hnb41 := NB402_378.out; have hnc41 := NB378_402.out; have hnb42 := NB402_385.out; have hnc42 := NB385_402.out; have hcz43_0 : w40.cell? ⟨gb402, 0, none⟩ = some (.int .i64 0) := (blk_cell BK402.out 0).trans rfl; have hcz43_1 : w40.cell? ⟨gb402, 1, none⟩ = some (.int .i64 0) := (blk_cell BK402.out 1).trans rfl; have hcz43_2 : w40.cell? ⟨gb402, 2, none⟩ = some (.int .u64 0) := (blk_cell BK402.out 2).trans rfl; have hcz43_3 : w40.cell? ⟨gb402, 3, none⟩ = some (.int .u16 0) := (blk_cell BK402.out 3).trans rfl; have hfz43_0 := blk_frozen BK402.out 0; have hfz43_1 := blk_frozen BK402.out 1; have hfz43_2 := blk_frozen BK402.out 2; have hfz43_3 := blk_frozen BK402.out 3))
      (try simp only [Act.put, List.setIfInBounds_toArray, List.set_cons_zero, List.set_cons_succ])
      go_cut [87] (fun v87 wc => ∃ (kq : Nat) (x87_33 : Bool), v87 = .bool x87_33 ∧ Aside0 (palletlaw08_FrameBack.j1 kq a2 a3 true t392 x87_33 = some r) ∧ Aside0 (kq ≤ kj10) ∧ Aside0 (Kd.R (Kd.int .u8) 5 wc w.heap.size (fun _ => True) (.slice Ao38 t392.length co38) t392) ∧ Aside0 (wc.heap[gb378]? = some (.cells #[.int .i64 a0_0, .int .i64 a0_1, .int .u64 a0_2, .int .u16 a0_3] 25 (0, 0))) ∧ Aside0 (wc.heap[gb385]? = some (.cells #[.int .i64 t380, .int .i64 t381, .int .u64 t382, .int .u16 t383] 25 (0, 0))) ∧ Aside0 (wc.heap[gb402]? = some (.cells #[.int .i64 t397, .int .i64 t398, .int .u64 t399, .int .u16 t400] 25 (0, 0))) ∧ Aside0 (Below w.heap.size w wc))
      case first =>
       have H := HC34.out
       clear HC34
       by_cases c44 : (!(t397 == a0_0) || (!(t398 == a0_1) || (!(t399 == a0_2) || (!(t400 == a0_3))))) = true
       ·rw [if_pos c44] at H
        have c44b0 : (!(t397 == a0_0) || (!(t398 == a0_1) || (!(t399 == a0_2) || (!(t400 == a0_3))))) = true := c44
        clear c44
        (first | rw [c44b0] | (simp only [i64_w, i32_w]; rw [c44b0]) | skip)
        have H' := Aside0.mk H
        clear H
        have hnb45 := NB402_378.out
        have hnc45 := NB378_402.out
        have hnb46 := NB402_385.out
        have hnc46 := NB385_402.out
        have hcz47_0 : w40.cell? ⟨gb402, 0, none⟩ = some (.int .i64 0) := (blk_cell BK402.out 0).trans rfl
        have hcz47_1 : w40.cell? ⟨gb402, 1, none⟩ = some (.int .i64 0) := (blk_cell BK402.out 1).trans rfl
        have hcz47_2 : w40.cell? ⟨gb402, 2, none⟩ = some (.int .u64 0) := (blk_cell BK402.out 2).trans rfl
        have hcz47_3 : w40.cell? ⟨gb402, 3, none⟩ = some (.int .u16 0) := (blk_cell BK402.out 3).trans rfl
        have hfz47_0 := blk_frozen BK402.out 0
        have hfz47_1 := blk_frozen BK402.out 1
        have hfz47_2 := blk_frozen BK402.out 2
        have hfz47_3 := blk_frozen BK402.out 3
        have hnb48 := NB378_385.out
        have hnc48 := NB385_378.out
        have hcz49_0 : w40.cell? ⟨gb378, 0, none⟩ = some (.int .i64 a0_0) := (blk_cell BK378.out 0).trans rfl
        have hcz49_1 : w40.cell? ⟨gb378, 1, none⟩ = some (.int .i64 a0_1) := (blk_cell BK378.out 1).trans rfl
        have hcz49_2 : w40.cell? ⟨gb378, 2, none⟩ = some (.int .u64 a0_2) := (blk_cell BK378.out 2).trans rfl
        have hcz49_3 : w40.cell? ⟨gb378, 3, none⟩ = some (.int .u16 a0_3) := (blk_cell BK378.out 3).trans rfl
        have hfz49_0 := blk_frozen BK378.out 0
        have hfz49_1 := blk_frozen BK378.out 1
        have hfz49_2 := blk_frozen BK378.out 2
        have hfz49_3 := blk_frozen BK378.out 3
        go_wp2
        go_meet
        case rel => exact ⟨_, (true), (by first | rfl | (simp; done) | (simp [*]; done)), H', ⟨by have := HJ10.out; first | omega | exact Nat.le_refl _⟩, ⟨by (with_reducible repeat (first | apply Kd.R_alloc | apply Kd.R_drewN | apply Kd.R_drew)); exact Kd.R_mono (Kd.R_far (p := ⟨gb402, 3, none⟩) (Kd.R_far (p := ⟨gb402, 2, none⟩) (Kd.R_far (p := ⟨gb402, 1, none⟩) (Kd.R_far (p := ⟨gb402, 0, none⟩) (Kd.R_types HO394.out BK402.out (by decide)) (fun _ hk => hk.2) (.int .i64 t397)) (fun _ hk => hk.2) (.int .i64 t398)) (fun _ hk => hk.2) (.int .u64 t399)) (fun _ hk => hk.2) (.int .u16 t400)) (fun _ hk => trivial)⟩, ⟨by (with_reducible repeat (first | refine blk_drewN ?_ _ | refine blk_drew ?_ | refine blk_alloc ?_ _)); refine blk_far ?_ NB378_402.out _; (with_reducible repeat (first | refine blk_drewN ?_ _ | refine blk_drew ?_ | refine blk_alloc ?_ _)); refine blk_far ?_ NB378_402.out _; (with_reducible repeat (first | refine blk_drewN ?_ _ | refine blk_drew ?_ | refine blk_alloc ?_ _)); refine blk_far ?_ NB378_402.out _; (with_reducible repeat (first | refine blk_drewN ?_ _ | refine blk_drew ?_ | refine blk_alloc ?_ _)); refine blk_far ?_ NB378_402.out _; (with_reducible repeat (first | refine blk_drewN ?_ _ | refine blk_drew ?_ | refine blk_alloc ?_ _)); exact BK378.out⟩, ⟨by (with_reducible repeat (first | refine blk_drewN ?_ _ | refine blk_drew ?_ | refine blk_alloc ?_ _)); refine blk_far ?_ NB385_402.out _; (with_reducible repeat (first | refine blk_drewN ?_ _ | refine blk_drew ?_ | refine blk_alloc ?_ _)); refine blk_far ?_ NB385_402.out _; (with_reducible repeat (first | refine blk_drewN ?_ _ | refine blk_drew ?_ | refine blk_alloc ?_ _)); refine blk_far ?_ NB385_402.out _; (with_reducible repeat (first | refine blk_drewN ?_ _ | refine blk_drew ?_ | refine blk_alloc ?_ _)); refine blk_far ?_ NB385_402.out _; (with_reducible repeat (first | refine blk_drewN ?_ _ | refine blk_drew ?_ | refine blk_alloc ?_ _)); exact BK385.out⟩, ⟨by (with_reducible repeat (first | refine blk_drewN ?_ _ | refine blk_drew ?_ | refine blk_alloc ?_ _)); refine blk_put (cs := #[.int .i64 t397, .int .i64 t398, .int .u64 t399, .int .u16 0]) ?_ 3 _ rfl; (with_reducible repeat (first | refine blk_drewN ?_ _ | refine blk_drew ?_ | refine blk_alloc ?_ _)); refine blk_put (cs := #[.int .i64 t397, .int .i64 t398, .int .u64 0, .int .u16 0]) ?_ 2 _ rfl; (with_reducible repeat (first | refine blk_drewN ?_ _ | refine blk_drew ?_ | refine blk_alloc ?_ _)); refine blk_put (cs := #[.int .i64 t397, .int .i64 0, .int .u64 0, .int .u16 0]) ?_ 1 _ rfl; (with_reducible repeat (first | refine blk_drewN ?_ _ | refine blk_drew ?_ | refine blk_alloc ?_ _)); refine blk_put (cs := #[.int .i64 0, .int .i64 0, .int .u64 0, .int .u16 0]) ?_ 0 _ rfl; (with_reducible repeat (first | refine blk_drewN ?_ _ | refine blk_drew ?_ | refine blk_alloc ?_ _)); exact BK402.out⟩, ⟨by repeat (first | (with_reducible first | exact HB.out | apply below_alloc | apply pw_below_drewN | apply below_drew1 | refine below_set ?_ GE378.out | refine below_set ?_ GE385.out | refine below_set ?_ GE402.out) | exact HB.out)⟩⟩
       ·rw [if_neg c44] at H
        have c44b0 : (!(t397 == a0_0) || (!(t398 == a0_1) || (!(t399 == a0_2) || (!(t400 == a0_3))))) = false := by simpa using c44
        clear c44
        (first | rw [c44b0] | (simp only [i64_w, i32_w]; rw [c44b0]) | skip)
        by_cases c50 : t401 = 0
        ·rw [if_pos c50] at H
         have c50b0 : (t401 == 0) = true := beq_iff_eq.mpr c50
         have c50b1 : (t401 != 0) = false := bne_eq_false_iff_eq.mpr c50
         clear c50
         have H' := Aside0.mk H
         clear H
         have hnb51 := NB402_378.out
         have hnc51 := NB378_402.out
         have hnb52 := NB402_385.out
         have hnc52 := NB385_402.out
         have hcz53_0 : w40.cell? ⟨gb402, 0, none⟩ = some (.int .i64 0) := (blk_cell BK402.out 0).trans rfl
         have hcz53_1 : w40.cell? ⟨gb402, 1, none⟩ = some (.int .i64 0) := (blk_cell BK402.out 1).trans rfl
         have hcz53_2 : w40.cell? ⟨gb402, 2, none⟩ = some (.int .u64 0) := (blk_cell BK402.out 2).trans rfl
         have hcz53_3 : w40.cell? ⟨gb402, 3, none⟩ = some (.int .u16 0) := (blk_cell BK402.out 3).trans rfl
         have hfz53_0 := blk_frozen BK402.out 0
         have hfz53_1 := blk_frozen BK402.out 1
         have hfz53_2 := blk_frozen BK402.out 2
         have hfz53_3 := blk_frozen BK402.out 3
         have hnb54 := NB378_385.out
         have hnc54 := NB385_378.out
         have hcz55_0 : w40.cell? ⟨gb378, 0, none⟩ = some (.int .i64 a0_0) := (blk_cell BK378.out 0).trans rfl
         have hcz55_1 : w40.cell? ⟨gb378, 1, none⟩ = some (.int .i64 a0_1) := (blk_cell BK378.out 1).trans rfl
         have hcz55_2 : w40.cell? ⟨gb378, 2, none⟩ = some (.int .u64 a0_2) := (blk_cell BK378.out 2).trans rfl
         have hcz55_3 : w40.cell? ⟨gb378, 3, none⟩ = some (.int .u16 a0_3) := (blk_cell BK378.out 3).trans rfl
         have hfz55_0 := blk_frozen BK378.out 0
         have hfz55_1 := blk_frozen BK378.out 1
         have hfz55_2 := blk_frozen BK378.out 2
         have hfz55_3 := blk_frozen BK378.out 3
         go_wp2
         go_meet
         case rel => exact ⟨_, (((t392.length : Int) == 0)), (by first | rfl | (simp; done) | (simp [*]; done)), H', ⟨by have := HJ10.out; first | omega | exact Nat.le_refl _⟩, ⟨by (with_reducible repeat (first | apply Kd.R_alloc | apply Kd.R_drewN | apply Kd.R_drew)); exact Kd.R_mono (Kd.R_far (p := ⟨gb402, 3, none⟩) (Kd.R_far (p := ⟨gb402, 2, none⟩) (Kd.R_far (p := ⟨gb402, 1, none⟩) (Kd.R_far (p := ⟨gb402, 0, none⟩) (Kd.R_types HO394.out BK402.out (by decide)) (fun _ hk => hk.2) (.int .i64 t397)) (fun _ hk => hk.2) (.int .i64 t398)) (fun _ hk => hk.2) (.int .u64 t399)) (fun _ hk => hk.2) (.int .u16 t400)) (fun _ hk => trivial)⟩, ⟨by (with_reducible repeat (first | refine blk_drewN ?_ _ | refine blk_drew ?_ | refine blk_alloc ?_ _)); refine blk_far ?_ NB378_402.out _; (with_reducible repeat (first | refine blk_drewN ?_ _ | refine blk_drew ?_ | refine blk_alloc ?_ _)); refine blk_far ?_ NB378_402.out _; (with_reducible repeat (first | refine blk_drewN ?_ _ | refine blk_drew ?_ | refine blk_alloc ?_ _)); refine blk_far ?_ NB378_402.out _; (with_reducible repeat (first | refine blk_drewN ?_ _ | refine blk_drew ?_ | refine blk_alloc ?_ _)); refine blk_far ?_ NB378_402.out _; (with_reducible repeat (first | refine blk_drewN ?_ _ | refine blk_drew ?_ | refine blk_alloc ?_ _)); exact BK378.out⟩, ⟨by (with_reducible repeat (first | refine blk_drewN ?_ _ | refine blk_drew ?_ | refine blk_alloc ?_ _)); refine blk_far ?_ NB385_402.out _; (with_reducible repeat (first | refine blk_drewN ?_ _ | refine blk_drew ?_ | refine blk_alloc ?_ _)); refine blk_far ?_ NB385_402.out _; (with_reducible repeat (first | refine blk_drewN ?_ _ | refine blk_drew ?_ | refine blk_alloc ?_ _)); refine blk_far ?_ NB385_402.out _; (with_reducible repeat (first | refine blk_drewN ?_ _ | refine blk_drew ?_ | refine blk_alloc ?_ _)); refine blk_far ?_ NB385_402.out _; (with_reducible repeat (first | refine blk_drewN ?_ _ | refine blk_drew ?_ | refine blk_alloc ?_ _)); exact BK385.out⟩, ⟨by (with_reducible repeat (first | refine blk_drewN ?_ _ | refine blk_drew ?_ | refine blk_alloc ?_ _)); refine blk_put (cs := #[.int .i64 t397, .int .i64 t398, .int .u64 t399, .int .u16 0]) ?_ 3 _ rfl; (with_reducible repeat (first | refine blk_drewN ?_ _ | refine blk_drew ?_ | refine blk_alloc ?_ _)); refine blk_put (cs := #[.int .i64 t397, .int .i64 t398, .int .u64 0, .int .u16 0]) ?_ 2 _ rfl; (with_reducible repeat (first | refine blk_drewN ?_ _ | refine blk_drew ?_ | refine blk_alloc ?_ _)); refine blk_put (cs := #[.int .i64 t397, .int .i64 0, .int .u64 0, .int .u16 0]) ?_ 1 _ rfl; (with_reducible repeat (first | refine blk_drewN ?_ _ | refine blk_drew ?_ | refine blk_alloc ?_ _)); refine blk_put (cs := #[.int .i64 0, .int .i64 0, .int .u64 0, .int .u16 0]) ?_ 0 _ rfl; (with_reducible repeat (first | refine blk_drewN ?_ _ | refine blk_drew ?_ | refine blk_alloc ?_ _)); exact BK402.out⟩, ⟨by repeat (first | (with_reducible first | exact HB.out | apply below_alloc | apply pw_below_drewN | apply below_drew1 | refine below_set ?_ GE378.out | refine below_set ?_ GE385.out | refine below_set ?_ GE402.out) | exact HB.out)⟩⟩
        ·rw [if_neg c50] at H
         have c50b0 : (t401 == 0) = false := beq_eq_false_iff_ne.mpr c50
         have c50b1 : (t401 != 0) = true := bne_iff_ne.mpr c50
         have H' := Aside0.mk H
         clear H
         have hnb56 := NB402_378.out
         have hnc56 := NB378_402.out
         have hnb57 := NB402_385.out
         have hnc57 := NB385_402.out
         have hcz58_0 : w40.cell? ⟨gb402, 0, none⟩ = some (.int .i64 0) := (blk_cell BK402.out 0).trans rfl
         have hcz58_1 : w40.cell? ⟨gb402, 1, none⟩ = some (.int .i64 0) := (blk_cell BK402.out 1).trans rfl
         have hcz58_2 : w40.cell? ⟨gb402, 2, none⟩ = some (.int .u64 0) := (blk_cell BK402.out 2).trans rfl
         have hcz58_3 : w40.cell? ⟨gb402, 3, none⟩ = some (.int .u16 0) := (blk_cell BK402.out 3).trans rfl
         have hfz58_0 := blk_frozen BK402.out 0
         have hfz58_1 := blk_frozen BK402.out 1
         have hfz58_2 := blk_frozen BK402.out 2
         have hfz58_3 := blk_frozen BK402.out 3
         have hnb59 := NB378_385.out
         have hnc59 := NB385_378.out
         have hcz60_0 : w40.cell? ⟨gb378, 0, none⟩ = some (.int .i64 a0_0) := (blk_cell BK378.out 0).trans rfl
         have hcz60_1 : w40.cell? ⟨gb378, 1, none⟩ = some (.int .i64 a0_1) := (blk_cell BK378.out 1).trans rfl
         have hcz60_2 : w40.cell? ⟨gb378, 2, none⟩ = some (.int .u64 a0_2) := (blk_cell BK378.out 2).trans rfl
         have hcz60_3 : w40.cell? ⟨gb378, 3, none⟩ = some (.int .u16 a0_3) := (blk_cell BK378.out 3).trans rfl
         have hfz60_0 := blk_frozen BK378.out 0
         have hfz60_1 := blk_frozen BK378.out 1
         have hfz60_2 := blk_frozen BK378.out 2
         have hfz60_3 := blk_frozen BK378.out 3
         go_wp2
         go_meet
         case rel => exact ⟨_, (true), (by first | rfl | (simp; done) | (simp [*]; done)), H', ⟨by have := HJ10.out; first | omega | exact Nat.le_refl _⟩, ⟨by (with_reducible repeat (first | apply Kd.R_alloc | apply Kd.R_drewN | apply Kd.R_drew)); exact Kd.R_mono (Kd.R_far (p := ⟨gb402, 3, none⟩) (Kd.R_far (p := ⟨gb402, 2, none⟩) (Kd.R_far (p := ⟨gb402, 1, none⟩) (Kd.R_far (p := ⟨gb402, 0, none⟩) (Kd.R_types HO394.out BK402.out (by decide)) (fun _ hk => hk.2) (.int .i64 t397)) (fun _ hk => hk.2) (.int .i64 t398)) (fun _ hk => hk.2) (.int .u64 t399)) (fun _ hk => hk.2) (.int .u16 t400)) (fun _ hk => trivial)⟩, ⟨by (with_reducible repeat (first | refine blk_drewN ?_ _ | refine blk_drew ?_ | refine blk_alloc ?_ _)); refine blk_far ?_ NB378_402.out _; (with_reducible repeat (first | refine blk_drewN ?_ _ | refine blk_drew ?_ | refine blk_alloc ?_ _)); refine blk_far ?_ NB378_402.out _; (with_reducible repeat (first | refine blk_drewN ?_ _ | refine blk_drew ?_ | refine blk_alloc ?_ _)); refine blk_far ?_ NB378_402.out _; (with_reducible repeat (first | refine blk_drewN ?_ _ | refine blk_drew ?_ | refine blk_alloc ?_ _)); refine blk_far ?_ NB378_402.out _; (with_reducible repeat (first | refine blk_drewN ?_ _ | refine blk_drew ?_ | refine blk_alloc ?_ _)); exact BK378.out⟩, ⟨by (with_reducible repeat (first | refine blk_drewN ?_ _ | refine blk_drew ?_ | refine blk_alloc ?_ _)); refine blk_far ?_ NB385_402.out _; (with_reducible repeat (first | refine blk_drewN ?_ _ | refine blk_drew ?_ | refine blk_alloc ?_ _)); refine blk_far ?_ NB385_402.out _; (with_reducible repeat (first | refine blk_drewN ?_ _ | refine blk_drew ?_ | refine blk_alloc ?_ _)); refine blk_far ?_ NB385_402.out _; (with_reducible repeat (first | refine blk_drewN ?_ _ | refine blk_drew ?_ | refine blk_alloc ?_ _)); refine blk_far ?_ NB385_402.out _; (with_reducible repeat (first | refine blk_drewN ?_ _ | refine blk_drew ?_ | refine blk_alloc ?_ _)); exact BK385.out⟩, ⟨by (with_reducible repeat (first | refine blk_drewN ?_ _ | refine blk_drew ?_ | refine blk_alloc ?_ _)); refine blk_put (cs := #[.int .i64 t397, .int .i64 t398, .int .u64 t399, .int .u16 0]) ?_ 3 _ rfl; (with_reducible repeat (first | refine blk_drewN ?_ _ | refine blk_drew ?_ | refine blk_alloc ?_ _)); refine blk_put (cs := #[.int .i64 t397, .int .i64 t398, .int .u64 0, .int .u16 0]) ?_ 2 _ rfl; (with_reducible repeat (first | refine blk_drewN ?_ _ | refine blk_drew ?_ | refine blk_alloc ?_ _)); refine blk_put (cs := #[.int .i64 t397, .int .i64 0, .int .u64 0, .int .u16 0]) ?_ 1 _ rfl; (with_reducible repeat (first | refine blk_drewN ?_ _ | refine blk_drew ?_ | refine blk_alloc ?_ _)); refine blk_put (cs := #[.int .i64 0, .int .i64 0, .int .u64 0, .int .u16 0]) ?_ 0 _ rfl; (with_reducible repeat (first | refine blk_drewN ?_ _ | refine blk_drew ?_ | refine blk_alloc ?_ _)); exact BK402.out⟩, ⟨by repeat (first | (with_reducible first | exact HB.out | apply below_alloc | apply pw_below_drewN | apply below_drew1 | refine below_set ?_ GE378.out | refine below_set ?_ GE385.out | refine below_set ?_ GE402.out) | exact HB.out)⟩⟩
      case rest =>
       clear HC34
       try clear c1
       try clear c2
       try clear p2
       try clear c3
       try clear c4
       try clear c5
       try clear c6
       try clear c7
       try clear c7b0
       try clear c7b1
       try clear c8
       try clear c9
       try clear c16
       try clear c18
       try clear c18b0
       try clear c18b1
       try clear c20
       try clear c20b0
       try clear c20b1
       try clear c21
       try clear c22
       try clear c24
       try clear c24b0
       try clear c24b1
       try clear c25
       try clear c32
       try clear c32b0
       try clear c32b1
       try clear c35
       try clear c41
       try clear c42
       try clear c44
       try clear c44b0
       try clear c45
       try clear c46
       try clear c48
       try clear c50
       try clear c50b0
       try clear c50b1
       try clear c51
       try clear c52
       try clear c54
       try clear c56
       try clear c57
       try clear c59
       try clear hcz17_0
       try clear hcz17_1
       try clear hcz17_2
       try clear hcz17_3
       try clear hcz26_0
       try clear hcz26_1
       try clear hcz26_2
       try clear hcz26_3
       try clear hcz29_0
       try clear hcz29_1
       try clear hcz29_2
       try clear hcz29_3
       try clear hcz36_0
       try clear hcz36_1
       try clear hcz36_2
       try clear hcz36_3
       try clear hcz43_0
       try clear hcz43_1
       try clear hcz43_2
       try clear hcz43_3
       try clear hcz47_0
       try clear hcz47_1
       try clear hcz47_2
       try clear hcz47_3
       try clear hcz49_0
       try clear hcz49_1
       try clear hcz49_2
       try clear hcz49_3
       try clear hcz53_0
       try clear hcz53_1
       try clear hcz53_2
       try clear hcz53_3
       try clear hcz55_0
       try clear hcz55_1
       try clear hcz55_2
       try clear hcz55_3
       try clear hcz58_0
       try clear hcz58_1
       try clear hcz58_2
       try clear hcz58_3
       try clear hcz60_0
       try clear hcz60_1
       try clear hcz60_2
       try clear hcz60_3
       try clear hfz17_0
       try clear hfz17_1
       try clear hfz17_2
       try clear hfz17_3
       try clear hfz26_0
       try clear hfz26_1
       try clear hfz26_2
       try clear hfz26_3
       try clear hfz29_0
       try clear hfz29_1
       try clear hfz29_2
       try clear hfz29_3
       try clear hfz36_0
       try clear hfz36_1
       try clear hfz36_2
       try clear hfz36_3
       try clear hfz43_0
       try clear hfz43_1
       try clear hfz43_2
       try clear hfz43_3
       try clear hfz47_0
       try clear hfz47_1
       try clear hfz47_2
       try clear hfz47_3
       try clear hfz49_0
       try clear hfz49_1
       try clear hfz49_2
       try clear hfz49_3
       try clear hfz53_0
       try clear hfz53_1
       try clear hfz53_2
       try clear hfz53_3
       try clear hfz55_0
       try clear hfz55_1
       try clear hfz55_2
       try clear hfz55_3
       try clear hfz58_0
       try clear hfz58_1
       try clear hfz58_2
       try clear hfz58_3
       try clear hfz60_0
       try clear hfz60_1
       try clear hfz60_2
       try clear hfz60_3
       try clear p2
       obtain ⟨kq, x87_33, rfl, HA, HJ33, HO_14, BK378, BK385, BK402, HB⟩ := hcut
       cases kq with
       | zero => exact absurd HA.out (by simp [palletlaw08_FrameBack.j1])
       | succ kj33 =>
        have H := HA.out
        clear HA
        simp only [palletlaw08_FrameBack.j1] at H
        by_cases c61 : x87_33 = true
        ·subst c61
         have H1 : (some false) = some r := by rw [if_pos rfl] at H; exact H
         clear H
         have H := H1
         clear H1
         obtain rfl := Option.some.inj H
         exact absurd hr_.out (by decide)
        ·replace c61 := Bool.eq_false_iff.mpr c61
         subst c61
         have H1 : (if (wrap64 (8 * (t392.length : Int))) = 0 then (none) else (palletlaw08_FrameBack.l0 kj33 (Int.tmod (wrap64 ((Int.tmod a2 (wrap64 (8 * (t392.length : Int)))) + (wrap64 (8 * (t392.length : Int))))) (wrap64 (8 * (t392.length : Int)))) a3 true t392 (wrap64 (8 * (t392.length : Int))) false 0)) = some r := by rw [if_neg (show ¬ (false = true) by decide)] at H; exact H
         clear H
         have H := H1
         clear H1
         by_cases c62 : (wrap64 (8 * (t392.length : Int))) = 0
         ·rw [if_pos c62] at H
          exact absurd H (by simp)
         ·rw [if_neg c62] at H
          have c62b0 : ((wrap64 (8 * (t392.length : Int))) == 0) = false := beq_eq_false_iff_ne.mpr c62
          have c62b1 : ((wrap64 (8 * (t392.length : Int))) != 0) = true := bne_iff_ne.mpr c62
          have H' := Aside0.mk H
          clear H
          go_wp2
          go_loopg [14, 19, 98] kj33 (fun kq v14 v19 v98 w' => ∃ (x14_3 : List Int) (x19_3 : Bool) (x98_3 : Int), v19 = .bool x19_3 ∧ v98 = .int .i64 x98_3 ∧ Aside0 (palletlaw08_FrameBack.l0 kq (Int.tmod (wrap64 ((Int.tmod a2 (wrap64 (8 * (t392.length : Int)))) + (wrap64 (8 * (t392.length : Int))))) (wrap64 (8 * (t392.length : Int)))) a3 true x14_3 (wrap64 (8 * (t392.length : Int))) x19_3 x98_3 = some r) ∧ Aside0 (kq ≤ kj33) ∧ Aside0 (Kd.R (Kd.int .u8) 5 w' w.heap.size (fun _ => True) v14 x14_3) ∧ Aside0 (w'.heap[gb378]? = some (.cells #[.int .i64 a0_0, .int .i64 a0_1, .int .u64 a0_2, .int .u16 a0_3] 25 (0, 0))) ∧ Aside0 (w'.heap[gb385]? = some (.cells #[.int .i64 t380, .int .i64 t381, .int .u64 t382, .int .u16 t383] 25 (0, 0))) ∧ Aside0 (w'.heap[gb402]? = some (.cells #[.int .i64 t397, .int .i64 t398, .int .u64 t399, .int .u16 t400] 25 (0, 0))) ∧ Aside0 (Below w.heap.size w w'))
          case atStart => exact ⟨(t392), (false), (0), (by first | rfl | (simp; done) | (simp [*]; done)), (by first | rfl | (simp; done) | (simp [*]; done)), H', ⟨Nat.le_refl _⟩, ⟨by (with_reducible repeat (first | apply Kd.R_alloc | apply Kd.R_drewN | apply Kd.R_drew)); exact HO_14.out⟩, ⟨by (with_reducible repeat (first | refine blk_drewN ?_ _ | refine blk_drew ?_ | refine blk_alloc ?_ _)); exact BK378.out⟩, ⟨by (with_reducible repeat (first | refine blk_drewN ?_ _ | refine blk_drew ?_ | refine blk_alloc ?_ _)); exact BK385.out⟩, ⟨by (with_reducible repeat (first | refine blk_drewN ?_ _ | refine blk_drew ?_ | refine blk_alloc ?_ _)); exact BK402.out⟩, ⟨by repeat (first | (with_reducible first | exact HB.out | apply below_alloc | apply pw_below_drewN | apply below_drew1 | refine below_set ?_ GE378.out | refine below_set ?_ GE385.out | refine below_set ?_ GE402.out) | exact HB.out)⟩⟩
          case round =>
           clear H'
           try clear c1
           try clear c2
           try clear p2
           try clear c3
           try clear c4
           try clear c5
           try clear c6
           try clear p6
           try clear c7
           try clear c7b0
           try clear c7b1
           try clear c8
           try clear c9
           try clear c16
           try clear c18
           try clear c18b0
           try clear c18b1
           try clear c20
           try clear c20b0
           try clear c20b1
           try clear c21
           try clear c22
           try clear c24
           try clear c24b0
           try clear c24b1
           try clear c25
           try clear c32
           try clear c32b0
           try clear c32b1
           try clear c35
           try clear c41
           try clear c42
           try clear c44
           try clear c44b0
           try clear c45
           try clear c46
           try clear c48
           try clear c50
           try clear c50b0
           try clear c50b1
           try clear c51
           try clear c52
           try clear c54
           try clear c56
           try clear c57
           try clear c59
           try clear c61
           try clear c62
           try clear c62b0
           try clear c62b1
           try clear hcz17_0
           try clear hcz17_1
           try clear hcz17_2
           try clear hcz17_3
           try clear hcz26_0
           try clear hcz26_1
           try clear hcz26_2
           try clear hcz26_3
           try clear hcz29_0
           try clear hcz29_1
           try clear hcz29_2
           try clear hcz29_3
           try clear hcz36_0
           try clear hcz36_1
           try clear hcz36_2
           try clear hcz36_3
           try clear hcz43_0
           try clear hcz43_1
           try clear hcz43_2
           try clear hcz43_3
           try clear hcz47_0
           try clear hcz47_1
           try clear hcz47_2
           try clear hcz47_3
           try clear hcz49_0
           try clear hcz49_1
           try clear hcz49_2
           try clear hcz49_3
           try clear hcz53_0
           try clear hcz53_1
           try clear hcz53_2
           try clear hcz53_3
           try clear hcz55_0
           try clear hcz55_1
           try clear hcz55_2
           try clear hcz55_3
           try clear hcz58_0
           try clear hcz58_1
           try clear hcz58_2
           try clear hcz58_3
           try clear hcz60_0
           try clear hcz60_1
           try clear hcz60_2
           try clear hcz60_3
           try clear hfz17_0
           try clear hfz17_1
           try clear hfz17_2
           try clear hfz17_3
           try clear hfz26_0
           try clear hfz26_1
           try clear hfz26_2
           try clear hfz26_3
           try clear hfz29_0
           try clear hfz29_1
           try clear hfz29_2
           try clear hfz29_3
           try clear hfz36_0
           try clear hfz36_1
           try clear hfz36_2
           try clear hfz36_3
           try clear hfz43_0
           try clear hfz43_1
           try clear hfz43_2
           try clear hfz43_3
           try clear hfz47_0
           try clear hfz47_1
           try clear hfz47_2
           try clear hfz47_3
           try clear hfz49_0
           try clear hfz49_1
           try clear hfz49_2
           try clear hfz49_3
           try clear hfz53_0
           try clear hfz53_1
           try clear hfz53_2
           try clear hfz53_3
           try clear hfz55_0
           try clear hfz55_1
           try clear hfz55_2
           try clear hfz55_3
           try clear hfz58_0
           try clear hfz58_1
           try clear hfz58_2
           try clear hfz58_3
           try clear hfz60_0
           try clear hfz60_1
           try clear hfz60_2
           try clear hfz60_3
           try clear p2
           obtain ⟨x14_3, x19_3, x98_3, rfl, rfl, HA, HK3, HO_14, BK378, BK385, BK402, HB⟩ := hrel
           cases gk with
           | zero => exact absurd HA.out (by simp [palletlaw08_FrameBack.l0])
           | succ k3 =>
            have H := HA.out
            clear HA
            simp only [palletlaw08_FrameBack.l0] at H
            by_cases c63 : x98_3 < 24
            ·rw [if_pos c63] at H
             have c63b0 : decide (x98_3 < 24) = true := decide_eq_true c63
             clear c63
             have HC64 := Aside0.mk H
             clear H
             go_upto_region 23 with (fail)
             go_cut [112] (fun v112 wc => ∃ (kq : Nat) (x112_63 : Bool), v112 = .bool x112_63 ∧ Aside0 (palletlaw08_FrameBack.j3 kq (Int.tmod (wrap64 ((Int.tmod a2 (wrap64 (8 * (t392.length : Int)))) + (wrap64 (8 * (t392.length : Int))))) (wrap64 (8 * (t392.length : Int)))) a3 true x14_3 (wrap64 (8 * (t392.length : Int))) x19_3 x98_3 x98_3 x112_63 = some r) ∧ Aside0 (kq ≤ k3) ∧ Aside0 (Kd.R (Kd.int .u8) 5 wc w.heap.size (fun _ => True) u14 x14_3) ∧ Aside0 (wc.heap[gb378]? = some (.cells #[.int .i64 a0_0, .int .i64 a0_1, .int .u64 a0_2, .int .u16 a0_3] 25 (0, 0))) ∧ Aside0 (wc.heap[gb385]? = some (.cells #[.int .i64 t380, .int .i64 t381, .int .u64 t382, .int .u16 t383] 25 (0, 0))) ∧ Aside0 (wc.heap[gb402]? = some (.cells #[.int .i64 t397, .int .i64 t398, .int .u64 t399, .int .u16 t400] 25 (0, 0))) ∧ Aside0 (Below w.heap.size w wc))
             case first =>
              have H := HC64.out
              clear HC64
              by_cases c65 : 0 ≤ x98_3
              ·rw [if_pos c65] at H
               have c65b0 := eq_true c65
               have c65b1 : decide (0 ≤ x98_3) = true := decide_eq_true c65
               clear c65
               obtain ⟨ji66, hji66⟩ : ∃ j_ : Int, (shr .u32 a3 x98_3) = j_ := ⟨_, rfl⟩
               replace H : (if (Go.bits .and .u32 (ji66) 1) = 1 then (palletlaw08_FrameBack.j3 k3 (Int.tmod (wrap64 ((Int.tmod a2 (wrap64 (8 * (t392.length : Int)))) + (wrap64 (8 * (t392.length : Int))))) (wrap64 (8 * (t392.length : Int)))) a3 true x14_3 (wrap64 (8 * (t392.length : Int))) x19_3 x98_3 x98_3 (decide ((wrap64 ((Int.tmod (wrap64 ((Int.tmod a2 (wrap64 (8 * (t392.length : Int)))) + (wrap64 (8 * (t392.length : Int))))) (wrap64 (8 * (t392.length : Int)))) + x98_3)) < (wrap64 (8 * (t392.length : Int)))))) else (palletlaw08_FrameBack.j3 k3 (Int.tmod (wrap64 ((Int.tmod a2 (wrap64 (8 * (t392.length : Int)))) + (wrap64 (8 * (t392.length : Int))))) (wrap64 (8 * (t392.length : Int)))) a3 true x14_3 (wrap64 (8 * (t392.length : Int))) x19_3 x98_3 x98_3 false)) = some r := by first | (rw [hji66] at H; exact H) | (simp only [hji66] at H ⊢; exact H)
               have hji66_ : (a3 / 2 ^ min x98_3.toNat 32) = ji66 := hji66
               have hji66z : x98_3 ≤ 32 → (a3 / 2 ^ x98_3.toNat) = ji66 := shr_small hji66
               by_cases c67 : (Go.bits .and .u32 (ji66) 1) = 1
               ·rw [if_pos c67] at H
                have c67b0 : ((Go.bits .and .u32 (ji66) 1) == 1) = true := beq_iff_eq.mpr c67
                have c67b1 : ((Go.bits .and .u32 (ji66) 1) != 1) = false := bne_eq_false_iff_eq.mpr c67
                clear c67
                (first | rw [c67b0] | (simp only [i64_w, i32_w]; rw [c67b0]) | skip)
                have H' := Aside0.mk H
                clear H
                go_wp2
                go_meet
                case rel => exact ⟨_, (decide ((wrap64 ((Int.tmod (wrap64 ((Int.tmod a2 (wrap64 (8 * (t392.length : Int)))) + (wrap64 (8 * (t392.length : Int))))) (wrap64 (8 * (t392.length : Int)))) + x98_3)) < (wrap64 (8 * (t392.length : Int))))), (by first | rfl | (simp; done) | (simp [*]; done)), H', ⟨by have := HJ10.out; have := HJ33.out; have := HK3.out; first | omega | exact Nat.le_refl _⟩, ⟨by (with_reducible repeat (first | apply Kd.R_alloc | apply Kd.R_drewN | apply Kd.R_drew)); exact HO_14.out⟩, ⟨by (with_reducible repeat (first | refine blk_drewN ?_ _ | refine blk_drew ?_ | refine blk_alloc ?_ _)); exact BK378.out⟩, ⟨by (with_reducible repeat (first | refine blk_drewN ?_ _ | refine blk_drew ?_ | refine blk_alloc ?_ _)); exact BK385.out⟩, ⟨by (with_reducible repeat (first | refine blk_drewN ?_ _ | refine blk_drew ?_ | refine blk_alloc ?_ _)); exact BK402.out⟩, ⟨by repeat (first | (with_reducible first | exact HB.out | apply below_alloc | apply pw_below_drewN | apply below_drew1 | refine below_set ?_ GE378.out | refine below_set ?_ GE385.out | refine below_set ?_ GE402.out) | exact HB.out)⟩⟩
               ·rw [if_neg c67] at H
                have c67b0 : ((Go.bits .and .u32 (ji66) 1) == 1) = false := beq_eq_false_iff_ne.mpr c67
                have c67b1 : ((Go.bits .and .u32 (ji66) 1) != 1) = true := bne_iff_ne.mpr c67
                (first | rw [c67b0] | (simp only [i64_w, i32_w]; rw [c67b0]) | skip)
                have H' := Aside0.mk H
                clear H
                go_wp2
                go_meet
                case rel => exact ⟨_, (false), (by first | rfl | (simp; done) | (simp [*]; done)), H', ⟨by have := HJ10.out; have := HJ33.out; have := HK3.out; first | omega | exact Nat.le_refl _⟩, ⟨by (with_reducible repeat (first | apply Kd.R_alloc | apply Kd.R_drewN | apply Kd.R_drew)); exact HO_14.out⟩, ⟨by (with_reducible repeat (first | refine blk_drewN ?_ _ | refine blk_drew ?_ | refine blk_alloc ?_ _)); exact BK378.out⟩, ⟨by (with_reducible repeat (first | refine blk_drewN ?_ _ | refine blk_drew ?_ | refine blk_alloc ?_ _)); exact BK385.out⟩, ⟨by (with_reducible repeat (first | refine blk_drewN ?_ _ | refine blk_drew ?_ | refine blk_alloc ?_ _)); exact BK402.out⟩, ⟨by repeat (first | (with_reducible first | exact HB.out | apply below_alloc | apply pw_below_drewN | apply below_drew1 | refine below_set ?_ GE378.out | refine below_set ?_ GE385.out | refine below_set ?_ GE402.out) | exact HB.out)⟩⟩
              ·rw [if_neg c65] at H
               exact absurd H (by simp)
             case rest =>
              clear HC64
              try clear c1
              try clear c2
              try clear p2
              try clear c3
              try clear c4
              try clear c5
              try clear c6
              try clear p6
              try clear c7
              try clear c7b0
              try clear c7b1
              try clear c8
              try clear c9
              try clear c16
              try clear c18
              try clear c18b0
              try clear c18b1
              try clear c20
              try clear c20b0
              try clear c20b1
              try clear c21
              try clear c22
              try clear c24
              try clear c24b0
              try clear c24b1
              try clear c25
              try clear c32
              try clear c32b0
              try clear c32b1
              try clear c35
              try clear c41
              try clear c42
              try clear c44
              try clear c44b0
              try clear c45
              try clear c46
              try clear c48
              try clear c50
              try clear c50b0
              try clear c50b1
              try clear c51
              try clear c52
              try clear c54
              try clear c56
              try clear c57
              try clear c59
              try clear c61
              try clear c62
              try clear c62b0
              try clear c62b1
              try clear c63
              try clear c63b0
              try clear p64
              try clear c65
              try clear c65b0
              try clear c65b1
              try clear c67
              try clear c67b0
              try clear c67b1
              try clear hcz17_0
              try clear hcz17_1
              try clear hcz17_2
              try clear hcz17_3
              try clear hcz26_0
              try clear hcz26_1
              try clear hcz26_2
              try clear hcz26_3
              try clear hcz29_0
              try clear hcz29_1
              try clear hcz29_2
              try clear hcz29_3
              try clear hcz36_0
              try clear hcz36_1
              try clear hcz36_2
              try clear hcz36_3
              try clear hcz43_0
              try clear hcz43_1
              try clear hcz43_2
              try clear hcz43_3
              try clear hcz47_0
              try clear hcz47_1
              try clear hcz47_2
              try clear hcz47_3
              try clear hcz49_0
              try clear hcz49_1
              try clear hcz49_2
              try clear hcz49_3
              try clear hcz53_0
              try clear hcz53_1
              try clear hcz53_2
              try clear hcz53_3
              try clear hcz55_0
              try clear hcz55_1
              try clear hcz55_2
              try clear hcz55_3
              try clear hcz58_0
              try clear hcz58_1
              try clear hcz58_2
              try clear hcz58_3
              try clear hcz60_0
              try clear hcz60_1
              try clear hcz60_2
              try clear hcz60_3
              try clear hfz17_0
              try clear hfz17_1
              try clear hfz17_2
              try clear hfz17_3
              try clear hfz26_0
              try clear hfz26_1
              try clear hfz26_2
              try clear hfz26_3
              try clear hfz29_0
              try clear hfz29_1
              try clear hfz29_2
              try clear hfz29_3
              try clear hfz36_0
              try clear hfz36_1
              try clear hfz36_2
              try clear hfz36_3
              try clear hfz43_0
              try clear hfz43_1
              try clear hfz43_2
              try clear hfz43_3
              try clear hfz47_0
              try clear hfz47_1
              try clear hfz47_2
              try clear hfz47_3
              try clear hfz49_0
              try clear hfz49_1
              try clear hfz49_2
              try clear hfz49_3
              try clear hfz53_0
              try clear hfz53_1
              try clear hfz53_2
              try clear hfz53_3
              try clear hfz55_0
              try clear hfz55_1
              try clear hfz55_2
              try clear hfz55_3
              try clear hfz58_0
              try clear hfz58_1
              try clear hfz58_2
              try clear hfz58_3
              try clear hfz60_0
              try clear hfz60_1
              try clear hfz60_2
              try clear hfz60_3
              try clear p2
              try clear p6
              obtain ⟨kq, x112_63, rfl, HA, HJ63, HO_14, BK378, BK385, BK402, HB⟩ := hcut
              cases kq with
              | zero => exact absurd HA.out (by simp [palletlaw08_FrameBack.j3])
              | succ kj63 =>
               have H := HA.out
               clear HA
               simp only [palletlaw08_FrameBack.j3] at H
               by_cases c68 : x112_63 = true
               ·subst c68
                have H1 : ((crc_Turn.f x14_3 (wrap64 ((Int.tmod (wrap64 ((Int.tmod a2 (wrap64 (8 * (t392.length : Int)))) + (wrap64 (8 * (t392.length : Int))))) (wrap64 (8 * (t392.length : Int)))) + x98_3))).bind fun bt409 => (if bt409.2 = 0 then (palletlaw08_FrameBack.l0 kj63 (Int.tmod (wrap64 ((Int.tmod a2 (wrap64 (8 * (t392.length : Int)))) + (wrap64 (8 * (t392.length : Int))))) (wrap64 (8 * (t392.length : Int)))) a3 true bt409.1 (wrap64 (8 * (t392.length : Int))) true (wrap64 (x98_3 + 1))) else (some false))) = some r := by rw [if_pos rfl] at H; exact H
                clear H
                have H := H1
                clear H1
                replace H := Option.bind_eq_some_iff.mp H
                obtain ⟨⟨t409, t410⟩, A690, H⟩ := H
                replace H : (if t410 = 0 then (palletlaw08_FrameBack.l0 kj63 (Int.tmod (wrap64 ((Int.tmod a2 (wrap64 (8 * (t392.length : Int)))) + (wrap64 (8 * (t392.length : Int))))) (wrap64 (8 * (t392.length : Int)))) a3 true t409 (wrap64 (8 * (t392.length : Int))) true (wrap64 (x98_3 + 1))) else (some false)) = some r := H
                have A69 := Aside0.mk A690
                clear A690
                by_cases c70 : t410 = 0
                ·rw [if_pos c70] at H
                 have c70b0 : (t410 == 0) = true := beq_iff_eq.mpr c70
                 have c70b1 : (t410 != 0) = false := bne_eq_false_iff_eq.mpr c70
                 clear c70
                 have H' := Aside0.mk H
                 clear H
                 obtain ⟨Ao71, co71, eo71⟩ := Kd.R_slice HO_14.out
                 subst eo71
                 go_wp2_with (first | ((with_reducible refine gate_callee (f := 26) rfl ?_); refine goesL_ (some 118) rfl rfl Try.func26 (by kernel_rfl) rfl #[.slice Ao71 x14_3.length co71, .int .i64 (wrap64 ((Int.tmod (wrap64 ((Int.tmod a2 (wrap64 (8 * (t392.length : Int)))) + (wrap64 (8 * (t392.length : Int))))) (wrap64 (8 * (t392.length : Int)))) + x98_3))] rfl (by (try simp only [List.map_toArray, List.map_cons, List.map_nil]); first | done | rfl | (simp only [List.length_drop, List.length_take]; first | rfl | (rw [Nat.min_eq_left (Int.toNat_le.2 (of_decide_eq_true (by assumption)))]; rfl))) ?_; (with_reducible refine (crc_Turn.calls _ _ x14_3 (wrap64 ((Int.tmod (wrap64 ((Int.tmod a2 (wrap64 (8 * (t392.length : Int)))) + (wrap64 (8 * (t392.length : Int))))) (wrap64 (8 * (t392.length : Int)))) + x98_3)) t409 t410 _ ?side1 ?side2 A69.out).mono ?_); (case side1 => repeat (first | exact (Kd.R_reads' HO_14.out).2.2 | (with_reducible refine Kd.C_alloc ?_ _) | (with_reducible refine Kd.C_drewN ?_ _) | (with_reducible refine Kd.C_drew ?_))); (case side2 => exact (Kd.R_reads' HO_14.out).2.1); rintro e w72 ⟨v411, rfl, ho0, hb⟩; refine ⟨_, rfl, ?_⟩; have n0_ := Aside0.mk (Kd.R_elder' (by (with_reducible repeat (first | apply Kd.R_alloc | apply Kd.R_drewN | apply Kd.R_drew)); exact HO_14.out) (Kd.R_base ho0) hb); have n1_ := Aside0.mk (Kd.R_lower (Kd.R_new' ho0 (Kd.R_lt (by (with_reducible repeat (first | apply Kd.R_alloc | apply Kd.R_drewN | apply Kd.R_drew)); exact HO_14.out))) (below_size (by repeat (first | (with_reducible first | exact HB.out | apply below_alloc | apply pw_below_drewN | apply below_drew1 | refine below_set ?_ GE378.out | refine below_set ?_ GE385.out | refine below_set ?_ GE402.out) | exact HB.out)))); have n2_ := Aside0.mk (blk_below (g := gb378) (o := .cells #[.int .i64 a0_0, .int .i64 a0_1, .int .u64 a0_2, .int .u16 a0_3] 25 (0, 0)) (by (with_reducible repeat (first | refine blk_drewN ?_ _ | refine blk_drew ?_ | refine blk_alloc ?_ _)); exact BK378.out) hb); have n3_ := Aside0.mk (blk_below (g := gb385) (o := .cells #[.int .i64 t380, .int .i64 t381, .int .u64 t382, .int .u16 t383] 25 (0, 0)) (by (with_reducible repeat (first | refine blk_drewN ?_ _ | refine blk_drew ?_ | refine blk_alloc ?_ _)); exact BK385.out) hb); have n4_ := Aside0.mk (blk_below (g := gb402) (o := .cells #[.int .i64 t397, .int .i64 t398, .int .u64 t399, .int .u16 t400] 25 (0, 0)) (by (with_reducible repeat (first | refine blk_drewN ?_ _ | refine blk_drew ?_ | refine blk_alloc ?_ _)); exact BK402.out) hb); have n5_ := Aside0.mk (below_step (by repeat (first | (with_reducible first | exact HB.out | apply below_alloc | apply pw_below_drewN | apply below_drew1 | refine below_set ?_ GE378.out | refine below_set ?_ GE385.out | refine below_set ?_ GE402.out) | exact HB.out)) hb); clear HO_14; clear BK378; clear BK385; clear BK402; clear HB; have HO_14 := n0_; have HO412 := n1_; have BK378 := n2_; have BK385 := n3_; have BK402 := n4_; have HB := n5_; clear n0_ n1_ n2_ n3_ n4_ n5_; (try clear hb); (try clear hb2); (try clear hk); (try clear hi); (try clear ho0)))
                 go_roundg kj63
                 case measure => have := HJ10.out; have := HJ33.out; have := HK3.out; have := HJ63.out; omega
                 case rel => exact ⟨(t409), (true), (wrap64 (x98_3 + 1)), (by first | rfl | (simp; done) | (simp [*]; done)), (by first | rfl | (simp; done) | (simp [*]; done)), H', ⟨by have := HJ10.out; have := HJ33.out; have := HK3.out; have := HJ63.out; omega⟩, ⟨by (with_reducible repeat (first | apply Kd.R_alloc | apply Kd.R_drewN | apply Kd.R_drew)); exact Kd.R_mono HO412.out (fun _ hk => trivial)⟩, ⟨by (with_reducible repeat (first | refine blk_drewN ?_ _ | refine blk_drew ?_ | refine blk_alloc ?_ _)); exact BK378.out⟩, ⟨by (with_reducible repeat (first | refine blk_drewN ?_ _ | refine blk_drew ?_ | refine blk_alloc ?_ _)); exact BK385.out⟩, ⟨by (with_reducible repeat (first | refine blk_drewN ?_ _ | refine blk_drew ?_ | refine blk_alloc ?_ _)); exact BK402.out⟩, ⟨by repeat (first | (with_reducible first | exact HB.out | apply below_alloc | apply pw_below_drewN | apply below_drew1 | refine below_set ?_ GE378.out | refine below_set ?_ GE385.out | refine below_set ?_ GE402.out) | exact HB.out)⟩⟩
                ·rw [if_neg c70] at H
                 have c70b0 : (t410 == 0) = false := beq_eq_false_iff_ne.mpr c70
                 have c70b1 : (t410 != 0) = true := bne_iff_ne.mpr c70
                 obtain rfl := Option.some.inj H
                 exact absurd hr_.out (by decide)
               ·replace c68 := Bool.eq_false_iff.mpr c68
                subst c68
                have H1 : (palletlaw08_FrameBack.l0 kj63 (Int.tmod (wrap64 ((Int.tmod a2 (wrap64 (8 * (t392.length : Int)))) + (wrap64 (8 * (t392.length : Int))))) (wrap64 (8 * (t392.length : Int)))) a3 true x14_3 (wrap64 (8 * (t392.length : Int))) x19_3 (wrap64 (x98_3 + 1))) = some r := by rw [if_neg (show ¬ (false = true) by decide)] at H; exact H
                clear H
                have H := H1
                clear H1
                have H' := Aside0.mk H
                clear H
                go_wp2
                go_roundg kj63
                case measure => have := HJ10.out; have := HJ33.out; have := HK3.out; have := HJ63.out; omega
                case rel => exact ⟨(x14_3), (x19_3), (wrap64 (x98_3 + 1)), (by first | rfl | (simp; done) | (simp [*]; done)), (by first | rfl | (simp; done) | (simp [*]; done)), H', ⟨by have := HJ10.out; have := HJ33.out; have := HK3.out; have := HJ63.out; omega⟩, ⟨by (with_reducible repeat (first | apply Kd.R_alloc | apply Kd.R_drewN | apply Kd.R_drew)); exact HO_14.out⟩, ⟨by (with_reducible repeat (first | refine blk_drewN ?_ _ | refine blk_drew ?_ | refine blk_alloc ?_ _)); exact BK378.out⟩, ⟨by (with_reducible repeat (first | refine blk_drewN ?_ _ | refine blk_drew ?_ | refine blk_alloc ?_ _)); exact BK385.out⟩, ⟨by (with_reducible repeat (first | refine blk_drewN ?_ _ | refine blk_drew ?_ | refine blk_alloc ?_ _)); exact BK402.out⟩, ⟨by repeat (first | (with_reducible first | exact HB.out | apply below_alloc | apply pw_below_drewN | apply below_drew1 | refine below_set ?_ GE378.out | refine below_set ?_ GE385.out | refine below_set ?_ GE402.out) | exact HB.out)⟩⟩
            ·rw [if_neg c63] at H
             have c63b0 : decide (x98_3 < 24) = false := decide_eq_false c63
             clear c63
             replace H := Option.bind_eq_some_iff.mp H
             obtain ⟨⟨t403, t404, t405, t406, t407⟩, A730, H⟩ := H
             replace H : (if true = true then (some ((t407 == 5) == x19_3)) else (some false)) = some r := H
             have A73 := Aside0.mk A730
             clear A730
             have H1 : (some ((t407 == 5) == x19_3)) = some r := by first | (rw [if_pos rfl] at H; exact H) | exact H
             clear H
             have H := H1
             clear H1
             obtain rfl := Option.some.inj H
             obtain ⟨Ao74, co74, eo74⟩ := Kd.R_slice HO_14.out
             subst eo74
             go_wp2_with (first | ((with_reducible refine gate_callee (f := 21) rfl ?_); refine goesL_ (some 127) rfl rfl Try.func21 (by kernel_rfl) rfl #[.slice Ao74 x14_3.length co74] rfl (by (try simp only [List.map_toArray, List.map_cons, List.map_nil]); first | done | rfl | (simp only [List.length_drop, List.length_take]; first | rfl | (rw [Nat.min_eq_left (Int.toNat_le.2 (of_decide_eq_true (by assumption)))]; rfl))) ?_; (with_reducible refine (frame_Read.calls k3 _ _ x14_3 t403 t404 t405 t406 t407 _ ?side1 ?side2 A73.out).mono ?_); (case side1 => repeat (first | exact (Kd.R_reads' HO_14.out).2.2 | (with_reducible refine Kd.C_alloc ?_ _) | (with_reducible refine Kd.C_drewN ?_ _) | (with_reducible refine Kd.C_drew ?_))); (case side2 => exact (Kd.R_reads' HO_14.out).2.1); rintro e w75 ⟨rfl, hb⟩; refine ⟨_, rfl, ?_⟩; have n0_ := Aside0.mk (Kd.R_below (by (with_reducible repeat (first | apply Kd.R_alloc | apply Kd.R_drewN | apply Kd.R_drew)); exact HO_14.out) hb); have n1_ := Aside0.mk (blk_below (g := gb378) (o := .cells #[.int .i64 a0_0, .int .i64 a0_1, .int .u64 a0_2, .int .u16 a0_3] 25 (0, 0)) (by (with_reducible repeat (first | refine blk_drewN ?_ _ | refine blk_drew ?_ | refine blk_alloc ?_ _)); exact BK378.out) hb); have n2_ := Aside0.mk (blk_below (g := gb385) (o := .cells #[.int .i64 t380, .int .i64 t381, .int .u64 t382, .int .u16 t383] 25 (0, 0)) (by (with_reducible repeat (first | refine blk_drewN ?_ _ | refine blk_drew ?_ | refine blk_alloc ?_ _)); exact BK385.out) hb); have n3_ := Aside0.mk (blk_below (g := gb402) (o := .cells #[.int .i64 t397, .int .i64 t398, .int .u64 t399, .int .u16 t400] 25 (0, 0)) (by (with_reducible repeat (first | refine blk_drewN ?_ _ | refine blk_drew ?_ | refine blk_alloc ?_ _)); exact BK402.out) hb); have n4_ := Aside0.mk (below_step (by repeat (first | (with_reducible first | exact HB.out | apply below_alloc | apply pw_below_drewN | apply below_drew1 | refine below_set ?_ GE378.out | refine below_set ?_ GE385.out | refine below_set ?_ GE402.out) | exact HB.out)) hb); clear HO_14; clear BK378; clear BK385; clear BK402; clear HB; have HO_14 := n0_; have BK378 := n1_; have BK385 := n2_; have BK402 := n3_; have HB := n4_; clear n0_ n1_ n2_ n3_ n4_; (try clear hb); (try clear hb2); (try clear hk); (try clear hi)) | ((with_reducible refine gate_dst (N := 23) rfl ?_); (try (refine gate_guard (by rfl) ?_; dsimp only)); refine box_event ?hg (N := 23) ?hd (cs := #[.int .i64 0, .int .i64 0, .int .u64 0, .int .u16 0]) (t := 25) ?hr ?_; (case hd => rfl); (case hg => rfl); (case hr => first | (go_simp; done) | (go_simp; rfl)); intro gb408 hg w76 hbox hb; have n0_ := Aside0.mk (Kd.R_below (by (with_reducible repeat (first | apply Kd.R_alloc | apply Kd.R_drewN | apply Kd.R_drew)); exact HO_14.out) hb); have n1_ := Aside0.mk (blk_below (g := gb378) (o := .cells #[.int .i64 a0_0, .int .i64 a0_1, .int .u64 a0_2, .int .u16 a0_3] 25 (0, 0)) (by (with_reducible repeat (first | refine blk_drewN ?_ _ | refine blk_drew ?_ | refine blk_alloc ?_ _)); exact BK378.out) hb); have n2_ := Aside0.mk (blk_below (g := gb385) (o := .cells #[.int .i64 t380, .int .i64 t381, .int .u64 t382, .int .u16 t383] 25 (0, 0)) (by (with_reducible repeat (first | refine blk_drewN ?_ _ | refine blk_drew ?_ | refine blk_alloc ?_ _)); exact BK385.out) hb); have n3_ := Aside0.mk (blk_below (g := gb402) (o := .cells #[.int .i64 t397, .int .i64 t398, .int .u64 t399, .int .u16 t400] 25 (0, 0)) (by (with_reducible repeat (first | refine blk_drewN ?_ _ | refine blk_drew ?_ | refine blk_alloc ?_ _)); exact BK402.out) hb); have n4_ := Aside0.mk (below_step (by repeat (first | (with_reducible first | exact HB.out | apply below_alloc | apply pw_below_drewN | apply below_drew1 | refine below_set ?_ GE378.out | refine below_set ?_ GE385.out | refine below_set ?_ GE402.out) | exact HB.out)) hb); have n5_ := Aside0.mk (hbox); have n6_ := Aside0.mk ((by rw [hg]; exact (below_size (by repeat (first | (with_reducible first | exact HB.out | apply below_alloc | apply pw_below_drewN | apply below_drew1 | refine below_set ?_ GE378.out | refine below_set ?_ GE385.out | refine below_set ?_ GE402.out) | exact HB.out))) : w.heap.size ≤ gb408)); have n7_ := Aside0.mk ((by rw [hg]; exact (below_size (by repeat (first | (with_reducible first | exact HB.out | apply below_alloc | apply pw_below_drewN | apply below_drew1 | refine below_set ?_ GE378.out | refine below_set ?_ GE385.out | refine below_set ?_ GE402.out) | exact HB.out))) : w.heap.size ≤ gb408)); have n8_ := Aside0.mk ((by rw [hg]; exact Nat.ne_of_lt (blk_lt (g := gb378) (o := .cells #[.int .i64 a0_0, .int .i64 a0_1, .int .u64 a0_2, .int .u16 a0_3] 25 (0, 0)) (by (with_reducible repeat (first | refine blk_drewN ?_ _ | refine blk_drew ?_ | refine blk_alloc ?_ _)); exact BK378.out)) : gb378 ≠ gb408)); have n9_ := Aside0.mk ((by rw [hg]; exact Nat.ne_of_gt (blk_lt (g := gb378) (o := .cells #[.int .i64 a0_0, .int .i64 a0_1, .int .u64 a0_2, .int .u16 a0_3] 25 (0, 0)) (by (with_reducible repeat (first | refine blk_drewN ?_ _ | refine blk_drew ?_ | refine blk_alloc ?_ _)); exact BK378.out)) : gb408 ≠ gb378)); have n10_ := Aside0.mk ((by rw [hg]; exact Nat.ne_of_lt (blk_lt (g := gb385) (o := .cells #[.int .i64 t380, .int .i64 t381, .int .u64 t382, .int .u16 t383] 25 (0, 0)) (by (with_reducible repeat (first | refine blk_drewN ?_ _ | refine blk_drew ?_ | refine blk_alloc ?_ _)); exact BK385.out)) : gb385 ≠ gb408)); have n11_ := Aside0.mk ((by rw [hg]; exact Nat.ne_of_gt (blk_lt (g := gb385) (o := .cells #[.int .i64 t380, .int .i64 t381, .int .u64 t382, .int .u16 t383] 25 (0, 0)) (by (with_reducible repeat (first | refine blk_drewN ?_ _ | refine blk_drew ?_ | refine blk_alloc ?_ _)); exact BK385.out)) : gb408 ≠ gb385)); have n12_ := Aside0.mk ((by rw [hg]; exact Nat.ne_of_lt (blk_lt (g := gb402) (o := .cells #[.int .i64 t397, .int .i64 t398, .int .u64 t399, .int .u16 t400] 25 (0, 0)) (by (with_reducible repeat (first | refine blk_drewN ?_ _ | refine blk_drew ?_ | refine blk_alloc ?_ _)); exact BK402.out)) : gb402 ≠ gb408)); have n13_ := Aside0.mk ((by rw [hg]; exact Nat.ne_of_gt (blk_lt (g := gb402) (o := .cells #[.int .i64 t397, .int .i64 t398, .int .u64 t399, .int .u16 t400] 25 (0, 0)) (by (with_reducible repeat (first | refine blk_drewN ?_ _ | refine blk_drew ?_ | refine blk_alloc ?_ _)); exact BK402.out)) : gb408 ≠ gb402)); clear HO_14; clear BK378; clear BK385; clear BK402; clear HB; have HO_14 := n0_; have BK378 := n1_; have BK385 := n2_; have BK402 := n3_; have HB := n4_; have BK408 := n5_; have GW408 := n6_; have GE408 := n7_; have NB378_408 := n8_; have NB408_378 := n9_; have NB385_408 := n10_; have NB408_385 := n11_; have NB402_408 := n12_; have NB408_402 := n13_; clear n0_ n1_ n2_ n3_ n4_ n5_ n6_ n7_ n8_ n9_ n10_ n11_ n12_ n13_; clear hb hbox hg; have hnb77 := NB408_378.out; have hnc77 := NB378_408.out; have hnb78 := NB408_385.out; have hnc78 := NB385_408.out; have hnb79 := NB408_402.out; have hnc79 := NB402_408.out; have hcz80_0 : w76.cell? ⟨gb408, 0, none⟩ = some (.int .i64 0) := (blk_cell BK408.out 0).trans rfl; have hcz80_1 : w76.cell? ⟨gb408, 1, none⟩ = some (.int .i64 0) := (blk_cell BK408.out 1).trans rfl; have hcz80_2 : w76.cell? ⟨gb408, 2, none⟩ = some (.int .u64 0) := (blk_cell BK408.out 2).trans rfl; have hcz80_3 : w76.cell? ⟨gb408, 3, none⟩ = some (.int .u16 0) := (blk_cell BK408.out 3).trans rfl; have hfz80_0 := blk_frozen BK408.out 0; have hfz80_1 := blk_frozen BK408.out 1; have hfz80_2 := blk_frozen BK408.out 2; have hfz80_3 := blk_frozen BK408.out 3))
             go_ret
             exact ⟨by first | rfl | (simp [errW_none, errW_some] <;> rfl) | (simp [*, errW_none, errW_some] <;> rfl), by repeat (first | (with_reducible first | exact HB.out | apply below_alloc | apply pw_below_drewN | apply below_drew1 | refine below_set ?_ GE378.out | refine below_set ?_ GE385.out | refine below_set ?_ GE402.out | refine below_set ?_ GE408.out) | exact HB.out)⟩
     ·rw [if_neg c32] at H
      have c32b0 : (t395 == 0) = false := beq_eq_false_iff_ne.mpr c32
      have c32b1 : (t395 != 0) = true := bne_iff_ne.mpr c32
      have H1 : ((frame_Check.f kj10 a0_0 a0_1 a0_2 a0_3).bind fun t396 => (some (t396 == t395))) = some r := by first | (rw [if_pos rfl] at H; exact H) | exact H
      clear H
      have H := H1
      clear H1
      replace H := Option.bind_eq_some_iff.mp H
      obtain ⟨t396, A810, H⟩ := H
      replace H : (some (t396 == t395)) = some r := H
      have A81 := Aside0.mk A810
      clear A810
      obtain rfl := Option.some.inj H
      have hnb82 := NB378_385.out
      have hnc82 := NB385_378.out
      have hcz83_0 : wc.cell? ⟨gb378, 0, none⟩ = some (.int .i64 a0_0) := (blk_cell BK378.out 0).trans rfl
      have hcz83_1 : wc.cell? ⟨gb378, 1, none⟩ = some (.int .i64 a0_1) := (blk_cell BK378.out 1).trans rfl
      have hcz83_2 : wc.cell? ⟨gb378, 2, none⟩ = some (.int .u64 a0_2) := (blk_cell BK378.out 2).trans rfl
      have hcz83_3 : wc.cell? ⟨gb378, 3, none⟩ = some (.int .u16 a0_3) := (blk_cell BK378.out 3).trans rfl
      have hfz83_0 := blk_frozen BK378.out 0
      have hfz83_1 := blk_frozen BK378.out 1
      have hfz83_2 := blk_frozen BK378.out 2
      have hfz83_3 := blk_frozen BK378.out 3
      go_wp2_with (first | ((with_reducible refine gate_callee (f := 9) rfl ?_); refine goesL_ (some 59) rfl rfl Try.func9 (by kernel_rfl) rfl #[.agg #[.int .i64 a0_0, .int .i64 a0_1, .int .u64 a0_2, .int .u16 a0_3]] rfl (by (try simp only [List.map_toArray, List.map_cons, List.map_nil]); first | done | rfl | (simp only [List.length_drop, List.length_take]; first | rfl | (rw [Nat.min_eq_left (Int.toNat_le.2 (of_decide_eq_true (by assumption)))]; rfl))) ?_; (with_reducible refine (frame_Write.calls kj10 a0_0 a0_1 a0_2 a0_3 t392 t395 _ A31.out).mono ?_); rintro e w84 ⟨v393, rfl, ho0, hb⟩; refine ⟨_, rfl, ?_⟩; have n0_ := Aside0.mk (Kd.R_lower ho0 (below_size (by repeat (first | (with_reducible first | exact HB.out | apply below_alloc | apply pw_below_drewN | apply below_drew1 | refine below_set ?_ GE378.out | refine below_set ?_ GE385.out) | exact HB.out)))); have n1_ := Aside0.mk (blk_below (g := gb378) (o := .cells #[.int .i64 a0_0, .int .i64 a0_1, .int .u64 a0_2, .int .u16 a0_3] 25 (0, 0)) (by (with_reducible repeat (first | refine blk_drewN ?_ _ | refine blk_drew ?_ | refine blk_alloc ?_ _)); exact BK378.out) hb); have n2_ := Aside0.mk (blk_below (g := gb385) (o := .cells #[.int .i64 t380, .int .i64 t381, .int .u64 t382, .int .u16 t383] 25 (0, 0)) (by (with_reducible repeat (first | refine blk_drewN ?_ _ | refine blk_drew ?_ | refine blk_alloc ?_ _)); exact BK385.out) hb); have n3_ := Aside0.mk (below_step (by repeat (first | (with_reducible first | exact HB.out | apply below_alloc | apply pw_below_drewN | apply below_drew1 | refine below_set ?_ GE378.out | refine below_set ?_ GE385.out) | exact HB.out)) hb); clear BK378; clear BK385; clear HB; have HO394 := n0_; have BK378 := n1_; have BK385 := n2_; have HB := n3_; clear n0_ n1_ n2_ n3_; (try clear hb); (try clear hb2); (try clear hk); (try clear hi); (try clear ho0); have hcz85_0 : w84.cell? ⟨gb378, 0, none⟩ = some (.int .i64 a0_0) := (blk_cell BK378.out 0).trans rfl; have hcz85_1 : w84.cell? ⟨gb378, 1, none⟩ = some (.int .i64 a0_1) := (blk_cell BK378.out 1).trans rfl; have hcz85_2 : w84.cell? ⟨gb378, 2, none⟩ = some (.int .u64 a0_2) := (blk_cell BK378.out 2).trans rfl; have hcz85_3 : w84.cell? ⟨gb378, 3, none⟩ = some (.int .u16 a0_3) := (blk_cell BK378.out 3).trans rfl; have hfz85_0 := blk_frozen BK378.out 0; have hfz85_1 := blk_frozen BK378.out 1; have hfz85_2 := blk_frozen BK378.out 2; have hfz85_3 := blk_frozen BK378.out 3) | (go_at_call 24; (with_reducible refine (frame_Check.calls kj10 a0_0 a0_1 a0_2 a0_3 t396 _ A81.out).mono ?_); rintro e w86 ⟨rfl, hb⟩; have n0_ := Aside0.mk (Kd.R_below (by (with_reducible repeat (first | apply Kd.R_alloc | apply Kd.R_drewN | apply Kd.R_drew)); exact HO394.out) hb); have n1_ := Aside0.mk (blk_below (g := gb378) (o := .cells #[.int .i64 a0_0, .int .i64 a0_1, .int .u64 a0_2, .int .u16 a0_3] 25 (0, 0)) (by (with_reducible repeat (first | refine blk_drewN ?_ _ | refine blk_drew ?_ | refine blk_alloc ?_ _)); exact BK378.out) hb); have n2_ := Aside0.mk (blk_below (g := gb385) (o := .cells #[.int .i64 t380, .int .i64 t381, .int .u64 t382, .int .u16 t383] 25 (0, 0)) (by (with_reducible repeat (first | refine blk_drewN ?_ _ | refine blk_drew ?_ | refine blk_alloc ?_ _)); exact BK385.out) hb); have n3_ := Aside0.mk (below_step (by repeat (first | (with_reducible first | exact HB.out | apply below_alloc | apply pw_below_drewN | apply below_drew1 | refine below_set ?_ GE378.out | refine below_set ?_ GE385.out) | exact HB.out)) hb); clear HO394; clear BK378; clear BK385; clear HB; have HO394 := n0_; have BK378 := n1_; have BK385 := n2_; have HB := n3_; clear n0_ n1_ n2_ n3_; (try clear hb); (try clear hb2); (try clear hk); (try clear hi)))
      go_ret
      exact ⟨by first | rfl | (simp [errW_none, errW_some] <;> rfl) | (simp [*, errW_none, errW_some] <;> rfl), by repeat (first | (with_reducible first | exact HB.out | apply below_alloc | apply pw_below_drewN | apply below_drew1 | refine below_set ?_ GE378.out | refine below_set ?_ GE385.out) | exact HB.out)⟩
 ·replace c6 := Bool.eq_false_iff.mpr c6
  subst c6
  have H1 : (some false) = some r := by rw [if_neg (show ¬ (false = true) by decide)] at H; exact H
  clear H
  have H := H1
  clear H1
  obtain rfl := Option.some.inj H
  exact absurd hr_.out (by decide)

end Go.Proofs.Ytogdelhofdelgaa.Print
