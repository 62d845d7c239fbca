-- PRINTED by print.py (a twelfth state) out of the translation. Not trusted: Lean checks it.
import Derived.Test.YtpjfdnifliekiaaPrint0
import Derived.Test.YtpjfdnifliekiaaPrint2
import Derived.Test.YtpjfdnifliekiaaPrint5
import Derived.Test.YtpjfdnifliekiaaPrint6
namespace Go.Proofs.Ytpjfdnifliekiaa.Print
open Go.RowKit Go.Proofs.YtpjfdnifliekiaaW.PrintWords Go.Proofs.YtpjfdnifliekiaaW.PrintLast Go.Proofs.YtpjfdnifliekiaaW.PrintMore Go.Proofs.YtpjfdnifliekiaaX
attribute [local go_sem] max2_int min2_int max_two min_two max_three min_three max_four min_four   -- for this text's walks alone
set_option linter.unusedVariables false
set_option linter.unusedSimpArgs false

attribute [local go_sem high] eqA27
/-! ### palletlaw23_DiffParts: function 3 -/
mutual
def palletlaw23_DiffParts.j0 : Nat → List (S25) → List (S25) → List (S25) → Bool → Bool → Option (Bool)
 | 0, _, _, _, _, _ => none
 | k + 1, x0, x1, x2, x7, x27 => if x27 = true then (some x7) else ((diff_Events.f k x0 x1).bind fun bt144 => (if ([] : List (S25)).length + x0.length < 3518437208883 then ((some (([] : List (S25)) ++ x0 : List (S25))).bind fun y157 => (if y157.length + x2.length < 3518437208883 then ((some (y157 ++ x2 : List (S25))).bind fun y160 => (if ([] : List (S25)).length + x1.length < 3518437208883 then ((some (([] : List (S25)) ++ x1 : List (S25))).bind fun y163 => (if y163.length + x2.length < 3518437208883 then (if bt144.2.1 = 1 then ((diff_Events.f k y160 (y163 ++ x2)).bind fun bt169 => (palletlaw23_DiffParts.j1 k x0 x2 x7 y160 (!(bt169.1 == bt144.1) || (!(bt169.2.1 == bt144.2.1) || ((!(bt169.2.2.1 == bt144.2.2.1) || (!(bt169.2.2.2.1 == bt144.2.2.2.1) || (!(bt169.2.2.2.2.1 == bt144.2.2.2.2.1) || (!(bt169.2.2.2.2.2.1 == bt144.2.2.2.2.2.1) || (!(bt169.2.2.2.2.2.2.1 == bt144.2.2.2.2.2.2.1)))))) || ((!(bt169.2.2.2.2.2.2.2.1 == bt144.2.2.2.2.2.2.2.1) || (!(bt169.2.2.2.2.2.2.2.2.1 == bt144.2.2.2.2.2.2.2.2.1) || (!(bt169.2.2.2.2.2.2.2.2.2.1 == bt144.2.2.2.2.2.2.2.2.2.1) || (!(bt169.2.2.2.2.2.2.2.2.2.2.1 == bt144.2.2.2.2.2.2.2.2.2.2.1) || (!(bt169.2.2.2.2.2.2.2.2.2.2.2 == bt144.2.2.2.2.2.2.2.2.2.2.2)))))))))))) else (palletlaw23_DiffParts.j1 k x0 x2 x7 y160 false)) else (none))) else (none))) else (none))) else (none)))
def palletlaw23_DiffParts.j1 : Nat → List (S25) → List (S25) → Bool → List (S25) → Bool → Option (Bool)
 | 0, _, _, _, _, _ => none
 | k + 1, x0, x2, x7, x9, x49 => if x49 = true then (some false) else ((diff_Events.f k x0 x9).bind fun bt181 => (if (x2.length : Int) = 0 then (if x7 = true then (some (bt181.1 == (x0.length : Int) && (bt181.2.1 == 0 && ((bt181.2.2.1 == 0 && (bt181.2.2.2.1 == 0 && (bt181.2.2.2.2.1 == 0 && (bt181.2.2.2.2.2.1 == 0 && (bt181.2.2.2.2.2.2.1 == 0))))) && ((bt181.2.2.2.2.2.2.2.1 == 0 && (bt181.2.2.2.2.2.2.2.2.1 == 0 && (bt181.2.2.2.2.2.2.2.2.2.1 == 0 && (bt181.2.2.2.2.2.2.2.2.2.2.1 == 0 && (bt181.2.2.2.2.2.2.2.2.2.2.2 == 0)))))))))) else (some false)) else (if x7 = true then (if 0 < (x2.length : Int) then (some (bt181.1 == (x0.length : Int) && (bt181.2.1 == 2 && ((bt181.2.2.1 == 0 && (bt181.2.2.2.1 == 0 && (bt181.2.2.2.2.1 == 0 && (bt181.2.2.2.2.2.1 == 0 && (bt181.2.2.2.2.2.2.1 == 0))))) && ((bt181.2.2.2.2.2.2.2.1 == ((rd_T25 x2 0).f0) && (bt181.2.2.2.2.2.2.2.2.1 == ((rd_T25 x2 0).f1) && (bt181.2.2.2.2.2.2.2.2.2.1 == ((rd_T25 x2 0).f2) && (bt181.2.2.2.2.2.2.2.2.2.2.1 == ((rd_T25 x2 0).f3) && (bt181.2.2.2.2.2.2.2.2.2.2.2 == ((rd_T25 x2 0).f4))))))))))) else (none)) else (some false))))
end
def palletlaw23_DiffParts.f (k : Nat) (l0 : List (S25)) (l1 : List (S25)) (l2 : List (S25)) : Option (Bool) := (palletlaw23_live.f k).bind fun t143 => (if t143 = true then (if (l0.length : Int) > 300 then (palletlaw23_DiffParts.j0 k l0 l1 l2 t143 true) else (if (l1.length : Int) > 300 then (palletlaw23_DiffParts.j0 k l0 l1 l2 t143 true) else (palletlaw23_DiffParts.j0 k l0 l1 l2 t143 (decide ((l2.length : Int) > 300))))) else (some false))
theorem palletlaw23_DiffParts.mono_l : ∀ k, (∀ y0 y1 y2 y3 y4, LeO (palletlaw23_DiffParts.j0 k y0 y1 y2 y3 y4) (palletlaw23_DiffParts.j0 (k + 1) y0 y1 y2 y3 y4)) ∧ (∀ y0 y1 y2 y3 y4, LeO (palletlaw23_DiffParts.j1 k y0 y1 y2 y3 y4) (palletlaw23_DiffParts.j1 (k + 1) y0 y1 y2 y3 y4))
 | 0 => ⟨fun _ _ _ _ _ r h => by simp [palletlaw23_DiffParts.j0] at h, fun _ _ _ _ _ r h => by simp [palletlaw23_DiffParts.j1] at h⟩
 | k + 1 => by
  obtain ⟨ih0, ih1⟩ := palletlaw23_DiffParts.mono_l k
  refine ⟨?_, ?_⟩
  ·intro y0 y1 y2 y3 y4
   unfold palletlaw23_DiffParts.j0
   repeat' first
   | (with_reducible exact ih0 _ _ _ _ _)
   | (with_reducible exact ih1 _ _ _ _ _)
   | (with_reducible exact diff_Events.mono _ _ _)
   | (with_reducible exact palletlaw23_live.mono _)
   | (with_reducible exact LeO.refl _)
   | (with_reducible exact LeO.none _)
   | (with_reducible refine LeO.ite ?_ ?_)
   | (with_reducible refine LeO.bind ?_ (fun _ => ?_))
   | exact ih0 _ _ _ _ _
   | exact ih1 _ _ _ _ _
   | exact diff_Events.mono _ _ _
   | exact palletlaw23_live.mono _
   | exact LeO.none _
   | refine LeO.ite ?_ ?_
   | refine LeO.bind ?_ (fun _ => ?_)
  ·intro y0 y1 y2 y3 y4
   unfold palletlaw23_DiffParts.j1
   repeat' first
   | (with_reducible exact ih0 _ _ _ _ _)
   | (with_reducible exact ih1 _ _ _ _ _)
   | (with_reducible exact diff_Events.mono _ _ _)
   | (with_reducible exact palletlaw23_live.mono _)
   | (with_reducible exact LeO.refl _)
   | (with_reducible exact LeO.none _)
   | (with_reducible refine LeO.ite ?_ ?_)
   | (with_reducible refine LeO.bind ?_ (fun _ => ?_))
   | exact ih0 _ _ _ _ _
   | exact ih1 _ _ _ _ _
   | exact diff_Events.mono _ _ _
   | exact palletlaw23_live.mono _
   | exact LeO.none _
   | refine LeO.ite ?_ ?_
   | refine LeO.bind ?_ (fun _ => ?_)
theorem palletlaw23_DiffParts.mono : ∀ a0 a1 a2 k, LeO (palletlaw23_DiffParts.f k a0 a1 a2) (palletlaw23_DiffParts.f (k + 1) a0 a1 a2) := by
 intro a0 a1 a2 k
 obtain ⟨ih0, ih1⟩ := palletlaw23_DiffParts.mono_l k
 unfold palletlaw23_DiffParts.f
 repeat' first
   | (with_reducible exact ih0 _ _ _ _ _)
   | (with_reducible exact ih1 _ _ _ _ _)
   | (with_reducible exact diff_Events.mono _ _ _)
   | (with_reducible exact palletlaw23_live.mono _)
   | (with_reducible exact LeO.refl _)
   | (with_reducible exact LeO.none _)
   | (with_reducible refine LeO.ite ?_ ?_)
   | (with_reducible refine LeO.bind ?_ (fun _ => ?_))
   | exact ih0 _ _ _ _ _
   | exact ih1 _ _ _ _ _
   | exact diff_Events.mono _ _ _
   | exact palletlaw23_live.mono _
   | exact LeO.none _
   | refine LeO.ite ?_ ?_
   | refine LeO.bind ?_ (fun _ => ?_)
def palletlaw23_DiffParts.T9 : Bool × List (List Nat × List Nat) := (true, [([], []), ([0], [0]), ([1], [1]), ([2], [2]), ([3], [3]), ([3], [3]), ([4, 5, 3, 3], [3, 4, 5]), ([3], [3]), ([6, 7, 3], [3, 6, 7]), ([3, 8], [3, 8])])
def palletlaw23_DiffParts.B9 : List Nat := [0, 1, 3, 7, 15, 15, 63, 15, 255, 511]
theorem palletlaw23_DiffParts.tab9 : rtab .any (opsOf Try.f3 9) = palletlaw23_DiffParts.T9 := by kernel_rfl
theorem palletlaw23_DiffParts.bits9 : waitsOk palletlaw23_DiffParts.T9.2 palletlaw23_DiffParts.B9 = true := by kernel_rfl
def palletlaw23_DiffParts.T14 : Bool × List (List Nat × List Nat) := (true, [([], []), ([0], [0]), ([1], [1]), ([1], [1]), ([3, 1], [1, 3]), ([1], [1]), ([5, 1], [1, 5]), ([6, 1], [1, 6]), ([4, 7, 1], [1, 4, 7]), ([2, 8, 1], [1, 2, 8]), ([1, 9], [1, 9]), ([10, 1, 0, 1, 2, 3, 4, 5, 6, 7, 8, 9, 10], [10])])
def palletlaw23_DiffParts.B14 : List Nat := [0, 1, 3, 3, 11, 3, 35, 99, 251, 511, 1023, 2047]
theorem palletlaw23_DiffParts.tab14 : rtab .any (opsOf Try.f3 14) = palletlaw23_DiffParts.T14 := by kernel_rfl
theorem palletlaw23_DiffParts.bits14 : waitsOk palletlaw23_DiffParts.T14.2 palletlaw23_DiffParts.B14 = true := by kernel_rfl
set_option maxHeartbeats 8000000 in
set_option maxRecDepth 100000 in
theorem palletlaw23_DiffParts.calls (k : Nat) (A0 : Option Addr) (c0 : Nat) (l0 : List (S25)) (A1 : Option Addr) (c1 : Nat) (l1 : List (S25)) (A2 : Option Addr) (c2 : Nat) (l2 : List (S25)) (r : Bool) (w : World) (hr0 : Kd.C k25 w A0 l0.length l0) (hc0 : l0.length ≤ c0) (hr1 : Kd.C k25 w A1 l1.length l1) (hc1 : l1.length ≤ c1) (hr2 : Kd.C k25 w A2 l2.length l2) (hc2 : l2.length ≤ c2) (hr_ : Aside0 (r = true)) (h : palletlaw23_DiffParts.f k l0 l1 l2 = some r) :
  Calls Try.prog 3 #[.slice A0 l0.length c0, .slice A1 l1.length c1, .slice A2 l2.length c2] w fun e w' => e = .returned (.bool r) ∧ Below w.heap.size w w' := by
 have hu27 := Try.underlying27
 have hu25 := Try.underlying25
 have HR0 := Aside0.mk hr0
 have HC0 := Aside0.mk hc0
 clear hr0 hc0
 have HR1 := Aside0.mk hr1
 have HC1 := Aside0.mk hc1
 clear hr1 hc1
 have HR2 := Aside0.mk hr2
 have HC2 := Aside0.mk hc2
 clear hr2 hc2
 have HB := Aside0.mk (Below.refl w.heap.size w)
 have H : ((palletlaw23_live.f k).bind fun t143 => (if t143 = true then (if (l0.length : Int) > 300 then (palletlaw23_DiffParts.j0 k l0 l1 l2 t143 true) else (if (l1.length : Int) > 300 then (palletlaw23_DiffParts.j0 k l0 l1 l2 t143 true) else (palletlaw23_DiffParts.j0 k l0 l1 l2 t143 (decide ((l2.length : Int) > 300))))) else (some false))) = some r := h
 clear h
 replace H := Option.bind_eq_some_iff.mp H
 obtain ⟨t143, A40, H⟩ := H
 replace H : (if t143 = true then (if (l0.length : Int) > 300 then (palletlaw23_DiffParts.j0 k l0 l1 l2 t143 true) else (if (l1.length : Int) > 300 then (palletlaw23_DiffParts.j0 k l0 l1 l2 t143 true) else (palletlaw23_DiffParts.j0 k l0 l1 l2 t143 (decide ((l2.length : Int) > 300))))) else (some false)) = some r := H
 have A4 := Aside0.mk A40
 clear A40
 by_cases c5 : t143 = true
 ·subst c5
  have H1 : (if (l0.length : Int) > 300 then (palletlaw23_DiffParts.j0 k l0 l1 l2 true true) else (if (l1.length : Int) > 300 then (palletlaw23_DiffParts.j0 k l0 l1 l2 true true) else (palletlaw23_DiffParts.j0 k l0 l1 l2 true (decide ((l2.length : Int) > 300))))) = some r := by rw [if_pos rfl] at H; exact H
  clear H
  have H := H1
  clear H1
  have HC6 := Aside0.mk H
  clear H
  go_enter Try.func3, Try.ntmps3
  go_upto_region 4 with (first | ((with_reducible refine gate_callee (f := 7) rfl ?_); refine goesL_ (some 12) rfl rfl Try.func7 (by kernel_rfl) rfl #[] rfl (by (try simp only [List.map_toArray, List.map_cons, List.map_nil]); first | done | rfl | (simp only [List.length_drop, List.length_take]; rfl)) ?_; (with_reducible refine (palletlaw23_live.calls k  true _ A4.out).mono ?_); rintro e w7 ⟨rfl, hb⟩; refine ⟨_, rfl, ?_⟩; have n0_ := Aside0.mk (below_step (by repeat (first | (with_reducible first | exact HB.out | apply below_alloc | apply pw_below_drewN | apply below_drew1) | exact HB.out)) hb); clear HB; have HB := n0_; clear n0_; (try clear hb); (try clear hb2); (try clear hk); (try clear hi)))
  (try simp only [Act.put, List.setIfInBounds_toArray, List.set_cons_zero, List.set_cons_succ])
  go_cut [27] (fun v27 wc => ∃ (kq : Nat) (x27_5 : Bool), v27 = .bool x27_5 ∧ Aside0 (palletlaw23_DiffParts.j0 kq l0 l1 l2 true x27_5 = some r) ∧ Aside0 (kq ≤ k) ∧ Aside0 (Below w.heap.size w wc))
  case first =>
   have H := HC6.out
   clear HC6
   by_cases c8 : (l0.length : Int) > 300
   ·rw [if_pos c8] at H
    have c8b0 : decide (300 < (l0.length : Int)) = true := decide_eq_true c8
    have c8b1 : decide (300 < l0.length) = true := decide_eq_true (by omega)
    clear c8
    (first | rw [c8b0] | (simp only [i64_w, i32_w]; rw [c8b0]) | skip)
    have H' := Aside0.mk H
    clear H
    go_wp2
    go_meet
    case rel => exact ⟨_, (true), (by first | rfl | (simp; done) | (simp [*]; done)), H', ⟨by first | omega | exact Nat.le_refl _⟩, ⟨by repeat (first | (with_reducible first | exact HB.out | apply below_alloc | apply pw_below_drewN | apply below_drew1) | exact HB.out)⟩⟩
   ·rw [if_neg c8] at H
    have c8b0 : decide (300 < (l0.length : Int)) = false := decide_eq_false c8
    have c8b1 : decide (300 < l0.length) = false := decide_eq_false (by omega)
    clear c8
    (first | rw [c8b0] | (simp only [i64_w, i32_w]; rw [c8b0]) | skip)
    by_cases c9 : (l1.length : Int) > 300
    ·rw [if_pos c9] at H
     have c9b0 : decide (300 < (l1.length : Int)) = true := decide_eq_true c9
     have c9b1 : decide (300 < l1.length) = true := decide_eq_true (by omega)
     clear c9
     have H' := Aside0.mk H
     clear H
     go_wp2
     go_meet
     case rel => exact ⟨_, (true), (by first | rfl | (simp; done) | (simp [*]; done)), H', ⟨by first | omega | exact Nat.le_refl _⟩, ⟨by repeat (first | (with_reducible first | exact HB.out | apply below_alloc | apply pw_below_drewN | apply below_drew1) | exact HB.out)⟩⟩
    ·rw [if_neg c9] at H
     have c9b0 : decide (300 < (l1.length : Int)) = false := decide_eq_false c9
     have c9b1 : decide (300 < l1.length) = false := decide_eq_false (by omega)
     clear c9
     have H' := Aside0.mk H
     clear H
     go_wp2
     go_meet
     case rel => exact ⟨_, (decide ((l2.length : Int) > 300)), (by first | rfl | (simp; done) | (simp [*]; done)), H', ⟨by first | omega | exact Nat.le_refl _⟩, ⟨by repeat (first | (with_reducible first | exact HB.out | apply below_alloc | apply pw_below_drewN | apply below_drew1) | exact HB.out)⟩⟩
  case rest =>
   clear HC6
   try clear c1
   try clear c2
   try clear p2
   try clear c3
   try clear c5
   try clear c7
   try clear c8
   try clear c8b0
   try clear c8b1
   try clear c9
   try clear c9b0
   try clear c9b1
   obtain ⟨kq, x27_5, rfl, HA, HJ5, HB⟩ := hcut
   cases kq with
   | zero => exact absurd HA.out (by simp [palletlaw23_DiffParts.j0])
   | succ kj5 =>
    have H := HA.out
    clear HA
    simp only [palletlaw23_DiffParts.j0] at H
    by_cases c10 : x27_5 = true
    ·subst c10
     have H1 : (some true) = some r := by rw [if_pos rfl] at H; exact H
     clear H
     have H := H1
     clear H1
     obtain rfl := Option.some.inj H
     go_wp2
     go_ret
     exact ⟨by first | rfl | (simp [errW_none, errW_some] <;> rfl) | (simp [*, errW_none, errW_some] <;> rfl), by repeat (first | (with_reducible first | exact HB.out | apply below_alloc | apply pw_below_drewN | apply below_drew1) | exact HB.out)⟩
    ·replace c10 := Bool.eq_false_iff.mpr c10
     subst c10
     have H1 : ((diff_Events.f kj5 l0 l1).bind fun bt144 => (if ([] : List (S25)).length + l0.length < 3518437208883 then ((some (([] : List (S25)) ++ l0 : List (S25))).bind fun y157 => (if y157.length + l2.length < 3518437208883 then ((some (y157 ++ l2 : List (S25))).bind fun y160 => (if ([] : List (S25)).length + l1.length < 3518437208883 then ((some (([] : List (S25)) ++ l1 : List (S25))).bind fun y163 => (if y163.length + l2.length < 3518437208883 then (if bt144.2.1 = 1 then ((diff_Events.f kj5 y160 (y163 ++ l2)).bind fun bt169 => (palletlaw23_DiffParts.j1 kj5 l0 l2 true y160 (!(bt169.1 == bt144.1) || (!(bt169.2.1 == bt144.2.1) || ((!(bt169.2.2.1 == bt144.2.2.1) || (!(bt169.2.2.2.1 == bt144.2.2.2.1) || (!(bt169.2.2.2.2.1 == bt144.2.2.2.2.1) || (!(bt169.2.2.2.2.2.1 == bt144.2.2.2.2.2.1) || (!(bt169.2.2.2.2.2.2.1 == bt144.2.2.2.2.2.2.1)))))) || ((!(bt169.2.2.2.2.2.2.2.1 == bt144.2.2.2.2.2.2.2.1) || (!(bt169.2.2.2.2.2.2.2.2.1 == bt144.2.2.2.2.2.2.2.2.1) || (!(bt169.2.2.2.2.2.2.2.2.2.1 == bt144.2.2.2.2.2.2.2.2.2.1) || (!(bt169.2.2.2.2.2.2.2.2.2.2.1 == bt144.2.2.2.2.2.2.2.2.2.2.1) || (!(bt169.2.2.2.2.2.2.2.2.2.2.2 == bt144.2.2.2.2.2.2.2.2.2.2.2)))))))))))) else (palletlaw23_DiffParts.j1 kj5 l0 l2 true y160 false)) else (none))) else (none))) else (none))) else (none))) = some r := by rw [if_neg (show ¬ (false = true) by decide)] at H; exact H
     clear H
     have H := H1
     clear H1
     replace H := Option.bind_eq_some_iff.mp H
     obtain ⟨⟨t144, t145, t146, t147, t148, t149, t150, t151, t152, t153, t154, t155⟩, A110, H⟩ := H
     replace H : (if ([] : List (S25)).length + l0.length < 3518437208883 then ((some (([] : List (S25)) ++ l0 : List (S25))).bind fun y157 => (if y157.length + l2.length < 3518437208883 then ((some (y157 ++ l2 : List (S25))).bind fun y160 => (if ([] : List (S25)).length + l1.length < 3518437208883 then ((some (([] : List (S25)) ++ l1 : List (S25))).bind fun y163 => (if y163.length + l2.length < 3518437208883 then (if t145 = 1 then ((diff_Events.f kj5 y160 (y163 ++ l2)).bind fun bt169 => (palletlaw23_DiffParts.j1 kj5 l0 l2 true y160 (!(bt169.1 == t144) || (!(bt169.2.1 == t145) || ((!(bt169.2.2.1 == t146) || (!(bt169.2.2.2.1 == t147) || (!(bt169.2.2.2.2.1 == t148) || (!(bt169.2.2.2.2.2.1 == t149) || (!(bt169.2.2.2.2.2.2.1 == t150)))))) || ((!(bt169.2.2.2.2.2.2.2.1 == t151) || (!(bt169.2.2.2.2.2.2.2.2.1 == t152) || (!(bt169.2.2.2.2.2.2.2.2.2.1 == t153) || (!(bt169.2.2.2.2.2.2.2.2.2.2.1 == t154) || (!(bt169.2.2.2.2.2.2.2.2.2.2.2 == t155)))))))))))) else (palletlaw23_DiffParts.j1 kj5 l0 l2 true y160 false)) else (none))) else (none))) else (none))) else (none)) = some r := H
     have A11 := Aside0.mk A110
     clear A110
     by_cases c12 : ([] : List (S25)).length + l0.length < 3518437208883
     ·rw [if_pos c12] at H
      have LMc12 := Aside0.mk c12
      clear c12
      obtain ⟨y157, hy157⟩ : ∃ y_ : List (S25), y_ = (([] : List (S25)) ++ l0) := ⟨_, rfl⟩
      replace H : (if y157.length + l2.length < 3518437208883 then ((some (y157 ++ l2 : List (S25))).bind fun y160 => (if ([] : List (S25)).length + l1.length < 3518437208883 then ((some (([] : List (S25)) ++ l1 : List (S25))).bind fun y163 => (if y163.length + l2.length < 3518437208883 then (if t145 = 1 then ((diff_Events.f kj5 y160 (y163 ++ l2)).bind fun bt169 => (palletlaw23_DiffParts.j1 kj5 l0 l2 true y160 (!(bt169.1 == t144) || (!(bt169.2.1 == t145) || ((!(bt169.2.2.1 == t146) || (!(bt169.2.2.2.1 == t147) || (!(bt169.2.2.2.2.1 == t148) || (!(bt169.2.2.2.2.2.1 == t149) || (!(bt169.2.2.2.2.2.2.1 == t150)))))) || ((!(bt169.2.2.2.2.2.2.2.1 == t151) || (!(bt169.2.2.2.2.2.2.2.2.1 == t152) || (!(bt169.2.2.2.2.2.2.2.2.2.1 == t153) || (!(bt169.2.2.2.2.2.2.2.2.2.2.1 == t154) || (!(bt169.2.2.2.2.2.2.2.2.2.2.2 == t155)))))))))))) else (palletlaw23_DiffParts.j1 kj5 l0 l2 true y160 false)) else (none))) else (none))) else (none)) = some r := by first | (rw [hy157]; with_reducible exact H) | (have H2_ := (Option.bind_some _ _).symm.trans H; rw [hy157]; with_reducible exact H2_) | (have H2_ := (Option.bind_some _ _).symm.trans H; with_reducible exact H2_) | with_reducible exact H | (rw [hy157]; exact H) | exact H
      have Ny157 := Aside0.mk hy157
      clear hy157
      by_cases c13 : y157.length + l2.length < 3518437208883
      ·rw [if_pos c13] at H
       have LMc13 := Aside0.mk c13
       clear c13
       obtain ⟨y160, hy160⟩ : ∃ y_ : List (S25), y_ = (y157 ++ l2) := ⟨_, rfl⟩
       replace H : (if ([] : List (S25)).length + l1.length < 3518437208883 then ((some (([] : List (S25)) ++ l1 : List (S25))).bind fun y163 => (if y163.length + l2.length < 3518437208883 then (if t145 = 1 then ((diff_Events.f kj5 y160 (y163 ++ l2)).bind fun bt169 => (palletlaw23_DiffParts.j1 kj5 l0 l2 true y160 (!(bt169.1 == t144) || (!(bt169.2.1 == t145) || ((!(bt169.2.2.1 == t146) || (!(bt169.2.2.2.1 == t147) || (!(bt169.2.2.2.2.1 == t148) || (!(bt169.2.2.2.2.2.1 == t149) || (!(bt169.2.2.2.2.2.2.1 == t150)))))) || ((!(bt169.2.2.2.2.2.2.2.1 == t151) || (!(bt169.2.2.2.2.2.2.2.2.1 == t152) || (!(bt169.2.2.2.2.2.2.2.2.2.1 == t153) || (!(bt169.2.2.2.2.2.2.2.2.2.2.1 == t154) || (!(bt169.2.2.2.2.2.2.2.2.2.2.2 == t155)))))))))))) else (palletlaw23_DiffParts.j1 kj5 l0 l2 true y160 false)) else (none))) else (none)) = some r := by first | (rw [hy160]; with_reducible exact H) | (have H2_ := (Option.bind_some _ _).symm.trans H; rw [hy160]; with_reducible exact H2_) | (have H2_ := (Option.bind_some _ _).symm.trans H; with_reducible exact H2_) | with_reducible exact H | (rw [hy160]; exact H) | exact H
       have Ny160 := Aside0.mk hy160
       clear hy160
       by_cases c14 : ([] : List (S25)).length + l1.length < 3518437208883
       ·rw [if_pos c14] at H
        have LMc14 := Aside0.mk c14
        clear c14
        obtain ⟨y163, hy163⟩ : ∃ y_ : List (S25), y_ = (([] : List (S25)) ++ l1) := ⟨_, rfl⟩
        replace H : (if y163.length + l2.length < 3518437208883 then (if t145 = 1 then ((diff_Events.f kj5 y160 (y163 ++ l2)).bind fun bt169 => (palletlaw23_DiffParts.j1 kj5 l0 l2 true y160 (!(bt169.1 == t144) || (!(bt169.2.1 == t145) || ((!(bt169.2.2.1 == t146) || (!(bt169.2.2.2.1 == t147) || (!(bt169.2.2.2.2.1 == t148) || (!(bt169.2.2.2.2.2.1 == t149) || (!(bt169.2.2.2.2.2.2.1 == t150)))))) || ((!(bt169.2.2.2.2.2.2.2.1 == t151) || (!(bt169.2.2.2.2.2.2.2.2.1 == t152) || (!(bt169.2.2.2.2.2.2.2.2.2.1 == t153) || (!(bt169.2.2.2.2.2.2.2.2.2.2.1 == t154) || (!(bt169.2.2.2.2.2.2.2.2.2.2.2 == t155)))))))))))) else (palletlaw23_DiffParts.j1 kj5 l0 l2 true y160 false)) else (none)) = some r := by first | (rw [hy163]; with_reducible exact H) | (have H2_ := (Option.bind_some _ _).symm.trans H; rw [hy163]; with_reducible exact H2_) | (have H2_ := (Option.bind_some _ _).symm.trans H; with_reducible exact H2_) | with_reducible exact H | (rw [hy163]; exact H) | exact H
        have Ny163 := Aside0.mk hy163
        clear hy163
        by_cases c15 : y163.length + l2.length < 3518437208883
        ·rw [if_pos c15] at H
         have LMc15 := Aside0.mk c15
         clear c15
         obtain ⟨y166, hy166⟩ : ∃ y_ : List (S25), y_ = (y163 ++ l2) := ⟨_, rfl⟩
         replace H : (if t145 = 1 then ((diff_Events.f kj5 y160 y166).bind fun bt169 => (palletlaw23_DiffParts.j1 kj5 l0 l2 true y160 (!(bt169.1 == t144) || (!(bt169.2.1 == t145) || ((!(bt169.2.2.1 == t146) || (!(bt169.2.2.2.1 == t147) || (!(bt169.2.2.2.2.1 == t148) || (!(bt169.2.2.2.2.2.1 == t149) || (!(bt169.2.2.2.2.2.2.1 == t150)))))) || ((!(bt169.2.2.2.2.2.2.2.1 == t151) || (!(bt169.2.2.2.2.2.2.2.2.1 == t152) || (!(bt169.2.2.2.2.2.2.2.2.2.1 == t153) || (!(bt169.2.2.2.2.2.2.2.2.2.2.1 == t154) || (!(bt169.2.2.2.2.2.2.2.2.2.2.2 == t155)))))))))))) else (palletlaw23_DiffParts.j1 kj5 l0 l2 true y160 false)) = some r := by first | (rw [hy166]; with_reducible exact H) | (have H2_ := (Option.bind_some _ _).symm.trans H; rw [hy166]; with_reducible exact H2_) | (have H2_ := (Option.bind_some _ _).symm.trans H; with_reducible exact H2_) | with_reducible exact H | (rw [hy166]; exact H) | exact H
         have Ny166 := Aside0.mk hy166
         clear hy166
         have HC16 := Aside0.mk H
         clear H
         go_upto_region 9 with (first | ((with_reducible refine gate_callee (f := 8) rfl ?_); refine goesL_ (some 31) rfl rfl Try.func8 (by kernel_rfl) rfl #[.slice A0 l0.length c0, .slice A1 l1.length c1] rfl (by (try simp only [List.map_toArray, List.map_cons, List.map_nil]); first | done | rfl | (simp only [List.length_drop, List.length_take]; rfl)) ?_; (with_reducible refine (diff_Events.calls kj5 _ _ l0 _ _ l1 t144 t145 t146 t147 t148 t149 t150 t151 t152 t153 t154 t155 _ ?side1 ?side2 ?side3 ?side4 A11.out).mono ?_); (case side1 => repeat (first | exact (Kd.C_below HR0.out HB.out) | (with_reducible refine Kd.C_alloc ?_ _) | (with_reducible refine Kd.C_drewN ?_ _) | (with_reducible refine Kd.C_drew ?_))); (case side2 => exact HC0.out); (case side3 => repeat (first | exact (Kd.C_below HR1.out HB.out) | (with_reducible refine Kd.C_alloc ?_ _) | (with_reducible refine Kd.C_drewN ?_ _) | (with_reducible refine Kd.C_drew ?_))); (case side4 => exact HC1.out); rintro e w17 ⟨rfl, hb⟩; refine ⟨_, rfl, ?_⟩; have n0_ := Aside0.mk (below_step (by repeat (first | (with_reducible first | exact HB.out | apply below_alloc | apply pw_below_drewN | apply below_drew1) | exact HB.out)) hb); clear HB; have HB := n0_; clear n0_; (try clear hb); (try clear hb2); (try clear hk); (try clear hi)) | ((with_reducible refine gate_dst (N := 8) rfl ?_); (try (refine gate_guard (by rfl) ?_; dsimp only)); refine box_event ?hg (N := 8) ?hd (cs := #[.int .i64 0, .int .i64 0, .int .i64 0, .int .i64 0, .int .i64 0, .int .i64 0, .int .i64 0, .int .i64 0, .int .i64 0, .int .i64 0, .int .i64 0, .int .i64 0]) (t := 27) ?hr ?_; (case hd => rfl); (case hg => rfl); (case hr => first | (go_simp; done) | (go_simp; rfl)); intro gb156 hg w18 hbox hb; have n0_ := Aside0.mk (below_step (by repeat (first | (with_reducible first | exact HB.out | apply below_alloc | apply pw_below_drewN | apply below_drew1) | exact HB.out)) hb); have n1_ := Aside0.mk (hbox); have n2_ := Aside0.mk ((by rw [hg]; exact (below_size (by repeat (first | (with_reducible first | exact HB.out | apply below_alloc | apply pw_below_drewN | apply below_drew1) | exact HB.out))) : w.heap.size ≤ gb156)); have n3_ := Aside0.mk ((by rw [hg]; exact (below_size (by repeat (first | (with_reducible first | exact HB.out | apply below_alloc | apply pw_below_drewN | apply below_drew1) | exact HB.out))) : w.heap.size ≤ gb156)); clear HB; have HB := n0_; have BK156 := n1_; have GW156 := n2_; have GE156 := n3_; clear n0_ n1_ n2_ n3_; clear hb hbox hg; have hcz19_0 : w18.cell? ⟨gb156, 0, none⟩ = some (.int .i64 0) := (blk_cell BK156.out 0).trans rfl; have hcz19_1 : w18.cell? ⟨gb156, 1, none⟩ = some (.int .i64 0) := (blk_cell BK156.out 1).trans rfl; have hcz19_2 : w18.cell? ⟨gb156, 2, none⟩ = some (.int .i64 0) := (blk_cell BK156.out 2).trans rfl; have hcz19_3 : w18.cell? ⟨gb156, 3, none⟩ = some (.int .i64 0) := (blk_cell BK156.out 3).trans rfl; have hcz19_4 : w18.cell? ⟨gb156, 4, none⟩ = some (.int .i64 0) := (blk_cell BK156.out 4).trans rfl; have hcz19_5 : w18.cell? ⟨gb156, 5, none⟩ = some (.int .i64 0) := (blk_cell BK156.out 5).trans rfl; have hcz19_6 : w18.cell? ⟨gb156, 6, none⟩ = some (.int .i64 0) := (blk_cell BK156.out 6).trans rfl; have hcz19_7 : w18.cell? ⟨gb156, 7, none⟩ = some (.int .i64 0) := (blk_cell BK156.out 7).trans rfl; have hcz19_8 : w18.cell? ⟨gb156, 8, none⟩ = some (.int .i64 0) := (blk_cell BK156.out 8).trans rfl; have hcz19_9 : w18.cell? ⟨gb156, 9, none⟩ = some (.int .i64 0) := (blk_cell BK156.out 9).trans rfl; have hcz19_10 : w18.cell? ⟨gb156, 10, none⟩ = some (.int .i64 0) := (blk_cell BK156.out 10).trans rfl; have hcz19_11 : w18.cell? ⟨gb156, 11, none⟩ = some (.int .i64 0) := (blk_cell BK156.out 11).trans rfl; have hfz19_0 := blk_frozen BK156.out 0; have hfz19_1 := blk_frozen BK156.out 1; have hfz19_2 := blk_frozen BK156.out 2; have hfz19_3 := blk_frozen BK156.out 3; have hfz19_4 := blk_frozen BK156.out 4; have hfz19_5 := blk_frozen BK156.out 5; have hfz19_6 := blk_frozen BK156.out 6; have hfz19_7 := blk_frozen BK156.out 7; have hfz19_8 := blk_frozen BK156.out 8; have hfz19_9 := blk_frozen BK156.out 9; have hfz19_10 := blk_frozen BK156.out 10; have hfz19_11 := blk_frozen BK156.out 11) | ((with_reducible refine gate_builtin (b := .append) (xs := #[.const (.slice none 0 0), .tmp 32]) rfl ?_); (try (refine gate_guard (by rfl) ?_; dsimp only)); at_builtin; refine Kd.R_append_rows k25 (w0 := w) w.heap.size rfl (.const (.slice none 0 0)) (.tmp 32) 22 25 (.agg #[(.int .i64 0), (.int .i64 0), (.int .i64 0), (.int .i64 0), (.int .i64 0)]) 40 rfl Try.underlying22 info25 rfl (by decide) (by omega) (.slice none 0 0) ([] : List (S25)) l0 _ _ _ (fun _ => True) (fun _ => False) rfl rfl ?aO ?aR (fun _ _ h => h) (fun _ h => h.elim) ?aF ?aB ?aS ?aL ?_; (case aR => exact Kd.C_below HR0.out (by repeat (first | (with_reducible first | exact HB.out | apply below_alloc | apply pw_below_drewN | apply below_drew1 | refine below_set ?_ GE156.out) | exact HB.out))); (case aB => exact (by repeat (first | (with_reducible first | exact HB.out | apply below_alloc | apply pw_below_drewN | apply below_drew1 | refine below_set ?_ GE156.out) | exact HB.out))); (case aF => exact (fun _ _ => trivial)); (case aO => exact ((Kd.R_nil _ _ _ _ (fun _ => True)))); (case aS => exact (below_size (by repeat (first | (with_reducible first | exact HB.out | apply below_alloc | apply pw_below_drewN | apply below_drew1 | refine below_set ?_ GE156.out) | exact HB.out)))); (case aL => have := LMc12.out; omega); intro v158 w20 ho hb hg hat; rw [← Ny157.out] at ho; have n0_ := Aside0.mk (blk_grown (g := gb156) (o := .cells #[.int .i64 t144, .int .i64 t145, .int .i64 t146, .int .i64 t147, .int .i64 t148, .int .i64 t149, .int .i64 t150, .int .i64 t151, .int .i64 t152, .int .i64 t153, .int .i64 t154, .int .i64 t155] 27 (0, 0)) (by (with_reducible repeat (first | refine blk_drewN ?_ _ | refine blk_drew ?_ | refine blk_alloc ?_ _)); refine blk_put (cs := #[.int .i64 t144, .int .i64 t145, .int .i64 t146, .int .i64 t147, .int .i64 t148, .int .i64 t149, .int .i64 t150, .int .i64 t151, .int .i64 t152, .int .i64 t153, .int .i64 t154, .int .i64 0]) ?_ 11 _ rfl; (with_reducible repeat (first | refine blk_drewN ?_ _ | refine blk_drew ?_ | refine blk_alloc ?_ _)); refine blk_put (cs := #[.int .i64 t144, .int .i64 t145, .int .i64 t146, .int .i64 t147, .int .i64 t148, .int .i64 t149, .int .i64 t150, .int .i64 t151, .int .i64 t152, .int .i64 t153, .int .i64 0, .int .i64 0]) ?_ 10 _ rfl; (with_reducible repeat (first | refine blk_drewN ?_ _ | refine blk_drew ?_ | refine blk_alloc ?_ _)); refine blk_put (cs := #[.int .i64 t144, .int .i64 t145, .int .i64 t146, .int .i64 t147, .int .i64 t148, .int .i64 t149, .int .i64 t150, .int .i64 t151, .int .i64 t152, .int .i64 0, .int .i64 0, .int .i64 0]) ?_ 9 _ rfl; (with_reducible repeat (first | refine blk_drewN ?_ _ | refine blk_drew ?_ | refine blk_alloc ?_ _)); refine blk_put (cs := #[.int .i64 t144, .int .i64 t145, .int .i64 t146, .int .i64 t147, .int .i64 t148, .int .i64 t149, .int .i64 t150, .int .i64 t151, .int .i64 0, .int .i64 0, .int .i64 0, .int .i64 0]) ?_ 8 _ rfl; (with_reducible repeat (first | refine blk_drewN ?_ _ | refine blk_drew ?_ | refine blk_alloc ?_ _)); refine blk_put (cs := #[.int .i64 t144, .int .i64 t145, .int .i64 t146, .int .i64 t147, .int .i64 t148, .int .i64 t149, .int .i64 t150, .int .i64 0, .int .i64 0, .int .i64 0, .int .i64 0, .int .i64 0]) ?_ 7 _ rfl; (with_reducible repeat (first | refine blk_drewN ?_ _ | refine blk_drew ?_ | refine blk_alloc ?_ _)); refine blk_put (cs := #[.int .i64 t144, .int .i64 t145, .int .i64 t146, .int .i64 t147, .int .i64 t148, .int .i64 t149, .int .i64 0, .int .i64 0, .int .i64 0, .int .i64 0, .int .i64 0, .int .i64 0]) ?_ 6 _ rfl; (with_reducible repeat (first | refine blk_drewN ?_ _ | refine blk_drew ?_ | refine blk_alloc ?_ _)); refine blk_put (cs := #[.int .i64 t144, .int .i64 t145, .int .i64 t146, .int .i64 t147, .int .i64 t148, .int .i64 0, .int .i64 0, .int .i64 0, .int .i64 0, .int .i64 0, .int .i64 0, .int .i64 0]) ?_ 5 _ rfl; (with_reducible repeat (first | refine blk_drewN ?_ _ | refine blk_drew ?_ | refine blk_alloc ?_ _)); refine blk_put (cs := #[.int .i64 t144, .int .i64 t145, .int .i64 t146, .int .i64 t147, .int .i64 0, .int .i64 0, .int .i64 0, .int .i64 0, .int .i64 0, .int .i64 0, .int .i64 0, .int .i64 0]) ?_ 4 _ rfl; (with_reducible repeat (first | refine blk_drewN ?_ _ | refine blk_drew ?_ | refine blk_alloc ?_ _)); refine blk_put (cs := #[.int .i64 t144, .int .i64 t145, .int .i64 t146, .int .i64 0, .int .i64 0, .int .i64 0, .int .i64 0, .int .i64 0, .int .i64 0, .int .i64 0, .int .i64 0, .int .i64 0]) ?_ 3 _ rfl; (with_reducible repeat (first | refine blk_drewN ?_ _ | refine blk_drew ?_ | refine blk_alloc ?_ _)); refine blk_put (cs := #[.int .i64 t144, .int .i64 t145, .int .i64 0, .int .i64 0, .int .i64 0, .int .i64 0, .int .i64 0, .int .i64 0, .int .i64 0, .int .i64 0, .int .i64 0, .int .i64 0]) ?_ 2 _ rfl; (with_reducible repeat (first | refine blk_drewN ?_ _ | refine blk_drew ?_ | refine blk_alloc ?_ _)); refine blk_put (cs := #[.int .i64 t144, .int .i64 0, .int .i64 0, .int .i64 0, .int .i64 0, .int .i64 0, .int .i64 0, .int .i64 0, .int .i64 0, .int .i64 0, .int .i64 0, .int .i64 0]) ?_ 1 _ rfl; (with_reducible repeat (first | refine blk_drewN ?_ _ | refine blk_drew ?_ | refine blk_alloc ?_ _)); refine blk_put (cs := #[.int .i64 0, .int .i64 0, .int .i64 0, .int .i64 0, .int .i64 0, .int .i64 0, .int .i64 0, .int .i64 0, .int .i64 0, .int .i64 0, .int .i64 0, .int .i64 0]) ?_ 0 _ rfl; (with_reducible repeat (first | refine blk_drewN ?_ _ | refine blk_drew ?_ | refine blk_alloc ?_ _)); exact BK156.out) hg (by simp [Value.ownBlock])); have n1_ := Aside0.mk (hb); have n2_ := Aside0.mk (ho); clear BK156; clear HB; have BK156 := n0_; have HB := n1_; have HO159 := n2_; clear n0_ n1_ n2_; clear ho hb hg hat) | ((with_reducible refine gate_builtin (b := .append) (xs := #[.tmp 33, .tmp 34]) rfl ?_); (try (refine gate_guard (by rfl) ?_; dsimp only)); at_builtin; refine Kd.R_append_rows k25 (w0 := w) w.heap.size rfl (.tmp 33) (.tmp 34) 22 25 (.agg #[(.int .i64 0), (.int .i64 0), (.int .i64 0), (.int .i64 0), (.int .i64 0)]) 40 rfl Try.underlying22 info25 rfl (by decide) (by omega) v158 y157 l2 _ _ _ (fun _ => True) (fun _ => False) rfl rfl ?aO ?aR (fun _ _ h => h) (fun _ h => h.elim) ?aF ?aB ?aS ?aL ?_; (case aR => repeat (first | exact (Kd.C_below HR2.out HB.out) | (with_reducible refine Kd.C_alloc ?_ _) | (with_reducible refine Kd.C_drewN ?_ _) | (with_reducible refine Kd.C_drew ?_))); (case aB => exact (by repeat (first | (with_reducible first | exact HB.out | apply below_alloc | apply pw_below_drewN | apply below_drew1 | refine below_set ?_ GE156.out) | exact HB.out))); (case aF => exact (fun _ _ => trivial)); (case aO => exact (by (with_reducible repeat (first | apply Kd.R_alloc | apply Kd.R_drewN | apply Kd.R_drew)); exact HO159.out)); (case aS => exact (below_size (by repeat (first | (with_reducible first | exact HB.out | apply below_alloc | apply pw_below_drewN | apply below_drew1 | refine below_set ?_ GE156.out) | exact HB.out)))); (case aL => have := LMc13.out; omega); intro v161 w21 ho hb hg hat; rw [← Ny160.out] at ho; have n0_ := Aside0.mk (blk_grown (g := gb156) (o := .cells #[.int .i64 t144, .int .i64 t145, .int .i64 t146, .int .i64 t147, .int .i64 t148, .int .i64 t149, .int .i64 t150, .int .i64 t151, .int .i64 t152, .int .i64 t153, .int .i64 t154, .int .i64 t155] 27 (0, 0)) (by (with_reducible repeat (first | refine blk_drewN ?_ _ | refine blk_drew ?_ | refine blk_alloc ?_ _)); exact BK156.out) hg (Kd.R_ne HO159.out BK156.out (by decide))); have n1_ := Aside0.mk (hb); have n2_ := Aside0.mk (ho); clear BK156; clear HB; clear HO159; have BK156 := n0_; have HB := n1_; have HO162 := n2_; clear n0_ n1_ n2_; clear ho hb hg hat) | ((with_reducible refine gate_builtin (b := .append) (xs := #[.const (.slice none 0 0), .tmp 36]) rfl ?_); (try (refine gate_guard (by rfl) ?_; dsimp only)); at_builtin; refine Kd.R_append_rows k25 (w0 := w) w.heap.size rfl (.const (.slice none 0 0)) (.tmp 36) 22 25 (.agg #[(.int .i64 0), (.int .i64 0), (.int .i64 0), (.int .i64 0), (.int .i64 0)]) 40 rfl Try.underlying22 info25 rfl (by decide) (by omega) (.slice none 0 0) ([] : List (S25)) l1 _ _ _ (fun k_ => some k_ ≠ (v161 : Value).ownBlock) (fun _ => False) rfl rfl ?aO ?aR (fun _ _ h => h) (fun _ h => h.elim) ?aF ?aB ?aS ?aL ?_; (case aR => repeat (first | exact (Kd.C_below HR1.out HB.out) | (with_reducible refine Kd.C_alloc ?_ _) | (with_reducible refine Kd.C_drewN ?_ _) | (with_reducible refine Kd.C_drew ?_))); (case aB => exact (by repeat (first | (with_reducible first | exact HB.out | apply below_alloc | apply pw_below_drewN | apply below_drew1 | refine below_set ?_ GE156.out) | exact HB.out))); (case aF => exact (fun k_ hk => Kd.fresh' (Kd.R_lt (by (with_reducible repeat (first | apply Kd.R_alloc | apply Kd.R_drewN | apply Kd.R_drew)); exact HO162.out)) k_ hk)); (case aO => exact ((Kd.R_nil _ _ _ _ (fun k_ => some k_ ≠ (v161 : Value).ownBlock)))); (case aS => exact (below_size (by repeat (first | (with_reducible first | exact HB.out | apply below_alloc | apply pw_below_drewN | apply below_drew1 | refine below_set ?_ GE156.out) | exact HB.out)))); (case aL => have := LMc14.out; omega); intro v164 w22 ho hb hg hat; rw [← Ny163.out] at ho; have n0_ := Aside0.mk (blk_grown (g := gb156) (o := .cells #[.int .i64 t144, .int .i64 t145, .int .i64 t146, .int .i64 t147, .int .i64 t148, .int .i64 t149, .int .i64 t150, .int .i64 t151, .int .i64 t152, .int .i64 t153, .int .i64 t154, .int .i64 t155] 27 (0, 0)) (by (with_reducible repeat (first | refine blk_drewN ?_ _ | refine blk_drew ?_ | refine blk_alloc ?_ _)); exact BK156.out) hg (by simp [Value.ownBlock])); have n1_ := Aside0.mk (Kd.R_after (Kd.R_apart_nil (by (with_reducible repeat (first | apply Kd.R_alloc | apply Kd.R_drewN | apply Kd.R_drew)); exact HO162.out)) hg hat); have n2_ := Aside0.mk (hb); have n3_ := Aside0.mk (ho); clear BK156; clear HO162; clear HB; have BK156 := n0_; have HO162 := n1_; have HB := n2_; have HO165 := n3_; clear n0_ n1_ n2_ n3_; clear ho hb hg hat) | ((with_reducible refine gate_builtin (b := .append) (xs := #[.tmp 37, .tmp 38]) rfl ?_); (try (refine gate_guard (by rfl) ?_; dsimp only)); at_builtin; refine Kd.R_append_rows k25 (w0 := w) w.heap.size rfl (.tmp 37) (.tmp 38) 22 25 (.agg #[(.int .i64 0), (.int .i64 0), (.int .i64 0), (.int .i64 0), (.int .i64 0)]) 40 rfl Try.underlying22 info25 rfl (by decide) (by omega) v164 y163 l2 _ _ _ (fun k_ => some k_ ≠ (v161 : Value).ownBlock) (fun _ => False) rfl rfl ?aO ?aR (fun _ _ h => h) (fun _ h => h.elim) ?aF ?aB ?aS ?aL ?_; (case aR => repeat (first | exact (Kd.C_below HR2.out HB.out) | (with_reducible refine Kd.C_alloc ?_ _) | (with_reducible refine Kd.C_drewN ?_ _) | (with_reducible refine Kd.C_drew ?_))); (case aB => exact (by repeat (first | (with_reducible first | exact HB.out | apply below_alloc | apply pw_below_drewN | apply below_drew1 | refine below_set ?_ GE156.out) | exact HB.out))); (case aF => exact (fun k_ hk => Kd.fresh' (Kd.R_lt (by (with_reducible repeat (first | apply Kd.R_alloc | apply Kd.R_drewN | apply Kd.R_drew)); exact HO162.out)) k_ hk)); (case aO => exact (by (with_reducible repeat (first | apply Kd.R_alloc | apply Kd.R_drewN | apply Kd.R_drew)); exact HO165.out)); (case aS => exact (below_size (by repeat (first | (with_reducible first | exact HB.out | apply below_alloc | apply pw_below_drewN | apply below_drew1 | refine below_set ?_ GE156.out) | exact HB.out)))); (case aL => have := LMc15.out; omega); intro v167 w23 ho hb hg hat; rw [← Ny166.out] at ho; have n0_ := Aside0.mk (blk_grown (g := gb156) (o := .cells #[.int .i64 t144, .int .i64 t145, .int .i64 t146, .int .i64 t147, .int .i64 t148, .int .i64 t149, .int .i64 t150, .int .i64 t151, .int .i64 t152, .int .i64 t153, .int .i64 t154, .int .i64 t155] 27 (0, 0)) (by (with_reducible repeat (first | refine blk_drewN ?_ _ | refine blk_drew ?_ | refine blk_alloc ?_ _)); exact BK156.out) hg (Kd.R_ne HO165.out BK156.out (by decide))); have n1_ := Aside0.mk (Kd.R_after (ok := (fun _ => True)) (by (with_reducible repeat (first | apply Kd.R_alloc | apply Kd.R_drewN | apply Kd.R_drew)); exact HO162.out) hg hat); have n2_ := Aside0.mk (hb); have n3_ := Aside0.mk (ho); clear BK156; clear HO162; clear HB; clear HO165; have BK156 := n0_; have HO162 := n1_; have HB := n2_; have HO168 := n3_; clear n0_ n1_ n2_ n3_; clear ho hb hg hat))
         (try simp only [Act.put, List.setIfInBounds_toArray, List.set_cons_zero, List.set_cons_succ])
         go_cut [49] (fun v49 wc => ∃ (kq : Nat) (x49_15 : Bool), v49 = .bool x49_15 ∧ Aside0 (palletlaw23_DiffParts.j1 kq l0 l2 true y160 x49_15 = some r) ∧ Aside0 (kq ≤ kj5) ∧ Aside0 (Kd.R k25 25 wc w.heap.size (fun _ => True) v161 y160) ∧ Aside0 (wc.heap[gb156]? = some (.cells #[.int .i64 t144, .int .i64 t145, .int .i64 t146, .int .i64 t147, .int .i64 t148, .int .i64 t149, .int .i64 t150, .int .i64 t151, .int .i64 t152, .int .i64 t153, .int .i64 t154, .int .i64 t155] 27 (0, 0))) ∧ Aside0 (Below w.heap.size w wc))
         case first =>
          have H := HC16.out
          clear HC16
          by_cases c24 : t145 = 1
          ·rw [if_pos c24] at H
           have c24b0 : (t145 == 1) = true := beq_iff_eq.mpr c24
           have c24b1 : (t145 != 1) = false := bne_eq_false_iff_eq.mpr c24
           clear c24
           (first | rw [c24b0] | (simp only [i64_w, i32_w]; rw [c24b0]) | skip)
           replace H := Option.bind_eq_some_iff.mp H
           obtain ⟨⟨t169, t170, t171, t172, t173, t174, t175, t176, t177, t178, t179, t180⟩, A250, H⟩ := H
           replace H : (palletlaw23_DiffParts.j1 kj5 l0 l2 true y160 (!(t169 == t144) || (!(t170 == t145) || ((!(t171 == t146) || (!(t172 == t147) || (!(t173 == t148) || (!(t174 == t149) || (!(t175 == t150)))))) || ((!(t176 == t151) || (!(t177 == t152) || (!(t178 == t153) || (!(t179 == t154) || (!(t180 == t155))))))))))) = some r := H
           have A25 := Aside0.mk A250
           clear A250
           have H' := Aside0.mk H
           clear H
           try go_wp2
           have n0_ := Aside0.mk (Kd.R_drew HO162.out)
           have n1_ := Aside0.mk (Kd.R_drew HO168.out)
           have n2_ := Aside0.mk (blk_drew BK156.out)
           have n3_ := Aside0.mk (below_drew1 HB.out)
           clear HO162
           clear HO168
           clear BK156
           clear HB
           have HO162 := n0_
           have HO168 := n1_
           have BK156 := n2_
           have HB := n3_
           clear n0_ n1_ n2_ n3_
           obtain ⟨Ao27, co27, eo27⟩ := Kd.R_slice HO162.out
           (first | subst eo27 | (injection eo27 with f1_ f2_ f3_; have f4_ := f1_.symm; have f5_ := f3_.symm; clear f1_ f2_ f3_; subst f4_; subst f5_))
           obtain ⟨Ao28, co28, eo28⟩ := Kd.R_slice HO168.out
           (first | subst eo28 | (injection eo28 with f1_ f2_ f3_; have f4_ := f1_.symm; have f5_ := f3_.symm; clear f1_ f2_ f3_; subst f4_; subst f5_))
           refine start_ (n := 10) (S := fun w' => w'.cell? ⟨gb156, 0, none⟩ = some (.int .i64 t144) ∧ w'.cell? ⟨gb156, 1, none⟩ = some (.int .i64 t145) ∧ w'.cell? ⟨gb156, 2, none⟩ = some (.int .i64 t146) ∧ w'.cell? ⟨gb156, 3, none⟩ = some (.int .i64 t147) ∧ w'.cell? ⟨gb156, 4, none⟩ = some (.int .i64 t148) ∧ w'.cell? ⟨gb156, 5, none⟩ = some (.int .i64 t149) ∧ w'.cell? ⟨gb156, 6, none⟩ = some (.int .i64 t150) ∧ w'.cell? ⟨gb156, 7, none⟩ = some (.int .i64 t151) ∧ w'.cell? ⟨gb156, 8, none⟩ = some (.int .i64 t152) ∧ w'.cell? ⟨gb156, 9, none⟩ = some (.int .i64 t153) ∧ w'.cell? ⟨gb156, 10, none⟩ = some (.int .i64 t154) ∧ w'.cell? ⟨gb156, 11, none⟩ = some (.int .i64 t155)) (ds := []) #[false, false, false, false, false, false, false, false, false, false] (by kernel_rfl) rfl rfl ⟨(blk_cell BK156.out 0).trans rfl, (blk_cell BK156.out 1).trans rfl, (blk_cell BK156.out 2).trans rfl, (blk_cell BK156.out 3).trans rfl, (blk_cell BK156.out 4).trans rfl, (blk_cell BK156.out 5).trans rfl, (blk_cell BK156.out 6).trans rfl, (blk_cell BK156.out 7).trans rfl, (blk_cell BK156.out 8).trans rfl, (blk_cell BK156.out 9).trans rfl, (blk_cell BK156.out 10).trans rfl, (blk_cell BK156.out 11).trans rfl⟩ (fun hHeld => ?_); refine with_tabW palletlaw23_DiffParts.tab9 palletlaw23_DiffParts.bits9 (fun HT_ HW_ => ?_)
           generalize w23.drew = w26 at HO162 HO168 BK156 HB hHeld ⊢
           refine pure_ (i := 0) (N := some 40) (v := ?_) (a' := ?_) #[true, false, false, false, false, false, false, false, false, false] rfl rfl (any_of HT_.out (by kernel_rfl)) (fun _ _ _ h => h) (Or.inl ⟨by rfl, ?_⟩) ?_ ?_
           rotate_left
           ·intro w'
            go_simp
            with_reducible rfl
           rotate_left
           ·simp only [Act.put, List.setIfInBounds_toArray, List.set_cons_zero, List.set_cons_succ, i64_w, i32_w]
            rfl
           refine take_ (i := 1) (N := some 41) (v := ?_) (a' := ?_) #[true, true, false, false, false, false, false, false, false, false] rfl rfl (take_ofW HT_.out HW_.out (by kernel_rfl)) (fun _ _ _ h => h) (Or.inl ⟨by rfl, ?_⟩) hHeld ?_ ?_
           rotate_left
           ·rintro w' ⟨s0, s1, s2, s3, s4, s5, s6, s7, s8, s9, s10, s11⟩
            go_simp
            with_reducible rfl
           rotate_left
           ·simp only [Act.put, List.setIfInBounds_toArray, List.set_cons_zero, List.set_cons_succ, i64_w, i32_w]
            rfl
           refine pure_ (i := 2) (N := some 42) (v := ?_) (a' := ?_) #[true, true, true, false, false, false, false, false, false, false] rfl rfl (any_of HT_.out (by kernel_rfl)) (fun _ _ _ h => h) (Or.inl ⟨by rfl, ?_⟩) ?_ ?_
           rotate_left
           ·intro w'
            go_simp
            with_reducible rfl
           rotate_left
           ·simp only [Act.put, List.setIfInBounds_toArray, List.set_cons_zero, List.set_cons_succ, i64_w, i32_w]
            rfl
           refine pure_ (i := 3) (N := some 43) (v := ?_) (a' := ?_) #[true, true, true, true, false, false, false, false, false, false] rfl rfl (any_of HT_.out (by kernel_rfl)) (fun _ _ _ h => h) (Or.inl ⟨by rfl, ?_⟩) ?_ ?_
           rotate_left
           ·intro w'
            go_simp
            with_reducible rfl
           rotate_left
           ·simp only [Act.put, List.setIfInBounds_toArray, List.set_cons_zero, List.set_cons_succ, i64_w, i32_w]
            rfl
           refine pure_ (i := 4) (N := some 44) (v := ?_) (a' := ?_) #[true, true, true, true, true, false, false, false, false, false] rfl rfl (any_of HT_.out (by kernel_rfl)) (fun _ _ _ h => h) (Or.inl ⟨by rfl, ?_⟩) ?_ ?_
           rotate_left
           ·intro w'
            go_simp
            with_reducible rfl
           rotate_left
           ·simp only [Act.put, List.setIfInBounds_toArray, List.set_cons_zero, List.set_cons_succ, i64_w, i32_w]
            rfl
           refine pure_ (i := 5) (N := some 45) (v := ?_) (a' := ?_) #[true, true, true, true, true, true, false, false, false, false] rfl rfl (any_of HT_.out (by kernel_rfl)) (fun _ _ _ h => h) (Or.inl ⟨by rfl, ?_⟩) ?_ ?_
           rotate_left
           ·intro w'
            go_simp
            with_reducible rfl
           rotate_left
           ·simp only [Act.put, List.setIfInBounds_toArray, List.set_cons_zero, List.set_cons_succ, i64_w, i32_w]
            rfl
           refine take_ (i := 7) (N := some 47) (v := ?_) (a' := ?_) #[true, true, true, true, true, true, false, true, false, false] rfl rfl (take_ofW HT_.out HW_.out (by kernel_rfl)) (fun _ _ _ h => h) (Or.inl ⟨by rfl, ?_⟩) hHeld ?_ ?_
           rotate_left
           ·rintro w' ⟨s0, s1, s2, s3, s4, s5, s6, s7, s8, s9, s10, s11⟩
            go_simp
            with_reducible rfl
           rotate_left
           ·simp only [Act.put, List.setIfInBounds_toArray, List.set_cons_zero, List.set_cons_succ, i64_w, i32_w]
            rfl
           refine one_ (i := 6) (N := some 46) #[true, true, true, true, true, true, true, true, false, false] rfl rfl (one_of HT_.out (by kernel_rfl)) (by decide) (fun K hK => ?_)
           refine goes_ Try.func8 (by kernel_rfl) rfl #[.slice Ao27 y160.length co27, .slice Ao28 y166.length co28] (by rfl) rfl rfl (by (try simp only [List.map_toArray, List.map_cons, List.map_nil]); first | done | rfl | (simp only [List.length_drop, List.length_take]; rfl)) ?_
           with_reducible refine (diff_Events.calls kj5 _ _ y160 _ _ y166 t169 t170 t171 t172 t173 t174 t175 t176 t177 t178 t179 t180 _ ?side1 ?side2 ?side3 ?side4 A25.out).mono ?_
           (case side1 => repeat (first | exact (Kd.R_reads' HO162.out).2.2 | (with_reducible refine Kd.C_alloc ?_ _) | (with_reducible refine Kd.C_drewN ?_ _) | (with_reducible refine Kd.C_drew ?_)))
           (case side2 => exact (Kd.R_reads' HO162.out).2.1)
           (case side3 => repeat (first | exact (Kd.R_reads' HO168.out).2.2 | (with_reducible refine Kd.C_alloc ?_ _) | (with_reducible refine Kd.C_drewN ?_ _) | (with_reducible refine Kd.C_drew ?_)))
           (case side4 => exact (Kd.R_reads' HO168.out).2.1)
           rintro e w29 ⟨rfl, hb⟩
           refine ⟨_, rfl, ?_⟩
           have n0_ := Aside0.mk (Kd.R_below (by (with_reducible repeat (first | apply Kd.R_alloc | apply Kd.R_drewN | apply Kd.R_drew)); exact HO162.out) hb)
           have n1_ := Aside0.mk (Kd.R_below (by (with_reducible repeat (first | apply Kd.R_alloc | apply Kd.R_drewN | apply Kd.R_drew)); exact HO168.out) hb)
           have n2_ := Aside0.mk (blk_below (g := gb156) (o := .cells #[.int .i64 t144, .int .i64 t145, .int .i64 t146, .int .i64 t147, .int .i64 t148, .int .i64 t149, .int .i64 t150, .int .i64 t151, .int .i64 t152, .int .i64 t153, .int .i64 t154, .int .i64 t155] 27 (0, 0)) (by (with_reducible repeat (first | refine blk_drewN ?_ _ | refine blk_drew ?_ | refine blk_alloc ?_ _)); exact BK156.out) hb)
           have n3_ := Aside0.mk (below_step (by repeat (first | (with_reducible first | exact HB.out | apply below_alloc | apply pw_below_drewN | apply below_drew1 | refine below_set ?_ GE156.out) | exact HB.out)) hb)
           clear HO162
           clear HO168
           clear BK156
           clear HB
           have HO162 := n0_
           have HO168 := n1_
           have BK156 := n2_
           have HB := n3_
           clear n0_ n1_ n2_ n3_
           (try clear hb)
           (try clear hb2)
           (try clear hk)
           (try clear hi)
           refine hK.out _ _ ⟨(blk_cell BK156.out 0).trans rfl, (blk_cell BK156.out 1).trans rfl, (blk_cell BK156.out 2).trans rfl, (blk_cell BK156.out 3).trans rfl, (blk_cell BK156.out 4).trans rfl, (blk_cell BK156.out 5).trans rfl, (blk_cell BK156.out 6).trans rfl, (blk_cell BK156.out 7).trans rfl, (blk_cell BK156.out 8).trans rfl, (blk_cell BK156.out 9).trans rfl, (blk_cell BK156.out 10).trans rfl, (blk_cell BK156.out 11).trans rfl⟩ (fun hHeld => ?_)
           clear hK K
           refine norm_ (a' := ?_) ?_ ?_
           rotate_left
           ·show Act.put _ (some 46) _ = _
            simp only [Act.put, List.setIfInBounds_toArray, List.set_cons_zero, List.set_cons_succ, i64_w, i32_w]
            rfl
           refine pure_ (i := 8) (N := some 48) (v := ?_) (a' := ?_) #[true, true, true, true, true, true, true, true, true, false] rfl rfl (any_of HT_.out (by kernel_rfl)) (fun _ _ _ h => h) (Or.inl ⟨by rfl, ?_⟩) ?_ ?_
           rotate_left
           ·intro w'
            go_simp
            with_reducible rfl
           rotate_left
           ·simp only [Act.put, List.setIfInBounds_toArray, List.set_cons_zero, List.set_cons_succ, i64_w, i32_w]
            rfl
           refine pure_ (i := 9) (N := some 49) (v := ?_) (a' := ?_) #[true, true, true, true, true, true, true, true, true, true] rfl rfl (any_of HT_.out (by kernel_rfl)) (fun _ _ _ h => h) (Or.inl ⟨by rfl, ?_⟩) ?_ ?_
           rotate_left
           ·intro w'
            go_simp
            with_reducible rfl
           rotate_left
           ·simp only [Act.put, List.setIfInBounds_toArray, List.set_cons_zero, List.set_cons_succ, i64_w, i32_w]
            rfl
           refine done_ (done_of HT_.out (by kernel_rfl)) ?_
           try go_wp2
           go_meet
           case rel => exact ⟨_, ((!(t169 == t144) || (!(t170 == t145) || ((!(t171 == t146) || (!(t172 == t147) || (!(t173 == t148) || (!(t174 == t149) || (!(t175 == t150)))))) || ((!(t176 == t151) || (!(t177 == t152) || (!(t178 == t153) || (!(t179 == t154) || (!(t180 == t155))))))))))), (by first | rfl | (simp; done) | (simp [*]; done)), H', ⟨by have := HJ5.out; first | omega | exact Nat.le_refl _⟩, ⟨by (with_reducible repeat (first | apply Kd.R_alloc | apply Kd.R_drewN | apply Kd.R_drew)); exact Kd.R_mono HO162.out (fun _ hk => trivial)⟩, ⟨by (with_reducible repeat (first | refine blk_drewN ?_ _ | refine blk_drew ?_ | refine blk_alloc ?_ _)); exact BK156.out⟩, ⟨by repeat (first | (with_reducible first | exact HB.out | apply below_alloc | apply pw_below_drewN | apply below_drew1 | refine below_set ?_ GE156.out) | exact HB.out)⟩⟩
          ·rw [if_neg c24] at H
           have c24b0 : (t145 == 1) = false := beq_eq_false_iff_ne.mpr c24
           have c24b1 : (t145 != 1) = true := bne_iff_ne.mpr c24
           (first | rw [c24b0] | (simp only [i64_w, i32_w]; rw [c24b0]) | skip)
           have H' := Aside0.mk H
           clear H
           try go_wp2
           have n0_ := Aside0.mk (Kd.R_drew HO162.out)
           have n1_ := Aside0.mk (Kd.R_drew HO168.out)
           have n2_ := Aside0.mk (blk_drew BK156.out)
           have n3_ := Aside0.mk (below_drew1 HB.out)
           clear HO162
           clear HO168
           clear BK156
           clear HB
           have HO162 := n0_
           have HO168 := n1_
           have BK156 := n2_
           have HB := n3_
           clear n0_ n1_ n2_ n3_
           refine start_ (n := 10) (S := fun w' => w'.cell? ⟨gb156, 0, none⟩ = some (.int .i64 t144) ∧ w'.cell? ⟨gb156, 1, none⟩ = some (.int .i64 t145) ∧ w'.cell? ⟨gb156, 2, none⟩ = some (.int .i64 t146) ∧ w'.cell? ⟨gb156, 3, none⟩ = some (.int .i64 t147) ∧ w'.cell? ⟨gb156, 4, none⟩ = some (.int .i64 t148) ∧ w'.cell? ⟨gb156, 5, none⟩ = some (.int .i64 t149) ∧ w'.cell? ⟨gb156, 6, none⟩ = some (.int .i64 t150) ∧ w'.cell? ⟨gb156, 7, none⟩ = some (.int .i64 t151) ∧ w'.cell? ⟨gb156, 8, none⟩ = some (.int .i64 t152) ∧ w'.cell? ⟨gb156, 9, none⟩ = some (.int .i64 t153) ∧ w'.cell? ⟨gb156, 10, none⟩ = some (.int .i64 t154) ∧ w'.cell? ⟨gb156, 11, none⟩ = some (.int .i64 t155)) (ds := []) #[false, false, false, false, false, false, false, false, false, false] (by kernel_rfl) rfl rfl ⟨(blk_cell BK156.out 0).trans rfl, (blk_cell BK156.out 1).trans rfl, (blk_cell BK156.out 2).trans rfl, (blk_cell BK156.out 3).trans rfl, (blk_cell BK156.out 4).trans rfl, (blk_cell BK156.out 5).trans rfl, (blk_cell BK156.out 6).trans rfl, (blk_cell BK156.out 7).trans rfl, (blk_cell BK156.out 8).trans rfl, (blk_cell BK156.out 9).trans rfl, (blk_cell BK156.out 10).trans rfl, (blk_cell BK156.out 11).trans rfl⟩ (fun hHeld => ?_); refine with_tabW palletlaw23_DiffParts.tab9 palletlaw23_DiffParts.bits9 (fun HT_ HW_ => ?_)
           generalize w23.drew = w30 at HO162 HO168 BK156 HB hHeld ⊢
           refine pure_ (i := 0) (N := some 40) (v := ?_) (a' := ?_) #[true, false, false, false, false, false, false, false, false, false] rfl rfl (any_of HT_.out (by kernel_rfl)) (fun _ _ _ h => h) (Or.inl ⟨by rfl, ?_⟩) ?_ ?_
           rotate_left
           ·intro w'
            go_simp
            with_reducible rfl
           rotate_left
           ·simp only [Act.put, List.setIfInBounds_toArray, List.set_cons_zero, List.set_cons_succ, i64_w, i32_w]
            rfl
           refine take_ (i := 1) (N := some 41) (v := ?_) (a' := ?_) #[true, true, false, false, false, false, false, false, false, false] rfl rfl (take_ofW HT_.out HW_.out (by kernel_rfl)) (fun _ _ _ h => h) (Or.inl ⟨by rfl, ?_⟩) hHeld ?_ ?_
           rotate_left
           ·rintro w' ⟨s0, s1, s2, s3, s4, s5, s6, s7, s8, s9, s10, s11⟩
            go_simp
            with_reducible rfl
           rotate_left
           ·simp only [Act.put, List.setIfInBounds_toArray, List.set_cons_zero, List.set_cons_succ, i64_w, i32_w]
            rfl
           refine pure_ (i := 2) (N := some 42) (v := ?_) (a' := ?_) #[true, true, true, false, false, false, false, false, false, false] rfl rfl (any_of HT_.out (by kernel_rfl)) (fun _ _ _ h => h) (Or.inl ⟨by rfl, ?_⟩) ?_ ?_
           rotate_left
           ·intro w'
            go_simp
            with_reducible rfl
           rotate_left
           ·simp only [Act.put, List.setIfInBounds_toArray, List.set_cons_zero, List.set_cons_succ, i64_w, i32_w]
            rfl
           refine pure_ (i := 3) (N := some 43) (v := ?_) (a' := ?_) #[true, true, true, true, false, false, false, false, false, false] rfl rfl (any_of HT_.out (by kernel_rfl)) (fun _ _ _ h => h) (Or.inl ⟨by rfl, ?_⟩) ?_ ?_
           rotate_left
           ·intro w'
            go_simp
            with_reducible rfl
           rotate_left
           ·simp only [Act.put, List.setIfInBounds_toArray, List.set_cons_zero, List.set_cons_succ, i64_w, i32_w]
            rfl
           refine pure_ (i := 4) (N := some 44) (v := undef) (a' := ?_) #[true, true, true, true, true, false, false, false, false, false] rfl rfl (any_of HT_.out (by kernel_rfl)) (fun _ _ _ h => h) (Or.inr ⟨by rfl, rfl⟩) ?_ ?_
           rotate_left
           ·simp only [Act.put, List.setIfInBounds_toArray, List.set_cons_zero, List.set_cons_succ, i64_w, i32_w]
            rfl
           refine pure_ (i := 5) (N := some 45) (v := undef) (a' := ?_) #[true, true, true, true, true, true, false, false, false, false] rfl rfl (any_of HT_.out (by kernel_rfl)) (fun _ _ _ h => h) (Or.inr ⟨by rfl, rfl⟩) ?_ ?_
           rotate_left
           ·simp only [Act.put, List.setIfInBounds_toArray, List.set_cons_zero, List.set_cons_succ, i64_w, i32_w]
            rfl
           refine pure_ (i := 6) (N := some 46) (v := undef) (a' := ?_) #[true, true, true, true, true, true, true, false, false, false] rfl rfl (any_of HT_.out (by kernel_rfl)) (fun _ _ _ h => h) (Or.inr ⟨by rfl, rfl⟩) ?_ ?_
           rotate_left
           ·simp only [Act.put, List.setIfInBounds_toArray, List.set_cons_zero, List.set_cons_succ, i64_w, i32_w]
            rfl
           refine pure_ (i := 7) (N := some 47) (v := undef) (a' := ?_) #[true, true, true, true, true, true, true, true, false, false] rfl rfl (any_of HT_.out (by kernel_rfl)) (fun _ _ _ h => h) (Or.inr ⟨by rfl, rfl⟩) ?_ ?_
           rotate_left
           ·simp only [Act.put, List.setIfInBounds_toArray, List.set_cons_zero, List.set_cons_succ, i64_w, i32_w]
            rfl
           refine pure_ (i := 8) (N := some 48) (v := undef) (a' := ?_) #[true, true, true, true, true, true, true, true, true, false] rfl rfl (any_of HT_.out (by kernel_rfl)) (fun _ _ _ h => h) (Or.inr ⟨by rfl, rfl⟩) ?_ ?_
           rotate_left
           ·simp only [Act.put, List.setIfInBounds_toArray, List.set_cons_zero, List.set_cons_succ, i64_w, i32_w]
            rfl
           refine pure_ (i := 9) (N := some 49) (v := ?_) (a' := ?_) #[true, true, true, true, true, true, true, true, true, true] rfl rfl (any_of HT_.out (by kernel_rfl)) (fun _ _ _ h => h) (Or.inl ⟨by rfl, ?_⟩) ?_ ?_
           rotate_left
           ·intro w'
            go_simp
            with_reducible rfl
           rotate_left
           ·simp only [Act.put, List.setIfInBounds_toArray, List.set_cons_zero, List.set_cons_succ, i64_w, i32_w]
            rfl
           refine done_ (done_of HT_.out (by kernel_rfl)) ?_
           try go_wp2
           go_meet
           case rel => exact ⟨_, (false), (by first | rfl | (simp; done) | (simp [*]; done)), H', ⟨by have := HJ5.out; first | omega | exact Nat.le_refl _⟩, ⟨by (with_reducible repeat (first | apply Kd.R_alloc | apply Kd.R_drewN | apply Kd.R_drew)); exact Kd.R_mono HO162.out (fun _ hk => trivial)⟩, ⟨by (with_reducible repeat (first | refine blk_drewN ?_ _ | refine blk_drew ?_ | refine blk_alloc ?_ _)); exact BK156.out⟩, ⟨by repeat (first | (with_reducible first | exact HB.out | apply below_alloc | apply pw_below_drewN | apply below_drew1 | refine below_set ?_ GE156.out) | exact HB.out)⟩⟩
         case rest =>
          clear HC16
          try clear c1
          try clear c2
          try clear p2
          try clear c3
          try clear c5
          try clear c7
          try clear c8
          try clear c8b0
          try clear c8b1
          try clear c9
          try clear c9b0
          try clear c9b1
          try clear c10
          try clear c12
          try clear c13
          try clear c14
          try clear c15
          try clear c24
          try clear c24b0
          try clear c24b1
          try clear hcz19_0
          try clear hcz19_1
          try clear hcz19_10
          try clear hcz19_11
          try clear hcz19_2
          try clear hcz19_3
          try clear hcz19_4
          try clear hcz19_5
          try clear hcz19_6
          try clear hcz19_7
          try clear hcz19_8
          try clear hcz19_9
          try clear hfz19_0
          try clear hfz19_1
          try clear hfz19_10
          try clear hfz19_11
          try clear hfz19_2
          try clear hfz19_3
          try clear hfz19_4
          try clear hfz19_5
          try clear hfz19_6
          try clear hfz19_7
          try clear hfz19_8
          try clear hfz19_9
          try clear p2
          obtain ⟨kq, x49_15, rfl, HA, HJ15, HO_9, BK156, HB⟩ := hcut
          cases kq with
          | zero => exact absurd HA.out (by simp [palletlaw23_DiffParts.j1])
          | succ kj15 =>
           have H := HA.out
           clear HA
           simp only [palletlaw23_DiffParts.j1] at H
           by_cases c31 : x49_15 = true
           ·subst c31
            have H1 : (some false) = some r := by rw [if_pos rfl] at H; exact H
            clear H
            have H := H1
            clear H1
            obtain rfl := Option.some.inj H
            exact absurd hr_.out (by decide)
           ·replace c31 := Bool.eq_false_iff.mpr c31
            subst c31
            have H1 : ((diff_Events.f kj15 l0 y160).bind fun bt181 => (if (l2.length : Int) = 0 then (if true = true then (some (bt181.1 == (l0.length : Int) && (bt181.2.1 == 0 && ((bt181.2.2.1 == 0 && (bt181.2.2.2.1 == 0 && (bt181.2.2.2.2.1 == 0 && (bt181.2.2.2.2.2.1 == 0 && (bt181.2.2.2.2.2.2.1 == 0))))) && ((bt181.2.2.2.2.2.2.2.1 == 0 && (bt181.2.2.2.2.2.2.2.2.1 == 0 && (bt181.2.2.2.2.2.2.2.2.2.1 == 0 && (bt181.2.2.2.2.2.2.2.2.2.2.1 == 0 && (bt181.2.2.2.2.2.2.2.2.2.2.2 == 0)))))))))) else (some false)) else (if true = true then (if 0 < (l2.length : Int) then (some (bt181.1 == (l0.length : Int) && (bt181.2.1 == 2 && ((bt181.2.2.1 == 0 && (bt181.2.2.2.1 == 0 && (bt181.2.2.2.2.1 == 0 && (bt181.2.2.2.2.2.1 == 0 && (bt181.2.2.2.2.2.2.1 == 0))))) && ((bt181.2.2.2.2.2.2.2.1 == ((rd_T25 l2 0).f0) && (bt181.2.2.2.2.2.2.2.2.1 == ((rd_T25 l2 0).f1) && (bt181.2.2.2.2.2.2.2.2.2.1 == ((rd_T25 l2 0).f2) && (bt181.2.2.2.2.2.2.2.2.2.2.1 == ((rd_T25 l2 0).f3) && (bt181.2.2.2.2.2.2.2.2.2.2.2 == ((rd_T25 l2 0).f4))))))))))) else (none)) else (some false)))) = some r := by rw [if_neg (show ¬ (false = true) by decide)] at H; exact H
            clear H
            have H := H1
            clear H1
            replace H := Option.bind_eq_some_iff.mp H
            obtain ⟨⟨t181, t182, t183, t184, t185, t186, t187, t188, t189, t190, t191, t192⟩, A320, H⟩ := H
            replace H : (if (l2.length : Int) = 0 then (if true = true then (some (t181 == (l0.length : Int) && (t182 == 0 && ((t183 == 0 && (t184 == 0 && (t185 == 0 && (t186 == 0 && (t187 == 0))))) && ((t188 == 0 && (t189 == 0 && (t190 == 0 && (t191 == 0 && (t192 == 0)))))))))) else (some false)) else (if true = true then (if 0 < (l2.length : Int) then (some (t181 == (l0.length : Int) && (t182 == 2 && ((t183 == 0 && (t184 == 0 && (t185 == 0 && (t186 == 0 && (t187 == 0))))) && ((t188 == ((rd_T25 l2 0).f0) && (t189 == ((rd_T25 l2 0).f1) && (t190 == ((rd_T25 l2 0).f2) && (t191 == ((rd_T25 l2 0).f3) && (t192 == ((rd_T25 l2 0).f4))))))))))) else (none)) else (some false))) = some r := H
            have A32 := Aside0.mk A320
            clear A320
            by_cases c33 : (l2.length : Int) = 0
            ·rw [if_pos c33] at H
             have c33b0 : ((l2.length : Int) == 0) = true := beq_iff_eq.mpr c33
             have c33b1 : ((l2.length : Int) != 0) = false := bne_eq_false_iff_eq.mpr c33
             clear c33
             have H1 : (some (t181 == (l0.length : Int) && (t182 == 0 && ((t183 == 0 && (t184 == 0 && (t185 == 0 && (t186 == 0 && (t187 == 0))))) && ((t188 == 0 && (t189 == 0 && (t190 == 0 && (t191 == 0 && (t192 == 0)))))))))) = some r := by first | (rw [if_pos rfl] at H; exact H) | exact H
             clear H
             have H := H1
             clear H1
             obtain rfl := Option.some.inj H
             obtain ⟨Ao34, co34, eo34⟩ := Kd.R_slice HO_9.out
             subst eo34
             go_wp2_with (first | ((with_reducible refine gate_callee (f := 8) rfl ?_); refine goesL_ (some 52) rfl rfl Try.func8 (by kernel_rfl) rfl #[.slice A0 l0.length c0, .slice Ao34 y160.length co34] rfl (by (try simp only [List.map_toArray, List.map_cons, List.map_nil]); first | done | rfl | (simp only [List.length_drop, List.length_take]; rfl)) ?_; (with_reducible refine (diff_Events.calls kj15 _ _ l0 _ _ y160 t181 t182 t183 t184 t185 t186 t187 t188 t189 t190 t191 t192 _ ?side1 ?side2 ?side3 ?side4 A32.out).mono ?_); (case side1 => repeat (first | exact (Kd.C_below HR0.out HB.out) | (with_reducible refine Kd.C_alloc ?_ _) | (with_reducible refine Kd.C_drewN ?_ _) | (with_reducible refine Kd.C_drew ?_))); (case side2 => exact HC0.out); (case side3 => repeat (first | exact (Kd.R_reads' HO_9.out).2.2 | (with_reducible refine Kd.C_alloc ?_ _) | (with_reducible refine Kd.C_drewN ?_ _) | (with_reducible refine Kd.C_drew ?_))); (case side4 => exact (Kd.R_reads' HO_9.out).2.1); rintro e w35 ⟨rfl, hb⟩; refine ⟨_, rfl, ?_⟩; have n0_ := Aside0.mk (Kd.R_below (by (with_reducible repeat (first | apply Kd.R_alloc | apply Kd.R_drewN | apply Kd.R_drew)); exact HO_9.out) hb); have n1_ := Aside0.mk (blk_below (g := gb156) (o := .cells #[.int .i64 t144, .int .i64 t145, .int .i64 t146, .int .i64 t147, .int .i64 t148, .int .i64 t149, .int .i64 t150, .int .i64 t151, .int .i64 t152, .int .i64 t153, .int .i64 t154, .int .i64 t155] 27 (0, 0)) (by (with_reducible repeat (first | refine blk_drewN ?_ _ | refine blk_drew ?_ | refine blk_alloc ?_ _)); exact BK156.out) hb); have n2_ := Aside0.mk (below_step (by repeat (first | (with_reducible first | exact HB.out | apply below_alloc | apply pw_below_drewN | apply below_drew1 | refine below_set ?_ GE156.out) | exact HB.out)) hb); clear HO_9; clear BK156; clear HB; have HO_9 := n0_; have BK156 := n1_; have HB := n2_; clear n0_ n1_ n2_; (try clear hb); (try clear hb2); (try clear hk); (try clear hi)) | ((with_reducible refine gate_dst (N := 11) rfl ?_); (try (refine gate_guard (by rfl) ?_; dsimp only)); refine box_event ?hg (N := 11) ?hd (cs := #[.int .i64 0, .int .i64 0, .int .i64 0, .int .i64 0, .int .i64 0, .int .i64 0, .int .i64 0, .int .i64 0, .int .i64 0, .int .i64 0, .int .i64 0, .int .i64 0]) (t := 27) ?hr ?_; (case hd => rfl); (case hg => rfl); (case hr => first | (go_simp; done) | (go_simp; rfl)); intro gb193 hg w36 hbox hb; have n0_ := Aside0.mk (Kd.R_below (by (with_reducible repeat (first | apply Kd.R_alloc | apply Kd.R_drewN | apply Kd.R_drew)); exact HO_9.out) hb); have n1_ := Aside0.mk (blk_below (g := gb156) (o := .cells #[.int .i64 t144, .int .i64 t145, .int .i64 t146, .int .i64 t147, .int .i64 t148, .int .i64 t149, .int .i64 t150, .int .i64 t151, .int .i64 t152, .int .i64 t153, .int .i64 t154, .int .i64 t155] 27 (0, 0)) (by (with_reducible repeat (first | refine blk_drewN ?_ _ | refine blk_drew ?_ | refine blk_alloc ?_ _)); exact BK156.out) hb); have n2_ := Aside0.mk (below_step (by repeat (first | (with_reducible first | exact HB.out | apply below_alloc | apply pw_below_drewN | apply below_drew1 | refine below_set ?_ GE156.out) | exact HB.out)) hb); have n3_ := Aside0.mk (hbox); have n4_ := Aside0.mk ((by rw [hg]; exact (below_size (by repeat (first | (with_reducible first | exact HB.out | apply below_alloc | apply pw_below_drewN | apply below_drew1 | refine below_set ?_ GE156.out) | exact HB.out))) : w.heap.size ≤ gb193)); have n5_ := Aside0.mk ((by rw [hg]; exact (below_size (by repeat (first | (with_reducible first | exact HB.out | apply below_alloc | apply pw_below_drewN | apply below_drew1 | refine below_set ?_ GE156.out) | exact HB.out))) : w.heap.size ≤ gb193)); have n6_ := Aside0.mk ((by rw [hg]; exact Nat.ne_of_lt (blk_lt (g := gb156) (o := .cells #[.int .i64 t144, .int .i64 t145, .int .i64 t146, .int .i64 t147, .int .i64 t148, .int .i64 t149, .int .i64 t150, .int .i64 t151, .int .i64 t152, .int .i64 t153, .int .i64 t154, .int .i64 t155] 27 (0, 0)) (by (with_reducible repeat (first | refine blk_drewN ?_ _ | refine blk_drew ?_ | refine blk_alloc ?_ _)); exact BK156.out)) : gb156 ≠ gb193)); have n7_ := Aside0.mk ((by rw [hg]; exact Nat.ne_of_gt (blk_lt (g := gb156) (o := .cells #[.int .i64 t144, .int .i64 t145, .int .i64 t146, .int .i64 t147, .int .i64 t148, .int .i64 t149, .int .i64 t150, .int .i64 t151, .int .i64 t152, .int .i64 t153, .int .i64 t154, .int .i64 t155] 27 (0, 0)) (by (with_reducible repeat (first | refine blk_drewN ?_ _ | refine blk_drew ?_ | refine blk_alloc ?_ _)); exact BK156.out)) : gb193 ≠ gb156)); clear HO_9; clear BK156; clear HB; have HO_9 := n0_; have BK156 := n1_; have HB := n2_; have BK193 := n3_; have GW193 := n4_; have GE193 := n5_; have NB156_193 := n6_; have NB193_156 := n7_; clear n0_ n1_ n2_ n3_ n4_ n5_ n6_ n7_; clear hb hbox hg; have hnb37 := NB193_156.out; have hnc37 := NB156_193.out; have hcz38_0 : w36.cell? ⟨gb193, 0, none⟩ = some (.int .i64 0) := (blk_cell BK193.out 0).trans rfl; have hcz38_1 : w36.cell? ⟨gb193, 1, none⟩ = some (.int .i64 0) := (blk_cell BK193.out 1).trans rfl; have hcz38_2 : w36.cell? ⟨gb193, 2, none⟩ = some (.int .i64 0) := (blk_cell BK193.out 2).trans rfl; have hcz38_3 : w36.cell? ⟨gb193, 3, none⟩ = some (.int .i64 0) := (blk_cell BK193.out 3).trans rfl; have hcz38_4 : w36.cell? ⟨gb193, 4, none⟩ = some (.int .i64 0) := (blk_cell BK193.out 4).trans rfl; have hcz38_5 : w36.cell? ⟨gb193, 5, none⟩ = some (.int .i64 0) := (blk_cell BK193.out 5).trans rfl; have hcz38_6 : w36.cell? ⟨gb193, 6, none⟩ = some (.int .i64 0) := (blk_cell BK193.out 6).trans rfl; have hcz38_7 : w36.cell? ⟨gb193, 7, none⟩ = some (.int .i64 0) := (blk_cell BK193.out 7).trans rfl; have hcz38_8 : w36.cell? ⟨gb193, 8, none⟩ = some (.int .i64 0) := (blk_cell BK193.out 8).trans rfl; have hcz38_9 : w36.cell? ⟨gb193, 9, none⟩ = some (.int .i64 0) := (blk_cell BK193.out 9).trans rfl; have hcz38_10 : w36.cell? ⟨gb193, 10, none⟩ = some (.int .i64 0) := (blk_cell BK193.out 10).trans rfl; have hcz38_11 : w36.cell? ⟨gb193, 11, none⟩ = some (.int .i64 0) := (blk_cell BK193.out 11).trans rfl; have hfz38_0 := blk_frozen BK193.out 0; have hfz38_1 := blk_frozen BK193.out 1; have hfz38_2 := blk_frozen BK193.out 2; have hfz38_3 := blk_frozen BK193.out 3; have hfz38_4 := blk_frozen BK193.out 4; have hfz38_5 := blk_frozen BK193.out 5; have hfz38_6 := blk_frozen BK193.out 6; have hfz38_7 := blk_frozen BK193.out 7; have hfz38_8 := blk_frozen BK193.out 8; have hfz38_9 := blk_frozen BK193.out 9; have hfz38_10 := blk_frozen BK193.out 10; have hfz38_11 := blk_frozen BK193.out 11))
             go_ret
             exact ⟨by first | rfl | (simp [errW_none, errW_some] <;> rfl) | (simp [*, errW_none, errW_some] <;> rfl), by repeat (first | (with_reducible first | exact HB.out | apply below_alloc | apply pw_below_drewN | apply below_drew1 | refine below_set ?_ GE156.out | refine below_set ?_ GE193.out) | exact HB.out)⟩
            ·rw [if_neg c33] at H
             have c33b0 : ((l2.length : Int) == 0) = false := beq_eq_false_iff_ne.mpr c33
             have c33b1 : ((l2.length : Int) != 0) = true := bne_iff_ne.mpr c33
             have c33b2 : ¬ (l2 = []) := fun h_ => c33 (by rw [h_]; rfl)
             have H1 : (if 0 < (l2.length : Int) then (some (t181 == (l0.length : Int) && (t182 == 2 && ((t183 == 0 && (t184 == 0 && (t185 == 0 && (t186 == 0 && (t187 == 0))))) && ((t188 == ((rd_T25 l2 0).f0) && (t189 == ((rd_T25 l2 0).f1) && (t190 == ((rd_T25 l2 0).f2) && (t191 == ((rd_T25 l2 0).f3) && (t192 == ((rd_T25 l2 0).f4))))))))))) else (none)) = some r := by first | (rw [if_pos rfl] at H; exact H) | exact H
             clear H
             have H := H1
             clear H1
             by_cases c39 : 0 < (l2.length : Int)
             ·rw [if_pos c39] at H
              have c39b0 : decide (0 < (l2.length : Int)) = true := decide_eq_true c39
              have c39b1 : decide (0 < l2.length) = true := decide_eq_true (by omega)
              clear c39
              obtain rfl := Option.some.inj H
              obtain ⟨Ao40, co40, eo40⟩ := Kd.R_slice HO_9.out
              subst eo40
              try go_wp2_with (first | ((with_reducible refine gate_callee (f := 8) rfl ?_); refine goesL_ (some 52) rfl rfl Try.func8 (by kernel_rfl) rfl #[.slice A0 l0.length c0, .slice Ao40 y160.length co40] rfl (by (try simp only [List.map_toArray, List.map_cons, List.map_nil]); first | done | rfl | (simp only [List.length_drop, List.length_take]; rfl)) ?_; (with_reducible refine (diff_Events.calls kj15 _ _ l0 _ _ y160 t181 t182 t183 t184 t185 t186 t187 t188 t189 t190 t191 t192 _ ?side1 ?side2 ?side3 ?side4 A32.out).mono ?_); (case side1 => repeat (first | exact (Kd.C_below HR0.out HB.out) | (with_reducible refine Kd.C_alloc ?_ _) | (with_reducible refine Kd.C_drewN ?_ _) | (with_reducible refine Kd.C_drew ?_))); (case side2 => exact HC0.out); (case side3 => repeat (first | exact (Kd.R_reads' HO_9.out).2.2 | (with_reducible refine Kd.C_alloc ?_ _) | (with_reducible refine Kd.C_drewN ?_ _) | (with_reducible refine Kd.C_drew ?_))); (case side4 => exact (Kd.R_reads' HO_9.out).2.1); rintro e w41 ⟨rfl, hb⟩; refine ⟨_, rfl, ?_⟩; have n0_ := Aside0.mk (Kd.R_below (by (with_reducible repeat (first | apply Kd.R_alloc | apply Kd.R_drewN | apply Kd.R_drew)); exact HO_9.out) hb); have n1_ := Aside0.mk (blk_below (g := gb156) (o := .cells #[.int .i64 t144, .int .i64 t145, .int .i64 t146, .int .i64 t147, .int .i64 t148, .int .i64 t149, .int .i64 t150, .int .i64 t151, .int .i64 t152, .int .i64 t153, .int .i64 t154, .int .i64 t155] 27 (0, 0)) (by (with_reducible repeat (first | refine blk_drewN ?_ _ | refine blk_drew ?_ | refine blk_alloc ?_ _)); exact BK156.out) hb); have n2_ := Aside0.mk (below_step (by repeat (first | (with_reducible first | exact HB.out | apply below_alloc | apply pw_below_drewN | apply below_drew1 | refine below_set ?_ GE156.out) | exact HB.out)) hb); clear HO_9; clear BK156; clear HB; have HO_9 := n0_; have BK156 := n1_; have HB := n2_; clear n0_ n1_ n2_; (try clear hb); (try clear hb2); (try clear hk); (try clear hi)) | ((with_reducible refine gate_dst (N := 11) rfl ?_); (try (refine gate_guard (by rfl) ?_; dsimp only)); refine box_event ?hg (N := 11) ?hd (cs := #[.int .i64 0, .int .i64 0, .int .i64 0, .int .i64 0, .int .i64 0, .int .i64 0, .int .i64 0, .int .i64 0, .int .i64 0, .int .i64 0, .int .i64 0, .int .i64 0]) (t := 27) ?hr ?_; (case hd => rfl); (case hg => rfl); (case hr => first | (go_simp; done) | (go_simp; rfl)); intro gb193 hg w42 hbox hb; have n0_ := Aside0.mk (Kd.R_below (by (with_reducible repeat (first | apply Kd.R_alloc | apply Kd.R_drewN | apply Kd.R_drew)); exact HO_9.out) hb); have n1_ := Aside0.mk (blk_below (g := gb156) (o := .cells #[.int .i64 t144, .int .i64 t145, .int .i64 t146, .int .i64 t147, .int .i64 t148, .int .i64 t149, .int .i64 t150, .int .i64 t151, .int .i64 t152, .int .i64 t153, .int .i64 t154, .int .i64 t155] 27 (0, 0)) (by (with_reducible repeat (first | refine blk_drewN ?_ _ | refine blk_drew ?_ | refine blk_alloc ?_ _)); exact BK156.out) hb); have n2_ := Aside0.mk (below_step (by repeat (first | (with_reducible first | exact HB.out | apply below_alloc | apply pw_below_drewN | apply below_drew1 | refine below_set ?_ GE156.out) | exact HB.out)) hb); have n3_ := Aside0.mk (hbox); have n4_ := Aside0.mk ((by rw [hg]; exact (below_size (by repeat (first | (with_reducible first | exact HB.out | apply below_alloc | apply pw_below_drewN | apply below_drew1 | refine below_set ?_ GE156.out) | exact HB.out))) : w.heap.size ≤ gb193)); have n5_ := Aside0.mk ((by rw [hg]; exact (below_size (by repeat (first | (with_reducible first | exact HB.out | apply below_alloc | apply pw_below_drewN | apply below_drew1 | refine below_set ?_ GE156.out) | exact HB.out))) : w.heap.size ≤ gb193)); have n6_ := Aside0.mk ((by rw [hg]; exact Nat.ne_of_lt (blk_lt (g := gb156) (o := .cells #[.int .i64 t144, .int .i64 t145, .int .i64 t146, .int .i64 t147, .int .i64 t148, .int .i64 t149, .int .i64 t150, .int .i64 t151, .int .i64 t152, .int .i64 t153, .int .i64 t154, .int .i64 t155] 27 (0, 0)) (by (with_reducible repeat (first | refine blk_drewN ?_ _ | refine blk_drew ?_ | refine blk_alloc ?_ _)); exact BK156.out)) : gb156 ≠ gb193)); have n7_ := Aside0.mk ((by rw [hg]; exact Nat.ne_of_gt (blk_lt (g := gb156) (o := .cells #[.int .i64 t144, .int .i64 t145, .int .i64 t146, .int .i64 t147, .int .i64 t148, .int .i64 t149, .int .i64 t150, .int .i64 t151, .int .i64 t152, .int .i64 t153, .int .i64 t154, .int .i64 t155] 27 (0, 0)) (by (with_reducible repeat (first | refine blk_drewN ?_ _ | refine blk_drew ?_ | refine blk_alloc ?_ _)); exact BK156.out)) : gb193 ≠ gb156)); clear HO_9; clear BK156; clear HB; have HO_9 := n0_; have BK156 := n1_; have HB := n2_; have BK193 := n3_; have GW193 := n4_; have GE193 := n5_; have NB156_193 := n6_; have NB193_156 := n7_; clear n0_ n1_ n2_ n3_ n4_ n5_ n6_ n7_; clear hb hbox hg; have hnb43 := NB193_156.out; have hnc43 := NB156_193.out; have hcz44_0 : w42.cell? ⟨gb193, 0, none⟩ = some (.int .i64 0) := (blk_cell BK193.out 0).trans rfl; have hcz44_1 : w42.cell? ⟨gb193, 1, none⟩ = some (.int .i64 0) := (blk_cell BK193.out 1).trans rfl; have hcz44_2 : w42.cell? ⟨gb193, 2, none⟩ = some (.int .i64 0) := (blk_cell BK193.out 2).trans rfl; have hcz44_3 : w42.cell? ⟨gb193, 3, none⟩ = some (.int .i64 0) := (blk_cell BK193.out 3).trans rfl; have hcz44_4 : w42.cell? ⟨gb193, 4, none⟩ = some (.int .i64 0) := (blk_cell BK193.out 4).trans rfl; have hcz44_5 : w42.cell? ⟨gb193, 5, none⟩ = some (.int .i64 0) := (blk_cell BK193.out 5).trans rfl; have hcz44_6 : w42.cell? ⟨gb193, 6, none⟩ = some (.int .i64 0) := (blk_cell BK193.out 6).trans rfl; have hcz44_7 : w42.cell? ⟨gb193, 7, none⟩ = some (.int .i64 0) := (blk_cell BK193.out 7).trans rfl; have hcz44_8 : w42.cell? ⟨gb193, 8, none⟩ = some (.int .i64 0) := (blk_cell BK193.out 8).trans rfl; have hcz44_9 : w42.cell? ⟨gb193, 9, none⟩ = some (.int .i64 0) := (blk_cell BK193.out 9).trans rfl; have hcz44_10 : w42.cell? ⟨gb193, 10, none⟩ = some (.int .i64 0) := (blk_cell BK193.out 10).trans rfl; have hcz44_11 : w42.cell? ⟨gb193, 11, none⟩ = some (.int .i64 0) := (blk_cell BK193.out 11).trans rfl; have hfz44_0 := blk_frozen BK193.out 0; have hfz44_1 := blk_frozen BK193.out 1; have hfz44_2 := blk_frozen BK193.out 2; have hfz44_3 := blk_frozen BK193.out 3; have hfz44_4 := blk_frozen BK193.out 4; have hfz44_5 := blk_frozen BK193.out 5; have hfz44_6 := blk_frozen BK193.out 6; have hfz44_7 := blk_frozen BK193.out 7; have hfz44_8 := blk_frozen BK193.out 8; have hfz44_9 := blk_frozen BK193.out 9; have hfz44_10 := blk_frozen BK193.out 10; have hfz44_11 := blk_frozen BK193.out 11))
              have n0_ : Aside0 (Kd.R k25 25 ((((((((((((w42.setCell ⟨gb193, 0, none⟩ (.int .i64 t181)).setCell ⟨gb193, 1, none⟩ (.int .i64 t182)).setCell ⟨gb193, 2, none⟩ (.int .i64 t183)).setCell ⟨gb193, 3, none⟩ (.int .i64 t184)).setCell ⟨gb193, 4, none⟩ (.int .i64 t185)).setCell ⟨gb193, 5, none⟩ (.int .i64 t186)).setCell ⟨gb193, 6, none⟩ (.int .i64 t187)).setCell ⟨gb193, 7, none⟩ (.int .i64 t188)).setCell ⟨gb193, 8, none⟩ (.int .i64 t189)).setCell ⟨gb193, 9, none⟩ (.int .i64 t190)).setCell ⟨gb193, 10, none⟩ (.int .i64 t191)).setCell ⟨gb193, 11, none⟩ (.int .i64 t192)) w.heap.size (fun _ => True) (.slice Ao40 y160.length co40) y160) := ⟨by (with_reducible repeat (first | apply Kd.R_alloc | apply Kd.R_drewN | apply Kd.R_drew)); exact Kd.R_mono (Kd.R_far (p := ⟨gb193, 11, none⟩) (Kd.R_far (p := ⟨gb193, 10, none⟩) (Kd.R_far (p := ⟨gb193, 9, none⟩) (Kd.R_far (p := ⟨gb193, 8, none⟩) (Kd.R_far (p := ⟨gb193, 7, none⟩) (Kd.R_far (p := ⟨gb193, 6, none⟩) (Kd.R_far (p := ⟨gb193, 5, none⟩) (Kd.R_far (p := ⟨gb193, 4, none⟩) (Kd.R_far (p := ⟨gb193, 3, none⟩) (Kd.R_far (p := ⟨gb193, 2, none⟩) (Kd.R_far (p := ⟨gb193, 1, none⟩) (Kd.R_far (p := ⟨gb193, 0, none⟩) (Kd.R_types HO_9.out BK193.out (by decide)) (fun _ hk => hk.2) (.int .i64 t181)) (fun _ hk => hk.2) (.int .i64 t182)) (fun _ hk => hk.2) (.int .i64 t183)) (fun _ hk => hk.2) (.int .i64 t184)) (fun _ hk => hk.2) (.int .i64 t185)) (fun _ hk => hk.2) (.int .i64 t186)) (fun _ hk => hk.2) (.int .i64 t187)) (fun _ hk => hk.2) (.int .i64 t188)) (fun _ hk => hk.2) (.int .i64 t189)) (fun _ hk => hk.2) (.int .i64 t190)) (fun _ hk => hk.2) (.int .i64 t191)) (fun _ hk => hk.2) (.int .i64 t192)) (fun _ hk => trivial)⟩
              have n1_ : Aside0 (((((((((((((w42.setCell ⟨gb193, 0, none⟩ (.int .i64 t181)).setCell ⟨gb193, 1, none⟩ (.int .i64 t182)).setCell ⟨gb193, 2, none⟩ (.int .i64 t183)).setCell ⟨gb193, 3, none⟩ (.int .i64 t184)).setCell ⟨gb193, 4, none⟩ (.int .i64 t185)).setCell ⟨gb193, 5, none⟩ (.int .i64 t186)).setCell ⟨gb193, 6, none⟩ (.int .i64 t187)).setCell ⟨gb193, 7, none⟩ (.int .i64 t188)).setCell ⟨gb193, 8, none⟩ (.int .i64 t189)).setCell ⟨gb193, 9, none⟩ (.int .i64 t190)).setCell ⟨gb193, 10, none⟩ (.int .i64 t191)).setCell ⟨gb193, 11, none⟩ (.int .i64 t192)).heap[gb156]? = some (.cells #[.int .i64 t144, .int .i64 t145, .int .i64 t146, .int .i64 t147, .int .i64 t148, .int .i64 t149, .int .i64 t150, .int .i64 t151, .int .i64 t152, .int .i64 t153, .int .i64 t154, .int .i64 t155] 27 (0, 0))) := ⟨by (with_reducible repeat (first | refine blk_drewN ?_ _ | refine blk_drew ?_ | refine blk_alloc ?_ _)); refine blk_far ?_ NB156_193.out _; (with_reducible repeat (first | refine blk_drewN ?_ _ | refine blk_drew ?_ | refine blk_alloc ?_ _)); refine blk_far ?_ NB156_193.out _; (with_reducible repeat (first | refine blk_drewN ?_ _ | refine blk_drew ?_ | refine blk_alloc ?_ _)); refine blk_far ?_ NB156_193.out _; (with_reducible repeat (first | refine blk_drewN ?_ _ | refine blk_drew ?_ | refine blk_alloc ?_ _)); refine blk_far ?_ NB156_193.out _; (with_reducible repeat (first | refine blk_drewN ?_ _ | refine blk_drew ?_ | refine blk_alloc ?_ _)); refine blk_far ?_ NB156_193.out _; (with_reducible repeat (first | refine blk_drewN ?_ _ | refine blk_drew ?_ | refine blk_alloc ?_ _)); refine blk_far ?_ NB156_193.out _; (with_reducible repeat (first | refine blk_drewN ?_ _ | refine blk_drew ?_ | refine blk_alloc ?_ _)); refine blk_far ?_ NB156_193.out _; (with_reducible repeat (first | refine blk_drewN ?_ _ | refine blk_drew ?_ | refine blk_alloc ?_ _)); refine blk_far ?_ NB156_193.out _; (with_reducible repeat (first | refine blk_drewN ?_ _ | refine blk_drew ?_ | refine blk_alloc ?_ _)); refine blk_far ?_ NB156_193.out _; (with_reducible repeat (first | refine blk_drewN ?_ _ | refine blk_drew ?_ | refine blk_alloc ?_ _)); refine blk_far ?_ NB156_193.out _; (with_reducible repeat (first | refine blk_drewN ?_ _ | refine blk_drew ?_ | refine blk_alloc ?_ _)); refine blk_far ?_ NB156_193.out _; (with_reducible repeat (first | refine blk_drewN ?_ _ | refine blk_drew ?_ | refine blk_alloc ?_ _)); refine blk_far ?_ NB156_193.out _; (with_reducible repeat (first | refine blk_drewN ?_ _ | refine blk_drew ?_ | refine blk_alloc ?_ _)); exact BK156.out⟩
              have n2_ : Aside0 (((((((((((((w42.setCell ⟨gb193, 0, none⟩ (.int .i64 t181)).setCell ⟨gb193, 1, none⟩ (.int .i64 t182)).setCell ⟨gb193, 2, none⟩ (.int .i64 t183)).setCell ⟨gb193, 3, none⟩ (.int .i64 t184)).setCell ⟨gb193, 4, none⟩ (.int .i64 t185)).setCell ⟨gb193, 5, none⟩ (.int .i64 t186)).setCell ⟨gb193, 6, none⟩ (.int .i64 t187)).setCell ⟨gb193, 7, none⟩ (.int .i64 t188)).setCell ⟨gb193, 8, none⟩ (.int .i64 t189)).setCell ⟨gb193, 9, none⟩ (.int .i64 t190)).setCell ⟨gb193, 10, none⟩ (.int .i64 t191)).setCell ⟨gb193, 11, none⟩ (.int .i64 t192)).heap[gb193]? = some (.cells #[.int .i64 t181, .int .i64 t182, .int .i64 t183, .int .i64 t184, .int .i64 t185, .int .i64 t186, .int .i64 t187, .int .i64 t188, .int .i64 t189, .int .i64 t190, .int .i64 t191, .int .i64 t192] 27 (0, 0))) := ⟨by (with_reducible repeat (first | refine blk_drewN ?_ _ | refine blk_drew ?_ | refine blk_alloc ?_ _)); refine blk_put (cs := #[.int .i64 t181, .int .i64 t182, .int .i64 t183, .int .i64 t184, .int .i64 t185, .int .i64 t186, .int .i64 t187, .int .i64 t188, .int .i64 t189, .int .i64 t190, .int .i64 t191, .int .i64 0]) ?_ 11 _ rfl; (with_reducible repeat (first | refine blk_drewN ?_ _ | refine blk_drew ?_ | refine blk_alloc ?_ _)); refine blk_put (cs := #[.int .i64 t181, .int .i64 t182, .int .i64 t183, .int .i64 t184, .int .i64 t185, .int .i64 t186, .int .i64 t187, .int .i64 t188, .int .i64 t189, .int .i64 t190, .int .i64 0, .int .i64 0]) ?_ 10 _ rfl; (with_reducible repeat (first | refine blk_drewN ?_ _ | refine blk_drew ?_ | refine blk_alloc ?_ _)); refine blk_put (cs := #[.int .i64 t181, .int .i64 t182, .int .i64 t183, .int .i64 t184, .int .i64 t185, .int .i64 t186, .int .i64 t187, .int .i64 t188, .int .i64 t189, .int .i64 0, .int .i64 0, .int .i64 0]) ?_ 9 _ rfl; (with_reducible repeat (first | refine blk_drewN ?_ _ | refine blk_drew ?_ | refine blk_alloc ?_ _)); refine blk_put (cs := #[.int .i64 t181, .int .i64 t182, .int .i64 t183, .int .i64 t184, .int .i64 t185, .int .i64 t186, .int .i64 t187, .int .i64 t188, .int .i64 0, .int .i64 0, .int .i64 0, .int .i64 0]) ?_ 8 _ rfl; (with_reducible repeat (first | refine blk_drewN ?_ _ | refine blk_drew ?_ | refine blk_alloc ?_ _)); refine blk_put (cs := #[.int .i64 t181, .int .i64 t182, .int .i64 t183, .int .i64 t184, .int .i64 t185, .int .i64 t186, .int .i64 t187, .int .i64 0, .int .i64 0, .int .i64 0, .int .i64 0, .int .i64 0]) ?_ 7 _ rfl; (with_reducible repeat (first | refine blk_drewN ?_ _ | refine blk_drew ?_ | refine blk_alloc ?_ _)); refine blk_put (cs := #[.int .i64 t181, .int .i64 t182, .int .i64 t183, .int .i64 t184, .int .i64 t185, .int .i64 t186, .int .i64 0, .int .i64 0, .int .i64 0, .int .i64 0, .int .i64 0, .int .i64 0]) ?_ 6 _ rfl; (with_reducible repeat (first | refine blk_drewN ?_ _ | refine blk_drew ?_ | refine blk_alloc ?_ _)); refine blk_put (cs := #[.int .i64 t181, .int .i64 t182, .int .i64 t183, .int .i64 t184, .int .i64 t185, .int .i64 0, .int .i64 0, .int .i64 0, .int .i64 0, .int .i64 0, .int .i64 0, .int .i64 0]) ?_ 5 _ rfl; (with_reducible repeat (first | refine blk_drewN ?_ _ | refine blk_drew ?_ | refine blk_alloc ?_ _)); refine blk_put (cs := #[.int .i64 t181, .int .i64 t182, .int .i64 t183, .int .i64 t184, .int .i64 0, .int .i64 0, .int .i64 0, .int .i64 0, .int .i64 0, .int .i64 0, .int .i64 0, .int .i64 0]) ?_ 4 _ rfl; (with_reducible repeat (first | refine blk_drewN ?_ _ | refine blk_drew ?_ | refine blk_alloc ?_ _)); refine blk_put (cs := #[.int .i64 t181, .int .i64 t182, .int .i64 t183, .int .i64 0, .int .i64 0, .int .i64 0, .int .i64 0, .int .i64 0, .int .i64 0, .int .i64 0, .int .i64 0, .int .i64 0]) ?_ 3 _ rfl; (with_reducible repeat (first | refine blk_drewN ?_ _ | refine blk_drew ?_ | refine blk_alloc ?_ _)); refine blk_put (cs := #[.int .i64 t181, .int .i64 t182, .int .i64 0, .int .i64 0, .int .i64 0, .int .i64 0, .int .i64 0, .int .i64 0, .int .i64 0, .int .i64 0, .int .i64 0, .int .i64 0]) ?_ 2 _ rfl; (with_reducible repeat (first | refine blk_drewN ?_ _ | refine blk_drew ?_ | refine blk_alloc ?_ _)); refine blk_put (cs := #[.int .i64 t181, .int .i64 0, .int .i64 0, .int .i64 0, .int .i64 0, .int .i64 0, .int .i64 0, .int .i64 0, .int .i64 0, .int .i64 0, .int .i64 0, .int .i64 0]) ?_ 1 _ rfl; (with_reducible repeat (first | refine blk_drewN ?_ _ | refine blk_drew ?_ | refine blk_alloc ?_ _)); refine blk_put (cs := #[.int .i64 0, .int .i64 0, .int .i64 0, .int .i64 0, .int .i64 0, .int .i64 0, .int .i64 0, .int .i64 0, .int .i64 0, .int .i64 0, .int .i64 0, .int .i64 0]) ?_ 0 _ rfl; (with_reducible repeat (first | refine blk_drewN ?_ _ | refine blk_drew ?_ | refine blk_alloc ?_ _)); exact BK193.out⟩
              have n3_ : Aside0 (Below w.heap.size w ((((((((((((w42.setCell ⟨gb193, 0, none⟩ (.int .i64 t181)).setCell ⟨gb193, 1, none⟩ (.int .i64 t182)).setCell ⟨gb193, 2, none⟩ (.int .i64 t183)).setCell ⟨gb193, 3, none⟩ (.int .i64 t184)).setCell ⟨gb193, 4, none⟩ (.int .i64 t185)).setCell ⟨gb193, 5, none⟩ (.int .i64 t186)).setCell ⟨gb193, 6, none⟩ (.int .i64 t187)).setCell ⟨gb193, 7, none⟩ (.int .i64 t188)).setCell ⟨gb193, 8, none⟩ (.int .i64 t189)).setCell ⟨gb193, 9, none⟩ (.int .i64 t190)).setCell ⟨gb193, 10, none⟩ (.int .i64 t191)).setCell ⟨gb193, 11, none⟩ (.int .i64 t192))) := ⟨by repeat (first | (with_reducible first | exact HB.out | apply below_alloc | apply pw_below_drewN | apply below_drew1 | refine below_set ?_ GE156.out | refine below_set ?_ GE193.out) | exact HB.out)⟩
              (try clear HO_9)
              (try clear BK156)
              (try clear BK193)
              (try clear HB)
              generalize ((((((((((((w42.setCell ⟨gb193, 0, none⟩ (.int .i64 t181)).setCell ⟨gb193, 1, none⟩ (.int .i64 t182)).setCell ⟨gb193, 2, none⟩ (.int .i64 t183)).setCell ⟨gb193, 3, none⟩ (.int .i64 t184)).setCell ⟨gb193, 4, none⟩ (.int .i64 t185)).setCell ⟨gb193, 5, none⟩ (.int .i64 t186)).setCell ⟨gb193, 6, none⟩ (.int .i64 t187)).setCell ⟨gb193, 7, none⟩ (.int .i64 t188)).setCell ⟨gb193, 8, none⟩ (.int .i64 t189)).setCell ⟨gb193, 9, none⟩ (.int .i64 t190)).setCell ⟨gb193, 10, none⟩ (.int .i64 t191)).setCell ⟨gb193, 11, none⟩ (.int .i64 t192)) = w45 at n0_ n1_ n2_ n3_ ⊢
              have HO_9 := n0_
              have BK156 := n1_
              have BK193 := n2_
              have HB := n3_
              clear n0_ n1_ n2_ n3_
              have n0_ := Aside0.mk (Kd.R_drew HO_9.out)
              have n1_ := Aside0.mk (blk_drew BK156.out)
              have n2_ := Aside0.mk (blk_drew BK193.out)
              have n3_ := Aside0.mk (below_drew1 HB.out)
              clear HO_9
              clear BK156
              clear BK193
              clear HB
              have HO_9 := n0_
              have BK156 := n1_
              have BK193 := n2_
              have HB := n3_
              clear n0_ n1_ n2_ n3_
              have p194 : 0 ≤ (0 : Int) := (by omega)
              have q194 : 0 < (l2.length : Int) := of_decide_eq_true (by first | (with_reducible assumption) | assumption)
              obtain ⟨ad194, e194, hx194_0, hx194_1, hx194_2, hx194_3, hx194_4⟩ := at_T25 HR2.out 0 p194 q194
              have hw194_4 := hx194_4
              (try rw [show ((0 : Int)).toNat = 0 from rfl] at hw194_4)
              (try rw [show 0 * 5 = 0 from rfl] at hw194_4)
              (try rw [Addr.add_zero'] at hw194_4)
              have hw194_3 := hx194_3
              (try rw [show ((0 : Int)).toNat = 0 from rfl] at hw194_3)
              (try rw [show 0 * 5 = 0 from rfl] at hw194_3)
              (try rw [Addr.add_zero'] at hw194_3)
              have hw194_2 := hx194_2
              (try rw [show ((0 : Int)).toNat = 0 from rfl] at hw194_2)
              (try rw [show 0 * 5 = 0 from rfl] at hw194_2)
              (try rw [Addr.add_zero'] at hw194_2)
              have hw194_1 := hx194_1
              (try rw [show ((0 : Int)).toNat = 0 from rfl] at hw194_1)
              (try rw [show 0 * 5 = 0 from rfl] at hw194_1)
              (try rw [Addr.add_zero'] at hw194_1)
              have hw194_0 := hx194_0
              (try rw [show ((0 : Int)).toNat = 0 from rfl] at hw194_0)
              (try rw [show 0 * 5 = 0 from rfl] at hw194_0)
              (try rw [Addr.add_zero'] at hw194_0)
              cases e194
              have qi194 : (0 < l2.length) = True := eq_true (by omega)
              (try rw [show ((0 : Int)).toNat = 0 from rfl] at hx194_0)
              (try rw [show 0 * 5 = 0 from rfl] at hx194_0)
              (try rw [Addr.add_zero'] at hx194_0)
              (try rw [show ((0 : Int)).toNat = 0 from rfl] at hx194_1)
              (try rw [show 0 * 5 = 0 from rfl] at hx194_1)
              (try rw [Addr.add_zero'] at hx194_1)
              (try rw [show ((0 : Int)).toNat = 0 from rfl] at hx194_2)
              (try rw [show 0 * 5 = 0 from rfl] at hx194_2)
              (try rw [Addr.add_zero'] at hx194_2)
              (try rw [show ((0 : Int)).toNat = 0 from rfl] at hx194_3)
              (try rw [show 0 * 5 = 0 from rfl] at hx194_3)
              (try rw [Addr.add_zero'] at hx194_3)
              (try rw [show ((0 : Int)).toNat = 0 from rfl] at hx194_4)
              (try rw [show 0 * 5 = 0 from rfl] at hx194_4)
              (try rw [Addr.add_zero'] at hx194_4)
              replace hx194_0 := (HB.out.cell (World.block_lt_of_cell? w _ hx194_0)).trans hx194_0
              replace hx194_1 := (HB.out.cell (World.block_lt_of_cell? w _ hx194_1)).trans hx194_1
              replace hx194_2 := (HB.out.cell (World.block_lt_of_cell? w _ hx194_2)).trans hx194_2
              replace hx194_3 := (HB.out.cell (World.block_lt_of_cell? w _ hx194_3)).trans hx194_3
              replace hx194_4 := (HB.out.cell (World.block_lt_of_cell? w _ hx194_4)).trans hx194_4
              replace p194 := eq_true p194
              replace q194 := eq_true q194
              refine start_ (n := 12) (S := fun w' => w'.cell? ⟨gb193, 0, none⟩ = some (.int .i64 t181) ∧ w'.cell? ⟨gb193, 1, none⟩ = some (.int .i64 t182) ∧ w'.cell? ⟨gb193, 2, none⟩ = some (.int .i64 t183) ∧ w'.cell? ⟨gb193, 3, none⟩ = some (.int .i64 t184) ∧ w'.cell? ⟨gb193, 4, none⟩ = some (.int .i64 t185) ∧ w'.cell? ⟨gb193, 5, none⟩ = some (.int .i64 t186) ∧ w'.cell? ⟨gb193, 6, none⟩ = some (.int .i64 t187) ∧ w'.cell? ⟨gb193, 7, none⟩ = some (.int .i64 t188) ∧ w'.cell? ⟨gb193, 8, none⟩ = some (.int .i64 t189) ∧ w'.cell? ⟨gb193, 9, none⟩ = some (.int .i64 t190) ∧ w'.cell? ⟨gb193, 10, none⟩ = some (.int .i64 t191) ∧ w'.cell? ⟨gb193, 11, none⟩ = some (.int .i64 t192) ∧ w'.cell? ad194 = some (.int .i64 ((rd_T25 l2 0).f0)) ∧ w'.cell? ⟨ad194.block, ad194.off + 1, none⟩ = some (.int .i64 ((rd_T25 l2 0).f1)) ∧ w'.cell? ⟨ad194.block, ad194.off + 2, none⟩ = some (.int .i64 ((rd_T25 l2 0).f2)) ∧ w'.cell? ⟨ad194.block, ad194.off + 3, none⟩ = some (.int .i64 ((rd_T25 l2 0).f3)) ∧ w'.cell? ⟨ad194.block, ad194.off + 4, none⟩ = some (.int .i64 ((rd_T25 l2 0).f4))) (ds := []) #[false, false, false, false, false, false, false, false, false, false, false, false] (by kernel_rfl) rfl rfl ⟨(blk_cell BK193.out 0).trans rfl, (blk_cell BK193.out 1).trans rfl, (blk_cell BK193.out 2).trans rfl, (blk_cell BK193.out 3).trans rfl, (blk_cell BK193.out 4).trans rfl, (blk_cell BK193.out 5).trans rfl, (blk_cell BK193.out 6).trans rfl, (blk_cell BK193.out 7).trans rfl, (blk_cell BK193.out 8).trans rfl, (blk_cell BK193.out 9).trans rfl, (blk_cell BK193.out 10).trans rfl, (blk_cell BK193.out 11).trans rfl, ((HB.out.cell (World.block_lt_of_cell? w _ hw194_0)).trans hw194_0), ((HB.out.cell (World.block_lt_of_cell? w _ hw194_1)).trans hw194_1), ((HB.out.cell (World.block_lt_of_cell? w _ hw194_2)).trans hw194_2), ((HB.out.cell (World.block_lt_of_cell? w _ hw194_3)).trans hw194_3), ((HB.out.cell (World.block_lt_of_cell? w _ hw194_4)).trans hw194_4)⟩ (fun hHeld => ?_); refine with_tabW palletlaw23_DiffParts.tab14 palletlaw23_DiffParts.bits14 (fun HT_ HW_ => ?_)
              generalize w45.drew = w46 at HO_9 BK156 BK193 HB hx194_0 hx194_1 hx194_2 hx194_3 hx194_4 hHeld ⊢
              refine pure_ (i := 0) (N := some 64) (v := ?_) (a' := ?_) #[true, false, false, false, false, false, false, false, false, false, false, false] rfl rfl (any_of HT_.out (by kernel_rfl)) (fun _ _ _ h => h) (Or.inl ⟨by rfl, ?_⟩) ?_ ?_
              rotate_left
              ·intro w'
               go_simp
               with_reducible rfl
              rotate_left
              ·simp only [Act.put, List.setIfInBounds_toArray, List.set_cons_zero, List.set_cons_succ, i64_w, i32_w]
               rfl
              refine pure_ (i := 1) (N := some 65) (v := ?_) (a' := ?_) #[true, true, false, false, false, false, false, false, false, false, false, false] rfl rfl (any_of HT_.out (by kernel_rfl)) (fun _ _ _ h => h) (Or.inl ⟨by rfl, ?_⟩) ?_ ?_
              rotate_left
              ·intro w'
               go_simp
               with_reducible rfl
              rotate_left
              ·simp only [Act.put, List.setIfInBounds_toArray, List.set_cons_zero, List.set_cons_succ, i64_w, i32_w]
               rfl
              refine pure_ (i := 3) (N := some 67) (v := ?_) (a' := ?_) #[true, true, false, true, false, false, false, false, false, false, false, false] rfl rfl (any_of HT_.out (by kernel_rfl)) (fun _ _ _ h => h) (Or.inl ⟨by rfl, ?_⟩) ?_ ?_
              rotate_left
              ·intro w'
               go_simp
               with_reducible rfl
              rotate_left
              ·simp only [Act.put, List.setIfInBounds_toArray, List.set_cons_zero, List.set_cons_succ, i64_w, i32_w]
               rfl
              refine pure_ (i := 4) (N := some 68) (v := ?_) (a' := ?_) #[true, true, false, true, true, false, false, false, false, false, false, false] rfl rfl (any_of HT_.out (by kernel_rfl)) (fun _ _ _ h => h) (Or.inl ⟨by rfl, ?_⟩) ?_ ?_
              rotate_left
              ·intro w'
               go_simp
               with_reducible rfl
              rotate_left
              ·simp only [Act.put, List.setIfInBounds_toArray, List.set_cons_zero, List.set_cons_succ, i64_w, i32_w]
               rfl
              refine pure_ (i := 5) (N := some 69) (v := ?_) (a' := ?_) #[true, true, false, true, true, true, false, false, false, false, false, false] rfl rfl (any_of HT_.out (by kernel_rfl)) (fun _ _ _ h => h) (Or.inl ⟨by rfl, ?_⟩) ?_ ?_
              rotate_left
              ·intro w'
               go_simp
               with_reducible rfl
              rotate_left
              ·simp only [Act.put, List.setIfInBounds_toArray, List.set_cons_zero, List.set_cons_succ, i64_w, i32_w]
               rfl
              refine pure_ (i := 6) (N := some 70) (v := ?_) (a' := ?_) #[true, true, false, true, true, true, true, false, false, false, false, false] rfl rfl (any_of HT_.out (by kernel_rfl)) (fun _ _ _ h => h) (Or.inl ⟨by rfl, ?_⟩) ?_ ?_
              rotate_left
              ·intro w'
               go_simp
               with_reducible rfl
              rotate_left
              ·simp only [Act.put, List.setIfInBounds_toArray, List.set_cons_zero, List.set_cons_succ, i64_w, i32_w]
               rfl
              refine take_ (i := 2) (N := some 66) (v := ?_) (a' := ?_) #[true, true, true, true, true, true, true, false, false, false, false, false] rfl rfl (take_ofW HT_.out HW_.out (by kernel_rfl)) (fun _ _ _ h => h) (Or.inl ⟨by rfl, ?_⟩) hHeld ?_ ?_
              rotate_left
              ·rintro w' ⟨s0, s1, s2, s3, s4, s5, s6, s7, s8, s9, s10, s11, s12, s13, s14, s15, s16⟩
               go_simp
               with_reducible rfl
              rotate_left
              ·simp only [Act.put, List.setIfInBounds_toArray, List.set_cons_zero, List.set_cons_succ, i64_w, i32_w]
               rfl
              refine take_ (i := 7) (N := some 71) (v := ?_) (a' := ?_) #[true, true, true, true, true, true, true, true, false, false, false, false] rfl rfl (take_ofW HT_.out HW_.out (by kernel_rfl)) (fun _ _ _ h => h) (Or.inl ⟨by rfl, ?_⟩) hHeld ?_ ?_
              rotate_left
              ·rintro w' ⟨s0, s1, s2, s3, s4, s5, s6, s7, s8, s9, s10, s11, s12, s13, s14, s15, s16⟩
               go_simp
               with_reducible rfl
              rotate_left
              ·simp only [Act.put, List.setIfInBounds_toArray, List.set_cons_zero, List.set_cons_succ, i64_w, i32_w]
               rfl
              refine pure_ (i := 8) (N := some 72) (v := ?_) (a' := ?_) #[true, true, true, true, true, true, true, true, true, false, false, false] rfl rfl (any_of HT_.out (by kernel_rfl)) (fun _ _ _ h => h) (Or.inl ⟨by rfl, ?_⟩) ?_ ?_
              rotate_left
              ·intro w'
               go_simp
               with_reducible rfl
              rotate_left
              ·simp only [Act.put, List.setIfInBounds_toArray, List.set_cons_zero, List.set_cons_succ, i64_w, i32_w]
               rfl
              refine pure_ (i := 9) (N := some 73) (v := ?_) (a' := ?_) #[true, true, true, true, true, true, true, true, true, true, false, false] rfl rfl (any_of HT_.out (by kernel_rfl)) (fun _ _ _ h => h) (Or.inl ⟨by rfl, ?_⟩) ?_ ?_
              rotate_left
              ·intro w'
               go_simp
               with_reducible rfl
              rotate_left
              ·simp only [Act.put, List.setIfInBounds_toArray, List.set_cons_zero, List.set_cons_succ, i64_w, i32_w]
               rfl
              refine pure_ (i := 10) (N := some 74) (v := ?_) (a' := ?_) #[true, true, true, true, true, true, true, true, true, true, true, false] rfl rfl (any_of HT_.out (by kernel_rfl)) (fun _ _ _ h => h) (Or.inl ⟨by rfl, ?_⟩) ?_ ?_
              rotate_left
              ·intro w'
               go_simp
               with_reducible rfl
              rotate_left
              ·simp only [Act.put, List.setIfInBounds_toArray, List.set_cons_zero, List.set_cons_succ, i64_w, i32_w]
               rfl
              refine pure_ (i := 11) (N := some 6) (v := ?_) (a' := ?_) #[true, true, true, true, true, true, true, true, true, true, true, true] rfl rfl (any_of HT_.out (by kernel_rfl)) (fun _ _ _ h => h) (Or.inl ⟨by rfl, ?_⟩) ?_ ?_
              rotate_left
              ·intro w'
               go_simp
               with_reducible rfl
              rotate_left
              ·simp only [Act.put, List.setIfInBounds_toArray, List.set_cons_zero, List.set_cons_succ, i64_w, i32_w]
               rfl
              refine done_ (done_of HT_.out (by kernel_rfl)) ?_
              try go_wp2
              go_ret
              exact ⟨by first | rfl | (simp [errW_none, errW_some] <;> rfl) | (simp [*, errW_none, errW_some] <;> rfl), by repeat (first | (with_reducible first | exact HB.out | apply below_alloc | apply pw_below_drewN | apply below_drew1 | refine below_set ?_ GE156.out | refine below_set ?_ GE193.out) | exact HB.out)⟩
             ·rw [if_neg c39] at H
              exact absurd H (by simp)
        ·rw [if_neg c15] at H
         exact absurd H (by simp)
       ·rw [if_neg c14] at H
        exact absurd H (by simp)
      ·rw [if_neg c13] at H
       exact absurd H (by simp)
     ·rw [if_neg c12] at H
      exact absurd H (by simp)
 ·replace c5 := Bool.eq_false_iff.mpr c5
  subst c5
  have H1 : (some false) = some r := by rw [if_neg (show ¬ (false = true) by decide)] at H; exact H
  clear H
  have H := H1
  clear H1
  obtain rfl := Option.some.inj H
  exact absurd hr_.out (by decide)

end Go.Proofs.Ytpjfdnifliekiaa.Print
