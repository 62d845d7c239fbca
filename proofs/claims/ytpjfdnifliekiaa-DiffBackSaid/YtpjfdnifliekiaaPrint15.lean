-- PRINTED by print.py (a twelfth state) out of the translation. Not trusted: Lean checks it.
import Derived.Test.YtpjfdnifliekiaaPrint0
import Derived.Test.YtpjfdnifliekiaaPrint2
import Derived.Test.YtpjfdnifliekiaaPrint4
import Derived.Test.YtpjfdnifliekiaaPrint5
import Derived.Test.YtpjfdnifliekiaaPrint6
import Derived.Test.YtpjfdnifliekiaaPrint12
namespace Go.Proofs.Ytpjfdnifliekiaa.Print
open Go.RowKit Go.Proofs.YtpjfdnifliekiaaW.PrintWords Go.Proofs.YtpjfdnifliekiaaW.PrintLast Go.Proofs.YtpjfdnifliekiaaW.PrintMore Go.Proofs.YtpjfdnifliekiaaX
attribute [local go_sem] max2_int min2_int max_two min_two max_three min_three max_four min_four   -- for this text's walks alone
set_option linter.unusedVariables false
set_option linter.unusedSimpArgs false

attribute [local go_sem high] eqA27
/-! ### palletlaw23_DiffBack: function 6 -/
def palletlaw23_DiffBack.j0 : Nat → List (S25) → List (S25) → List (S25) → Bool → Bool → Option (Bool)
 | 0, _, _, _, _, _ => none
 | k + 1, x0, x1, x2, x7, x24 => if x24 = true then (some x7) else ((diff_Events.f k x0 x1).bind fun bt294 => (if x7 = true then ((diff_Events.f k x1 x0).bind fun bt307 => ((diff_Back.f bt294.1 bt294.2.1 bt294.2.2.1 bt294.2.2.2.1 bt294.2.2.2.2.1 bt294.2.2.2.2.2.1 bt294.2.2.2.2.2.2.1 bt294.2.2.2.2.2.2.2.1 bt294.2.2.2.2.2.2.2.2.1 bt294.2.2.2.2.2.2.2.2.2.1 bt294.2.2.2.2.2.2.2.2.2.2.1 bt294.2.2.2.2.2.2.2.2.2.2.2).bind fun bt319 => (if (bt307.1 == bt319.1 && (bt307.2.1 == bt319.2.1 && ((bt307.2.2.1 == bt319.2.2.1 && (bt307.2.2.2.1 == bt319.2.2.2.1 && (bt307.2.2.2.2.1 == bt319.2.2.2.2.1 && (bt307.2.2.2.2.2.1 == bt319.2.2.2.2.2.1 && (bt307.2.2.2.2.2.2.1 == bt319.2.2.2.2.2.2.1))))) && ((bt307.2.2.2.2.2.2.2.1 == bt319.2.2.2.2.2.2.2.1 && (bt307.2.2.2.2.2.2.2.2.1 == bt319.2.2.2.2.2.2.2.2.1 && (bt307.2.2.2.2.2.2.2.2.2.1 == bt319.2.2.2.2.2.2.2.2.2.1 && (bt307.2.2.2.2.2.2.2.2.2.2.1 == bt319.2.2.2.2.2.2.2.2.2.2.1 && (bt307.2.2.2.2.2.2.2.2.2.2.2 == bt319.2.2.2.2.2.2.2.2.2.2.2))))))))) = true then ((diff_Back.f bt294.1 bt294.2.1 bt294.2.2.1 bt294.2.2.2.1 bt294.2.2.2.2.1 bt294.2.2.2.2.2.1 bt294.2.2.2.2.2.2.1 bt294.2.2.2.2.2.2.2.1 bt294.2.2.2.2.2.2.2.2.1 bt294.2.2.2.2.2.2.2.2.2.1 bt294.2.2.2.2.2.2.2.2.2.2.1 bt294.2.2.2.2.2.2.2.2.2.2.2).bind fun bt331 => ((diff_Back.f bt331.1 bt331.2.1 bt331.2.2.1 bt331.2.2.2.1 bt331.2.2.2.2.1 bt331.2.2.2.2.2.1 bt331.2.2.2.2.2.2.1 bt331.2.2.2.2.2.2.2.1 bt331.2.2.2.2.2.2.2.2.1 bt331.2.2.2.2.2.2.2.2.2.1 bt331.2.2.2.2.2.2.2.2.2.2.1 bt331.2.2.2.2.2.2.2.2.2.2.2).bind fun bt343 => (if (bt343.1 == bt294.1 && (bt343.2.1 == bt294.2.1 && ((bt343.2.2.1 == bt294.2.2.1 && (bt343.2.2.2.1 == bt294.2.2.2.1 && (bt343.2.2.2.2.1 == bt294.2.2.2.2.1 && (bt343.2.2.2.2.2.1 == bt294.2.2.2.2.2.1 && (bt343.2.2.2.2.2.2.1 == bt294.2.2.2.2.2.2.1))))) && ((bt343.2.2.2.2.2.2.2.1 == bt294.2.2.2.2.2.2.2.1 && (bt343.2.2.2.2.2.2.2.2.1 == bt294.2.2.2.2.2.2.2.2.1 && (bt343.2.2.2.2.2.2.2.2.2.1 == bt294.2.2.2.2.2.2.2.2.2.1 && (bt343.2.2.2.2.2.2.2.2.2.2.1 == bt294.2.2.2.2.2.2.2.2.2.2.1 && (bt343.2.2.2.2.2.2.2.2.2.2.2 == bt294.2.2.2.2.2.2.2.2.2.2.2))))))))) = true then ((diff_Prefix.f k x0 x2).bind fun t355 => ((diff_Prefix.f k x0 x1).bind fun t356 => ((diff_Prefix.f k x1 x2).bind fun t357 => (some (decide (t355 ≥ (mn t356 t357))))))) else (some false)))) else (some false)))) else (some false)))
def palletlaw23_DiffBack.f (k : Nat) (l0 : List (S25)) (l1 : List (S25)) (l2 : List (S25)) : Option (Bool) := (palletlaw23_live.f k).bind fun t293 => (if t293 = true then (if (l0.length : Int) > 300 then (palletlaw23_DiffBack.j0 k l0 l1 l2 t293 true) else (if (l1.length : Int) > 300 then (palletlaw23_DiffBack.j0 k l0 l1 l2 t293 true) else (palletlaw23_DiffBack.j0 k l0 l1 l2 t293 (decide ((l2.length : Int) > 300))))) else (some false))
theorem palletlaw23_DiffBack.mono_l : ∀ k, (∀ y0 y1 y2 y3 y4, LeO (palletlaw23_DiffBack.j0 k y0 y1 y2 y3 y4) (palletlaw23_DiffBack.j0 (k + 1) y0 y1 y2 y3 y4))
 | 0 => fun _ _ _ _ _ r h => by simp [palletlaw23_DiffBack.j0] at h
 | k + 1 => by
  have ih0 := palletlaw23_DiffBack.mono_l k
  ·intro y0 y1 y2 y3 y4
   unfold palletlaw23_DiffBack.j0
   repeat' first
   | (with_reducible exact ih0 _ _ _ _ _)
   | (with_reducible exact diff_Events.mono _ _ _)
   | (with_reducible exact diff_Prefix.mono _ _ _)
   | (with_reducible exact palletlaw23_live.mono _)
   | (with_reducible exact LeO.refl _)
   | (with_reducible exact LeO.none _)
   | (with_reducible refine LeO.ite ?_ ?_)
   | (with_reducible refine LeO.bind ?_ (fun _ => ?_))
   | exact ih0 _ _ _ _ _
   | exact diff_Events.mono _ _ _
   | exact diff_Prefix.mono _ _ _
   | exact palletlaw23_live.mono _
   | exact LeO.none _
   | refine LeO.ite ?_ ?_
   | refine LeO.bind ?_ (fun _ => ?_)
theorem palletlaw23_DiffBack.mono : ∀ a0 a1 a2 k, LeO (palletlaw23_DiffBack.f k a0 a1 a2) (palletlaw23_DiffBack.f (k + 1) a0 a1 a2) := by
 intro a0 a1 a2 k
 have ih0 := palletlaw23_DiffBack.mono_l k
 unfold palletlaw23_DiffBack.f
 repeat' first
   | (with_reducible exact ih0 _ _ _ _ _)
   | (with_reducible exact diff_Events.mono _ _ _)
   | (with_reducible exact diff_Prefix.mono _ _ _)
   | (with_reducible exact palletlaw23_live.mono _)
   | (with_reducible exact LeO.refl _)
   | (with_reducible exact LeO.none _)
   | (with_reducible refine LeO.ite ?_ ?_)
   | (with_reducible refine LeO.bind ?_ (fun _ => ?_))
   | exact ih0 _ _ _ _ _
   | exact diff_Events.mono _ _ _
   | exact diff_Prefix.mono _ _ _
   | exact palletlaw23_live.mono _
   | exact LeO.none _
   | refine LeO.ite ?_ ?_
   | refine LeO.bind ?_ (fun _ => ?_)
def palletlaw23_DiffBack.T7 : Bool × List (List Nat × List Nat) := (true, [([], []), ([0], [0]), ([1], [1]), ([1], [1]), ([2, 3, 1, 1], [1, 2, 3]), ([1], [1]), ([5, 4, 1], [1, 5]), ([4, 6, 1], [1, 4, 6]), ([1, 7], [1, 7]), ([8, 6], [8]), ([9], [9]), ([10, 9, 9], [9, 10]), ([11, 11, 9], [9, 11]), ([9], [9]), ([12, 13, 9], [9, 12, 13]), ([9, 14], [9, 14]), ([15, 12], [15]), ([16], [16]), ([16], [16]), ([17, 18, 16, 16], [16, 17, 18]), ([16], [16]), ([16], [16]), ([20, 21, 19, 16], [16, 20, 21]), ([16], [16]), ([16], [16]), ([23, 24, 22, 16], [16, 23, 24]), ([22, 25, 16], [16, 22, 25]), ([19, 26, 16], [16, 19, 26]), ([16, 27], [16, 27]), ([28, 25, 0, 1, 2, 3, 4, 5, 6, 7, 8, 9, 10, 11, 12, 13, 14, 15, 16, 17, 18, 19, 20, 21, 22, 23, 24, 25, 26, 27, 28], [28])])
def palletlaw23_DiffBack.B7 : List Nat := [0, 1, 3, 3, 15, 3, 63, 127, 255, 511, 1023, 2047, 4095, 1023, 16383, 32767, 65535, 131071, 131071, 524287, 131071, 131071, 4194303, 131071, 131071, 33554431, 67108863, 134217727, 268435455, 536870911]
theorem palletlaw23_DiffBack.tab7 : rtab .any (opsOf Try.f6 7) = palletlaw23_DiffBack.T7 := by kernel_rfl
theorem palletlaw23_DiffBack.bits7 : waitsOk palletlaw23_DiffBack.T7.2 palletlaw23_DiffBack.B7 = true := by kernel_rfl
set_option maxHeartbeats 8000000 in
set_option maxRecDepth 100000 in
theorem palletlaw23_DiffBack.calls (k : Nat) (A0 : Option Addr) (c0 : Nat) (l0 : List (S25)) (A1 : Option Addr) (c1 : Nat) (l1 : List (S25)) (A2 : Option Addr) (c2 : Nat) (l2 : List (S25)) (r : Bool) (w : World) (hr0 : Kd.C k25 w A0 l0.length l0) (hc0 : l0.length ≤ c0) (hr1 : Kd.C k25 w A1 l1.length l1) (hc1 : l1.length ≤ c1) (hr2 : Kd.C k25 w A2 l2.length l2) (hc2 : l2.length ≤ c2) (hr_ : Aside0 (r = true)) (h : palletlaw23_DiffBack.f k l0 l1 l2 = some r) :
  Calls Try.prog 6 #[.slice A0 l0.length c0, .slice A1 l1.length c1, .slice A2 l2.length c2] w fun e w' => e = .returned (.bool r) ∧ Below w.heap.size w w' := by
 have hu27 := Try.underlying27
 have HR0 := Aside0.mk hr0
 have HC0 := Aside0.mk hc0
 clear hr0 hc0
 have HR1 := Aside0.mk hr1
 have HC1 := Aside0.mk hc1
 clear hr1 hc1
 have HR2 := Aside0.mk hr2
 have HC2 := Aside0.mk hc2
 clear hr2 hc2
 have HB := Aside0.mk (Below.refl w.heap.size w)
 have H : ((palletlaw23_live.f k).bind fun t293 => (if t293 = true then (if (l0.length : Int) > 300 then (palletlaw23_DiffBack.j0 k l0 l1 l2 t293 true) else (if (l1.length : Int) > 300 then (palletlaw23_DiffBack.j0 k l0 l1 l2 t293 true) else (palletlaw23_DiffBack.j0 k l0 l1 l2 t293 (decide ((l2.length : Int) > 300))))) else (some false))) = some r := h
 clear h
 replace H := Option.bind_eq_some_iff.mp H
 obtain ⟨t293, A40, H⟩ := H
 replace H : (if t293 = true then (if (l0.length : Int) > 300 then (palletlaw23_DiffBack.j0 k l0 l1 l2 t293 true) else (if (l1.length : Int) > 300 then (palletlaw23_DiffBack.j0 k l0 l1 l2 t293 true) else (palletlaw23_DiffBack.j0 k l0 l1 l2 t293 (decide ((l2.length : Int) > 300))))) else (some false)) = some r := H
 have A4 := Aside0.mk A40
 clear A40
 by_cases c5 : t293 = true
 ·subst c5
  have H1 : (if (l0.length : Int) > 300 then (palletlaw23_DiffBack.j0 k l0 l1 l2 true true) else (if (l1.length : Int) > 300 then (palletlaw23_DiffBack.j0 k l0 l1 l2 true true) else (palletlaw23_DiffBack.j0 k l0 l1 l2 true (decide ((l2.length : Int) > 300))))) = some r := by rw [if_pos rfl] at H; exact H
  clear H
  have H := H1
  clear H1
  have HC6 := Aside0.mk H
  clear H
  go_enter Try.func6, Try.ntmps6
  go_upto_region 4 with (first | ((with_reducible refine gate_callee (f := 7) rfl ?_); refine goesL_ (some 9) rfl rfl Try.func7 (by kernel_rfl) rfl #[] rfl (by (try simp only [List.map_toArray, List.map_cons, List.map_nil]); first | done | rfl | (simp only [List.length_drop, List.length_take]; rfl)) ?_; (with_reducible refine (palletlaw23_live.calls k  true _ A4.out).mono ?_); rintro e w7 ⟨rfl, hb⟩; refine ⟨_, rfl, ?_⟩; have n0_ := Aside0.mk (below_step (by repeat (first | (with_reducible first | exact HB.out | apply below_alloc | apply pw_below_drewN | apply below_drew1) | exact HB.out)) hb); clear HB; have HB := n0_; clear n0_; (try clear hb); (try clear hb2); (try clear hk); (try clear hi)))
  (try simp only [Act.put, List.setIfInBounds_toArray, List.set_cons_zero, List.set_cons_succ])
  go_cut [24] (fun v24 wc => ∃ (kq : Nat) (x24_5 : Bool), v24 = .bool x24_5 ∧ Aside0 (palletlaw23_DiffBack.j0 kq l0 l1 l2 true x24_5 = some r) ∧ Aside0 (kq ≤ k) ∧ Aside0 (Below w.heap.size w wc))
  case first =>
   have H := HC6.out
   clear HC6
   by_cases c8 : (l0.length : Int) > 300
   ·rw [if_pos c8] at H
    have c8b0 : decide (300 < (l0.length : Int)) = true := decide_eq_true c8
    have c8b1 : decide (300 < l0.length) = true := decide_eq_true (by omega)
    clear c8
    (first | rw [c8b0] | (simp only [i64_w, i32_w]; rw [c8b0]) | skip)
    have H' := Aside0.mk H
    clear H
    go_wp2
    go_meet
    case rel => exact ⟨_, (true), (by first | rfl | (simp; done) | (simp [*]; done)), H', ⟨by first | omega | exact Nat.le_refl _⟩, ⟨by repeat (first | (with_reducible first | exact HB.out | apply below_alloc | apply pw_below_drewN | apply below_drew1) | exact HB.out)⟩⟩
   ·rw [if_neg c8] at H
    have c8b0 : decide (300 < (l0.length : Int)) = false := decide_eq_false c8
    have c8b1 : decide (300 < l0.length) = false := decide_eq_false (by omega)
    clear c8
    (first | rw [c8b0] | (simp only [i64_w, i32_w]; rw [c8b0]) | skip)
    by_cases c9 : (l1.length : Int) > 300
    ·rw [if_pos c9] at H
     have c9b0 : decide (300 < (l1.length : Int)) = true := decide_eq_true c9
     have c9b1 : decide (300 < l1.length) = true := decide_eq_true (by omega)
     clear c9
     have H' := Aside0.mk H
     clear H
     go_wp2
     go_meet
     case rel => exact ⟨_, (true), (by first | rfl | (simp; done) | (simp [*]; done)), H', ⟨by first | omega | exact Nat.le_refl _⟩, ⟨by repeat (first | (with_reducible first | exact HB.out | apply below_alloc | apply pw_below_drewN | apply below_drew1) | exact HB.out)⟩⟩
    ·rw [if_neg c9] at H
     have c9b0 : decide (300 < (l1.length : Int)) = false := decide_eq_false c9
     have c9b1 : decide (300 < l1.length) = false := decide_eq_false (by omega)
     clear c9
     have H' := Aside0.mk H
     clear H
     go_wp2
     go_meet
     case rel => exact ⟨_, (decide ((l2.length : Int) > 300)), (by first | rfl | (simp; done) | (simp [*]; done)), H', ⟨by first | omega | exact Nat.le_refl _⟩, ⟨by repeat (first | (with_reducible first | exact HB.out | apply below_alloc | apply pw_below_drewN | apply below_drew1) | exact HB.out)⟩⟩
  case rest =>
   clear HC6
   try clear c1
   try clear c2
   try clear p2
   try clear c5
   try clear c6
   try clear c7
   try clear c8
   try clear c8b0
   try clear c8b1
   try clear c9
   try clear c9b0
   try clear c9b1
   obtain ⟨kq, x24_5, rfl, HA, HJ5, HB⟩ := hcut
   cases kq with
   | zero => exact absurd HA.out (by simp [palletlaw23_DiffBack.j0])
   | succ kj5 =>
    have H := HA.out
    clear HA
    simp only [palletlaw23_DiffBack.j0] at H
    by_cases c10 : x24_5 = true
    ·subst c10
     have H1 : (some true) = some r := by rw [if_pos rfl] at H; exact H
     clear H
     have H := H1
     clear H1
     obtain rfl := Option.some.inj H
     go_wp2
     go_ret
     exact ⟨by first | rfl | (simp [errW_none, errW_some] <;> rfl) | (simp [*, errW_none, errW_some] <;> rfl), by repeat (first | (with_reducible first | exact HB.out | apply below_alloc | apply pw_below_drewN | apply below_drew1) | exact HB.out)⟩
    ·replace c10 := Bool.eq_false_iff.mpr c10
     subst c10
     have H1 : ((diff_Events.f kj5 l0 l1).bind fun bt294 => (if true = true then ((diff_Events.f kj5 l1 l0).bind fun bt307 => ((diff_Back.f bt294.1 bt294.2.1 bt294.2.2.1 bt294.2.2.2.1 bt294.2.2.2.2.1 bt294.2.2.2.2.2.1 bt294.2.2.2.2.2.2.1 bt294.2.2.2.2.2.2.2.1 bt294.2.2.2.2.2.2.2.2.1 bt294.2.2.2.2.2.2.2.2.2.1 bt294.2.2.2.2.2.2.2.2.2.2.1 bt294.2.2.2.2.2.2.2.2.2.2.2).bind fun bt319 => (if (bt307.1 == bt319.1 && (bt307.2.1 == bt319.2.1 && ((bt307.2.2.1 == bt319.2.2.1 && (bt307.2.2.2.1 == bt319.2.2.2.1 && (bt307.2.2.2.2.1 == bt319.2.2.2.2.1 && (bt307.2.2.2.2.2.1 == bt319.2.2.2.2.2.1 && (bt307.2.2.2.2.2.2.1 == bt319.2.2.2.2.2.2.1))))) && ((bt307.2.2.2.2.2.2.2.1 == bt319.2.2.2.2.2.2.2.1 && (bt307.2.2.2.2.2.2.2.2.1 == bt319.2.2.2.2.2.2.2.2.1 && (bt307.2.2.2.2.2.2.2.2.2.1 == bt319.2.2.2.2.2.2.2.2.2.1 && (bt307.2.2.2.2.2.2.2.2.2.2.1 == bt319.2.2.2.2.2.2.2.2.2.2.1 && (bt307.2.2.2.2.2.2.2.2.2.2.2 == bt319.2.2.2.2.2.2.2.2.2.2.2))))))))) = true then ((diff_Back.f bt294.1 bt294.2.1 bt294.2.2.1 bt294.2.2.2.1 bt294.2.2.2.2.1 bt294.2.2.2.2.2.1 bt294.2.2.2.2.2.2.1 bt294.2.2.2.2.2.2.2.1 bt294.2.2.2.2.2.2.2.2.1 bt294.2.2.2.2.2.2.2.2.2.1 bt294.2.2.2.2.2.2.2.2.2.2.1 bt294.2.2.2.2.2.2.2.2.2.2.2).bind fun bt331 => ((diff_Back.f bt331.1 bt331.2.1 bt331.2.2.1 bt331.2.2.2.1 bt331.2.2.2.2.1 bt331.2.2.2.2.2.1 bt331.2.2.2.2.2.2.1 bt331.2.2.2.2.2.2.2.1 bt331.2.2.2.2.2.2.2.2.1 bt331.2.2.2.2.2.2.2.2.2.1 bt331.2.2.2.2.2.2.2.2.2.2.1 bt331.2.2.2.2.2.2.2.2.2.2.2).bind fun bt343 => (if (bt343.1 == bt294.1 && (bt343.2.1 == bt294.2.1 && ((bt343.2.2.1 == bt294.2.2.1 && (bt343.2.2.2.1 == bt294.2.2.2.1 && (bt343.2.2.2.2.1 == bt294.2.2.2.2.1 && (bt343.2.2.2.2.2.1 == bt294.2.2.2.2.2.1 && (bt343.2.2.2.2.2.2.1 == bt294.2.2.2.2.2.2.1))))) && ((bt343.2.2.2.2.2.2.2.1 == bt294.2.2.2.2.2.2.2.1 && (bt343.2.2.2.2.2.2.2.2.1 == bt294.2.2.2.2.2.2.2.2.1 && (bt343.2.2.2.2.2.2.2.2.2.1 == bt294.2.2.2.2.2.2.2.2.2.1 && (bt343.2.2.2.2.2.2.2.2.2.2.1 == bt294.2.2.2.2.2.2.2.2.2.2.1 && (bt343.2.2.2.2.2.2.2.2.2.2.2 == bt294.2.2.2.2.2.2.2.2.2.2.2))))))))) = true then ((diff_Prefix.f kj5 l0 l2).bind fun t355 => ((diff_Prefix.f kj5 l0 l1).bind fun t356 => ((diff_Prefix.f kj5 l1 l2).bind fun t357 => (some (decide (t355 ≥ (mn t356 t357))))))) else (some false)))) else (some false)))) else (some false))) = some r := by rw [if_neg (show ¬ (false = true) by decide)] at H; exact H
     clear H
     have H := H1
     clear H1
     replace H := Option.bind_eq_some_iff.mp H
     obtain ⟨⟨t294, t295, t296, t297, t298, t299, t300, t301, t302, t303, t304, t305⟩, A110, H⟩ := H
     replace H : (if true = true then ((diff_Events.f kj5 l1 l0).bind fun bt307 => ((diff_Back.f t294 t295 t296 t297 t298 t299 t300 t301 t302 t303 t304 t305).bind fun bt319 => (if (bt307.1 == bt319.1 && (bt307.2.1 == bt319.2.1 && ((bt307.2.2.1 == bt319.2.2.1 && (bt307.2.2.2.1 == bt319.2.2.2.1 && (bt307.2.2.2.2.1 == bt319.2.2.2.2.1 && (bt307.2.2.2.2.2.1 == bt319.2.2.2.2.2.1 && (bt307.2.2.2.2.2.2.1 == bt319.2.2.2.2.2.2.1))))) && ((bt307.2.2.2.2.2.2.2.1 == bt319.2.2.2.2.2.2.2.1 && (bt307.2.2.2.2.2.2.2.2.1 == bt319.2.2.2.2.2.2.2.2.1 && (bt307.2.2.2.2.2.2.2.2.2.1 == bt319.2.2.2.2.2.2.2.2.2.1 && (bt307.2.2.2.2.2.2.2.2.2.2.1 == bt319.2.2.2.2.2.2.2.2.2.2.1 && (bt307.2.2.2.2.2.2.2.2.2.2.2 == bt319.2.2.2.2.2.2.2.2.2.2.2))))))))) = true then ((diff_Back.f t294 t295 t296 t297 t298 t299 t300 t301 t302 t303 t304 t305).bind fun bt331 => ((diff_Back.f bt331.1 bt331.2.1 bt331.2.2.1 bt331.2.2.2.1 bt331.2.2.2.2.1 bt331.2.2.2.2.2.1 bt331.2.2.2.2.2.2.1 bt331.2.2.2.2.2.2.2.1 bt331.2.2.2.2.2.2.2.2.1 bt331.2.2.2.2.2.2.2.2.2.1 bt331.2.2.2.2.2.2.2.2.2.2.1 bt331.2.2.2.2.2.2.2.2.2.2.2).bind fun bt343 => (if (bt343.1 == t294 && (bt343.2.1 == t295 && ((bt343.2.2.1 == t296 && (bt343.2.2.2.1 == t297 && (bt343.2.2.2.2.1 == t298 && (bt343.2.2.2.2.2.1 == t299 && (bt343.2.2.2.2.2.2.1 == t300))))) && ((bt343.2.2.2.2.2.2.2.1 == t301 && (bt343.2.2.2.2.2.2.2.2.1 == t302 && (bt343.2.2.2.2.2.2.2.2.2.1 == t303 && (bt343.2.2.2.2.2.2.2.2.2.2.1 == t304 && (bt343.2.2.2.2.2.2.2.2.2.2.2 == t305))))))))) = true then ((diff_Prefix.f kj5 l0 l2).bind fun t355 => ((diff_Prefix.f kj5 l0 l1).bind fun t356 => ((diff_Prefix.f kj5 l1 l2).bind fun t357 => (some (decide (t355 ≥ (mn t356 t357))))))) else (some false)))) else (some false)))) else (some false)) = some r := H
     have A11 := Aside0.mk A110
     clear A110
     have H1 : ((diff_Events.f kj5 l1 l0).bind fun bt307 => ((diff_Back.f t294 t295 t296 t297 t298 t299 t300 t301 t302 t303 t304 t305).bind fun bt319 => (if (bt307.1 == bt319.1 && (bt307.2.1 == bt319.2.1 && ((bt307.2.2.1 == bt319.2.2.1 && (bt307.2.2.2.1 == bt319.2.2.2.1 && (bt307.2.2.2.2.1 == bt319.2.2.2.2.1 && (bt307.2.2.2.2.2.1 == bt319.2.2.2.2.2.1 && (bt307.2.2.2.2.2.2.1 == bt319.2.2.2.2.2.2.1))))) && ((bt307.2.2.2.2.2.2.2.1 == bt319.2.2.2.2.2.2.2.1 && (bt307.2.2.2.2.2.2.2.2.1 == bt319.2.2.2.2.2.2.2.2.1 && (bt307.2.2.2.2.2.2.2.2.2.1 == bt319.2.2.2.2.2.2.2.2.2.1 && (bt307.2.2.2.2.2.2.2.2.2.2.1 == bt319.2.2.2.2.2.2.2.2.2.2.1 && (bt307.2.2.2.2.2.2.2.2.2.2.2 == bt319.2.2.2.2.2.2.2.2.2.2.2))))))))) = true then ((diff_Back.f t294 t295 t296 t297 t298 t299 t300 t301 t302 t303 t304 t305).bind fun bt331 => ((diff_Back.f bt331.1 bt331.2.1 bt331.2.2.1 bt331.2.2.2.1 bt331.2.2.2.2.1 bt331.2.2.2.2.2.1 bt331.2.2.2.2.2.2.1 bt331.2.2.2.2.2.2.2.1 bt331.2.2.2.2.2.2.2.2.1 bt331.2.2.2.2.2.2.2.2.2.1 bt331.2.2.2.2.2.2.2.2.2.2.1 bt331.2.2.2.2.2.2.2.2.2.2.2).bind fun bt343 => (if (bt343.1 == t294 && (bt343.2.1 == t295 && ((bt343.2.2.1 == t296 && (bt343.2.2.2.1 == t297 && (bt343.2.2.2.2.1 == t298 && (bt343.2.2.2.2.2.1 == t299 && (bt343.2.2.2.2.2.2.1 == t300))))) && ((bt343.2.2.2.2.2.2.2.1 == t301 && (bt343.2.2.2.2.2.2.2.2.1 == t302 && (bt343.2.2.2.2.2.2.2.2.2.1 == t303 && (bt343.2.2.2.2.2.2.2.2.2.2.1 == t304 && (bt343.2.2.2.2.2.2.2.2.2.2.2 == t305))))))))) = true then ((diff_Prefix.f kj5 l0 l2).bind fun t355 => ((diff_Prefix.f kj5 l0 l1).bind fun t356 => ((diff_Prefix.f kj5 l1 l2).bind fun t357 => (some (decide (t355 ≥ (mn t356 t357))))))) else (some false)))) else (some false)))) = some r := by first | (rw [if_pos rfl] at H; exact H) | exact H
     clear H
     have H := H1
     clear H1
     replace H := Option.bind_eq_some_iff.mp H
     obtain ⟨⟨t307, t308, t309, t310, t311, t312, t313, t314, t315, t316, t317, t318⟩, A120, H⟩ := H
     replace H : ((diff_Back.f t294 t295 t296 t297 t298 t299 t300 t301 t302 t303 t304 t305).bind fun bt319 => (if (t307 == bt319.1 && (t308 == bt319.2.1 && ((t309 == bt319.2.2.1 && (t310 == bt319.2.2.2.1 && (t311 == bt319.2.2.2.2.1 && (t312 == bt319.2.2.2.2.2.1 && (t313 == bt319.2.2.2.2.2.2.1))))) && ((t314 == bt319.2.2.2.2.2.2.2.1 && (t315 == bt319.2.2.2.2.2.2.2.2.1 && (t316 == bt319.2.2.2.2.2.2.2.2.2.1 && (t317 == bt319.2.2.2.2.2.2.2.2.2.2.1 && (t318 == bt319.2.2.2.2.2.2.2.2.2.2.2))))))))) = true then ((diff_Back.f t294 t295 t296 t297 t298 t299 t300 t301 t302 t303 t304 t305).bind fun bt331 => ((diff_Back.f bt331.1 bt331.2.1 bt331.2.2.1 bt331.2.2.2.1 bt331.2.2.2.2.1 bt331.2.2.2.2.2.1 bt331.2.2.2.2.2.2.1 bt331.2.2.2.2.2.2.2.1 bt331.2.2.2.2.2.2.2.2.1 bt331.2.2.2.2.2.2.2.2.2.1 bt331.2.2.2.2.2.2.2.2.2.2.1 bt331.2.2.2.2.2.2.2.2.2.2.2).bind fun bt343 => (if (bt343.1 == t294 && (bt343.2.1 == t295 && ((bt343.2.2.1 == t296 && (bt343.2.2.2.1 == t297 && (bt343.2.2.2.2.1 == t298 && (bt343.2.2.2.2.2.1 == t299 && (bt343.2.2.2.2.2.2.1 == t300))))) && ((bt343.2.2.2.2.2.2.2.1 == t301 && (bt343.2.2.2.2.2.2.2.2.1 == t302 && (bt343.2.2.2.2.2.2.2.2.2.1 == t303 && (bt343.2.2.2.2.2.2.2.2.2.2.1 == t304 && (bt343.2.2.2.2.2.2.2.2.2.2.2 == t305))))))))) = true then ((diff_Prefix.f kj5 l0 l2).bind fun t355 => ((diff_Prefix.f kj5 l0 l1).bind fun t356 => ((diff_Prefix.f kj5 l1 l2).bind fun t357 => (some (decide (t355 ≥ (mn t356 t357))))))) else (some false)))) else (some false))) = some r := H
     have A12 := Aside0.mk A120
     clear A120
     replace H := Option.bind_eq_some_iff.mp H
     obtain ⟨⟨t319, t320, t321, t322, t323, t324, t325, t326, t327, t328, t329, t330⟩, A130, H⟩ := H
     replace H : (if (t307 == t319 && (t308 == t320 && ((t309 == t321 && (t310 == t322 && (t311 == t323 && (t312 == t324 && (t313 == t325))))) && ((t314 == t326 && (t315 == t327 && (t316 == t328 && (t317 == t329 && (t318 == t330))))))))) = true then ((diff_Back.f t294 t295 t296 t297 t298 t299 t300 t301 t302 t303 t304 t305).bind fun bt331 => ((diff_Back.f bt331.1 bt331.2.1 bt331.2.2.1 bt331.2.2.2.1 bt331.2.2.2.2.1 bt331.2.2.2.2.2.1 bt331.2.2.2.2.2.2.1 bt331.2.2.2.2.2.2.2.1 bt331.2.2.2.2.2.2.2.2.1 bt331.2.2.2.2.2.2.2.2.2.1 bt331.2.2.2.2.2.2.2.2.2.2.1 bt331.2.2.2.2.2.2.2.2.2.2.2).bind fun bt343 => (if (bt343.1 == t294 && (bt343.2.1 == t295 && ((bt343.2.2.1 == t296 && (bt343.2.2.2.1 == t297 && (bt343.2.2.2.2.1 == t298 && (bt343.2.2.2.2.2.1 == t299 && (bt343.2.2.2.2.2.2.1 == t300))))) && ((bt343.2.2.2.2.2.2.2.1 == t301 && (bt343.2.2.2.2.2.2.2.2.1 == t302 && (bt343.2.2.2.2.2.2.2.2.2.1 == t303 && (bt343.2.2.2.2.2.2.2.2.2.2.1 == t304 && (bt343.2.2.2.2.2.2.2.2.2.2.2 == t305))))))))) = true then ((diff_Prefix.f kj5 l0 l2).bind fun t355 => ((diff_Prefix.f kj5 l0 l1).bind fun t356 => ((diff_Prefix.f kj5 l1 l2).bind fun t357 => (some (decide (t355 ≥ (mn t356 t357))))))) else (some false)))) else (some false)) = some r := H
     have A13 := Aside0.mk A130
     clear A130
     by_cases c14 : (t307 == t319 && (t308 == t320 && ((t309 == t321 && (t310 == t322 && (t311 == t323 && (t312 == t324 && (t313 == t325))))) && ((t314 == t326 && (t315 == t327 && (t316 == t328 && (t317 == t329 && (t318 == t330))))))))) = true
     ·rw [if_pos c14] at H
      have c14b0 : (t307 == t319 && (t308 == t320 && ((t309 == t321 && (t310 == t322 && (t311 == t323 && (t312 == t324 && (t313 == t325))))) && ((t314 == t326 && (t315 == t327 && (t316 == t328 && (t317 == t329 && (t318 == t330))))))))) = true := c14
      (try (have c14b1 : decide (t307 = t319 && (t308 == t320 && ((t309 == t321 && (t310 == t322 && (t311 == t323 && (t312 == t324 && (t313 == t325))))) && ((t314 == t326 && (t315 == t327 && (t316 == t328 && (t317 == t329 && (t318 == t330))))))))) = true := by simpa using c14))
      (try (have c14b2 : (t307 == t319 && (t308 == t320 && ((t309 == t321 && (t310 == t322 && (t311 == t323 && (t312 == t324 && (t313 == t325))))) && ((t314 == t326 && (t315 == t327 && (t316 == t328 && (t317 == t329 && (t318 == t330))))))))) = true := by simpa using c14))
      clear c14
      replace H := Option.bind_eq_some_iff.mp H
      obtain ⟨⟨t331, t332, t333, t334, t335, t336, t337, t338, t339, t340, t341, t342⟩, A150, H⟩ := H
      replace H : ((diff_Back.f t331 t332 t333 t334 t335 t336 t337 t338 t339 t340 t341 t342).bind fun bt343 => (if (bt343.1 == t294 && (bt343.2.1 == t295 && ((bt343.2.2.1 == t296 && (bt343.2.2.2.1 == t297 && (bt343.2.2.2.2.1 == t298 && (bt343.2.2.2.2.2.1 == t299 && (bt343.2.2.2.2.2.2.1 == t300))))) && ((bt343.2.2.2.2.2.2.2.1 == t301 && (bt343.2.2.2.2.2.2.2.2.1 == t302 && (bt343.2.2.2.2.2.2.2.2.2.1 == t303 && (bt343.2.2.2.2.2.2.2.2.2.2.1 == t304 && (bt343.2.2.2.2.2.2.2.2.2.2.2 == t305))))))))) = true then ((diff_Prefix.f kj5 l0 l2).bind fun t355 => ((diff_Prefix.f kj5 l0 l1).bind fun t356 => ((diff_Prefix.f kj5 l1 l2).bind fun t357 => (some (decide (t355 ≥ (mn t356 t357))))))) else (some false))) = some r := H
      have A15 := Aside0.mk A150
      clear A150
      replace H := Option.bind_eq_some_iff.mp H
      obtain ⟨⟨t343, t344, t345, t346, t347, t348, t349, t350, t351, t352, t353, t354⟩, A160, H⟩ := H
      replace H : (if (t343 == t294 && (t344 == t295 && ((t345 == t296 && (t346 == t297 && (t347 == t298 && (t348 == t299 && (t349 == t300))))) && ((t350 == t301 && (t351 == t302 && (t352 == t303 && (t353 == t304 && (t354 == t305))))))))) = true then ((diff_Prefix.f kj5 l0 l2).bind fun t355 => ((diff_Prefix.f kj5 l0 l1).bind fun t356 => ((diff_Prefix.f kj5 l1 l2).bind fun t357 => (some (decide (t355 ≥ (mn t356 t357))))))) else (some false)) = some r := H
      have A16 := Aside0.mk A160
      clear A160
      by_cases c17 : (t343 == t294 && (t344 == t295 && ((t345 == t296 && (t346 == t297 && (t347 == t298 && (t348 == t299 && (t349 == t300))))) && ((t350 == t301 && (t351 == t302 && (t352 == t303 && (t353 == t304 && (t354 == t305))))))))) = true
      ·rw [if_pos c17] at H
       have c17b0 : (t343 == t294 && (t344 == t295 && ((t345 == t296 && (t346 == t297 && (t347 == t298 && (t348 == t299 && (t349 == t300))))) && ((t350 == t301 && (t351 == t302 && (t352 == t303 && (t353 == t304 && (t354 == t305))))))))) = true := c17
       (try (have c17b1 : decide (t343 = t294 && (t344 == t295 && ((t345 == t296 && (t346 == t297 && (t347 == t298 && (t348 == t299 && (t349 == t300))))) && ((t350 == t301 && (t351 == t302 && (t352 == t303 && (t353 == t304 && (t354 == t305))))))))) = true := by simpa using c17))
       (try (have c17b2 : (t343 == t294 && (t344 == t295 && ((t345 == t296 && (t346 == t297 && (t347 == t298 && (t348 == t299 && (t349 == t300))))) && ((t350 == t301 && (t351 == t302 && (t352 == t303 && (t353 == t304 && (t354 == t305))))))))) = true := by simpa using c17))
       clear c17
       replace H := Option.bind_eq_some_iff.mp H
       obtain ⟨t355, A180, H⟩ := H
       replace H : ((diff_Prefix.f kj5 l0 l1).bind fun t356 => ((diff_Prefix.f kj5 l1 l2).bind fun t357 => (some (decide (t355 ≥ (mn t356 t357)))))) = some r := H
       have A18 := Aside0.mk A180
       clear A180
       replace H := Option.bind_eq_some_iff.mp H
       obtain ⟨t356, A190, H⟩ := H
       replace H : ((diff_Prefix.f kj5 l1 l2).bind fun t357 => (some (decide (t355 ≥ (mn t356 t357))))) = some r := H
       have A19 := Aside0.mk A190
       clear A190
       replace H := Option.bind_eq_some_iff.mp H
       obtain ⟨t357, A200, H⟩ := H
       replace H : (some (decide (t355 ≥ (mn t356 t357)))) = some r := H
       have A20 := Aside0.mk A200
       clear A200
       obtain ⟨ji21, hji21⟩ : ∃ j_ : Int, (mn t356 t357) = j_ := ⟨_, rfl⟩
       replace H : (some (decide (t355 ≥ (ji21)))) = some r := by first | (rw [hji21] at H; exact H) | (simp only [hji21] at H ⊢; exact H)
       (try rw [hji21] at A11)
       (try rw [hji21] at A12)
       (try rw [hji21] at A13)
       (try rw [hji21] at A15)
       (try rw [hji21] at A16)
       (try rw [hji21] at A18)
       (try rw [hji21] at A19)
       (try rw [hji21] at A20)
       have hji21_ : (if t357 < t356 then t357 else t356) = ji21 := hji21
       obtain rfl := Option.some.inj H
       try go_wp2_with (first | ((with_reducible refine gate_callee (f := 8) rfl ?_); refine goesL_ (some 28) rfl rfl Try.func8 (by kernel_rfl) rfl #[.slice A0 l0.length c0, .slice A1 l1.length c1] rfl (by (try simp only [List.map_toArray, List.map_cons, List.map_nil]); first | done | rfl | (simp only [List.length_drop, List.length_take]; rfl)) ?_; (with_reducible refine (diff_Events.calls kj5 _ _ l0 _ _ l1 t294 t295 t296 t297 t298 t299 t300 t301 t302 t303 t304 t305 _ ?side1 ?side2 ?side3 ?side4 A11.out).mono ?_); (case side1 => repeat (first | exact (Kd.C_below HR0.out HB.out) | (with_reducible refine Kd.C_alloc ?_ _) | (with_reducible refine Kd.C_drewN ?_ _) | (with_reducible refine Kd.C_drew ?_))); (case side2 => exact HC0.out); (case side3 => repeat (first | exact (Kd.C_below HR1.out HB.out) | (with_reducible refine Kd.C_alloc ?_ _) | (with_reducible refine Kd.C_drewN ?_ _) | (with_reducible refine Kd.C_drew ?_))); (case side4 => exact HC1.out); rintro e w22 ⟨rfl, hb⟩; refine ⟨_, rfl, ?_⟩; have n0_ := Aside0.mk (below_step (by repeat (first | (with_reducible first | exact HB.out | apply below_alloc | apply pw_below_drewN | apply below_drew1) | exact HB.out)) hb); clear HB; have HB := n0_; clear n0_; (try clear hb); (try clear hb2); (try clear hk); (try clear hi)) | ((with_reducible refine gate_dst (N := 8) rfl ?_); (try (refine gate_guard (by rfl) ?_; dsimp only)); refine box_event ?hg (N := 8) ?hd (cs := #[.int .i64 0, .int .i64 0, .int .i64 0, .int .i64 0, .int .i64 0, .int .i64 0, .int .i64 0, .int .i64 0, .int .i64 0, .int .i64 0, .int .i64 0, .int .i64 0]) (t := 27) ?hr ?_; (case hd => rfl); (case hg => rfl); (case hr => first | (go_simp; done) | (go_simp; rfl)); intro gb306 hg w23 hbox hb; have n0_ := Aside0.mk (below_step (by repeat (first | (with_reducible first | exact HB.out | apply below_alloc | apply pw_below_drewN | apply below_drew1) | exact HB.out)) hb); have n1_ := Aside0.mk (hbox); have n2_ := Aside0.mk ((by rw [hg]; exact (below_size (by repeat (first | (with_reducible first | exact HB.out | apply below_alloc | apply pw_below_drewN | apply below_drew1) | exact HB.out))) : w.heap.size ≤ gb306)); have n3_ := Aside0.mk ((by rw [hg]; exact (below_size (by repeat (first | (with_reducible first | exact HB.out | apply below_alloc | apply pw_below_drewN | apply below_drew1) | exact HB.out))) : w.heap.size ≤ gb306)); clear HB; have HB := n0_; have BK306 := n1_; have GW306 := n2_; have GE306 := n3_; clear n0_ n1_ n2_ n3_; clear hb hbox hg; have hcz24_0 : w23.cell? ⟨gb306, 0, none⟩ = some (.int .i64 0) := (blk_cell BK306.out 0).trans rfl; have hcz24_1 : w23.cell? ⟨gb306, 1, none⟩ = some (.int .i64 0) := (blk_cell BK306.out 1).trans rfl; have hcz24_2 : w23.cell? ⟨gb306, 2, none⟩ = some (.int .i64 0) := (blk_cell BK306.out 2).trans rfl; have hcz24_3 : w23.cell? ⟨gb306, 3, none⟩ = some (.int .i64 0) := (blk_cell BK306.out 3).trans rfl; have hcz24_4 : w23.cell? ⟨gb306, 4, none⟩ = some (.int .i64 0) := (blk_cell BK306.out 4).trans rfl; have hcz24_5 : w23.cell? ⟨gb306, 5, none⟩ = some (.int .i64 0) := (blk_cell BK306.out 5).trans rfl; have hcz24_6 : w23.cell? ⟨gb306, 6, none⟩ = some (.int .i64 0) := (blk_cell BK306.out 6).trans rfl; have hcz24_7 : w23.cell? ⟨gb306, 7, none⟩ = some (.int .i64 0) := (blk_cell BK306.out 7).trans rfl; have hcz24_8 : w23.cell? ⟨gb306, 8, none⟩ = some (.int .i64 0) := (blk_cell BK306.out 8).trans rfl; have hcz24_9 : w23.cell? ⟨gb306, 9, none⟩ = some (.int .i64 0) := (blk_cell BK306.out 9).trans rfl; have hcz24_10 : w23.cell? ⟨gb306, 10, none⟩ = some (.int .i64 0) := (blk_cell BK306.out 10).trans rfl; have hcz24_11 : w23.cell? ⟨gb306, 11, none⟩ = some (.int .i64 0) := (blk_cell BK306.out 11).trans rfl; have hfz24_0 := blk_frozen BK306.out 0; have hfz24_1 := blk_frozen BK306.out 1; have hfz24_2 := blk_frozen BK306.out 2; have hfz24_3 := blk_frozen BK306.out 3; have hfz24_4 := blk_frozen BK306.out 4; have hfz24_5 := blk_frozen BK306.out 5; have hfz24_6 := blk_frozen BK306.out 6; have hfz24_7 := blk_frozen BK306.out 7; have hfz24_8 := blk_frozen BK306.out 8; have hfz24_9 := blk_frozen BK306.out 9; have hfz24_10 := blk_frozen BK306.out 10; have hfz24_11 := blk_frozen BK306.out 11))
       have n0_ : Aside0 (((((((((((((w23.setCell ⟨gb306, 0, none⟩ (.int .i64 t294)).setCell ⟨gb306, 1, none⟩ (.int .i64 t295)).setCell ⟨gb306, 2, none⟩ (.int .i64 t296)).setCell ⟨gb306, 3, none⟩ (.int .i64 t297)).setCell ⟨gb306, 4, none⟩ (.int .i64 t298)).setCell ⟨gb306, 5, none⟩ (.int .i64 t299)).setCell ⟨gb306, 6, none⟩ (.int .i64 t300)).setCell ⟨gb306, 7, none⟩ (.int .i64 t301)).setCell ⟨gb306, 8, none⟩ (.int .i64 t302)).setCell ⟨gb306, 9, none⟩ (.int .i64 t303)).setCell ⟨gb306, 10, none⟩ (.int .i64 t304)).setCell ⟨gb306, 11, none⟩ (.int .i64 t305)).heap[gb306]? = some (.cells #[.int .i64 t294, .int .i64 t295, .int .i64 t296, .int .i64 t297, .int .i64 t298, .int .i64 t299, .int .i64 t300, .int .i64 t301, .int .i64 t302, .int .i64 t303, .int .i64 t304, .int .i64 t305] 27 (0, 0))) := ⟨by (with_reducible repeat (first | refine blk_drewN ?_ _ | refine blk_drew ?_ | refine blk_alloc ?_ _)); refine blk_put (cs := #[.int .i64 t294, .int .i64 t295, .int .i64 t296, .int .i64 t297, .int .i64 t298, .int .i64 t299, .int .i64 t300, .int .i64 t301, .int .i64 t302, .int .i64 t303, .int .i64 t304, .int .i64 0]) ?_ 11 _ rfl; (with_reducible repeat (first | refine blk_drewN ?_ _ | refine blk_drew ?_ | refine blk_alloc ?_ _)); refine blk_put (cs := #[.int .i64 t294, .int .i64 t295, .int .i64 t296, .int .i64 t297, .int .i64 t298, .int .i64 t299, .int .i64 t300, .int .i64 t301, .int .i64 t302, .int .i64 t303, .int .i64 0, .int .i64 0]) ?_ 10 _ rfl; (with_reducible repeat (first | refine blk_drewN ?_ _ | refine blk_drew ?_ | refine blk_alloc ?_ _)); refine blk_put (cs := #[.int .i64 t294, .int .i64 t295, .int .i64 t296, .int .i64 t297, .int .i64 t298, .int .i64 t299, .int .i64 t300, .int .i64 t301, .int .i64 t302, .int .i64 0, .int .i64 0, .int .i64 0]) ?_ 9 _ rfl; (with_reducible repeat (first | refine blk_drewN ?_ _ | refine blk_drew ?_ | refine blk_alloc ?_ _)); refine blk_put (cs := #[.int .i64 t294, .int .i64 t295, .int .i64 t296, .int .i64 t297, .int .i64 t298, .int .i64 t299, .int .i64 t300, .int .i64 t301, .int .i64 0, .int .i64 0, .int .i64 0, .int .i64 0]) ?_ 8 _ rfl; (with_reducible repeat (first | refine blk_drewN ?_ _ | refine blk_drew ?_ | refine blk_alloc ?_ _)); refine blk_put (cs := #[.int .i64 t294, .int .i64 t295, .int .i64 t296, .int .i64 t297, .int .i64 t298, .int .i64 t299, .int .i64 t300, .int .i64 0, .int .i64 0, .int .i64 0, .int .i64 0, .int .i64 0]) ?_ 7 _ rfl; (with_reducible repeat (first | refine blk_drewN ?_ _ | refine blk_drew ?_ | refine blk_alloc ?_ _)); refine blk_put (cs := #[.int .i64 t294, .int .i64 t295, .int .i64 t296, .int .i64 t297, .int .i64 t298, .int .i64 t299, .int .i64 0, .int .i64 0, .int .i64 0, .int .i64 0, .int .i64 0, .int .i64 0]) ?_ 6 _ rfl; (with_reducible repeat (first | refine blk_drewN ?_ _ | refine blk_drew ?_ | refine blk_alloc ?_ _)); refine blk_put (cs := #[.int .i64 t294, .int .i64 t295, .int .i64 t296, .int .i64 t297, .int .i64 t298, .int .i64 0, .int .i64 0, .int .i64 0, .int .i64 0, .int .i64 0, .int .i64 0, .int .i64 0]) ?_ 5 _ rfl; (with_reducible repeat (first | refine blk_drewN ?_ _ | refine blk_drew ?_ | refine blk_alloc ?_ _)); refine blk_put (cs := #[.int .i64 t294, .int .i64 t295, .int .i64 t296, .int .i64 t297, .int .i64 0, .int .i64 0, .int .i64 0, .int .i64 0, .int .i64 0, .int .i64 0, .int .i64 0, .int .i64 0]) ?_ 4 _ rfl; (with_reducible repeat (first | refine blk_drewN ?_ _ | refine blk_drew ?_ | refine blk_alloc ?_ _)); refine blk_put (cs := #[.int .i64 t294, .int .i64 t295, .int .i64 t296, .int .i64 0, .int .i64 0, .int .i64 0, .int .i64 0, .int .i64 0, .int .i64 0, .int .i64 0, .int .i64 0, .int .i64 0]) ?_ 3 _ rfl; (with_reducible repeat (first | refine blk_drewN ?_ _ | refine blk_drew ?_ | refine blk_alloc ?_ _)); refine blk_put (cs := #[.int .i64 t294, .int .i64 t295, .int .i64 0, .int .i64 0, .int .i64 0, .int .i64 0, .int .i64 0, .int .i64 0, .int .i64 0, .int .i64 0, .int .i64 0, .int .i64 0]) ?_ 2 _ rfl; (with_reducible repeat (first | refine blk_drewN ?_ _ | refine blk_drew ?_ | refine blk_alloc ?_ _)); refine blk_put (cs := #[.int .i64 t294, .int .i64 0, .int .i64 0, .int .i64 0, .int .i64 0, .int .i64 0, .int .i64 0, .int .i64 0, .int .i64 0, .int .i64 0, .int .i64 0, .int .i64 0]) ?_ 1 _ rfl; (with_reducible repeat (first | refine blk_drewN ?_ _ | refine blk_drew ?_ | refine blk_alloc ?_ _)); refine blk_put (cs := #[.int .i64 0, .int .i64 0, .int .i64 0, .int .i64 0, .int .i64 0, .int .i64 0, .int .i64 0, .int .i64 0, .int .i64 0, .int .i64 0, .int .i64 0, .int .i64 0]) ?_ 0 _ rfl; (with_reducible repeat (first | refine blk_drewN ?_ _ | refine blk_drew ?_ | refine blk_alloc ?_ _)); exact BK306.out⟩
       have n1_ : Aside0 (Below w.heap.size w ((((((((((((w23.setCell ⟨gb306, 0, none⟩ (.int .i64 t294)).setCell ⟨gb306, 1, none⟩ (.int .i64 t295)).setCell ⟨gb306, 2, none⟩ (.int .i64 t296)).setCell ⟨gb306, 3, none⟩ (.int .i64 t297)).setCell ⟨gb306, 4, none⟩ (.int .i64 t298)).setCell ⟨gb306, 5, none⟩ (.int .i64 t299)).setCell ⟨gb306, 6, none⟩ (.int .i64 t300)).setCell ⟨gb306, 7, none⟩ (.int .i64 t301)).setCell ⟨gb306, 8, none⟩ (.int .i64 t302)).setCell ⟨gb306, 9, none⟩ (.int .i64 t303)).setCell ⟨gb306, 10, none⟩ (.int .i64 t304)).setCell ⟨gb306, 11, none⟩ (.int .i64 t305))) := ⟨by repeat (first | (with_reducible first | exact HB.out | apply below_alloc | apply pw_below_drewN | apply below_drew1 | refine below_set ?_ GE306.out) | exact HB.out)⟩
       (try clear BK306)
       (try clear HB)
       generalize ((((((((((((w23.setCell ⟨gb306, 0, none⟩ (.int .i64 t294)).setCell ⟨gb306, 1, none⟩ (.int .i64 t295)).setCell ⟨gb306, 2, none⟩ (.int .i64 t296)).setCell ⟨gb306, 3, none⟩ (.int .i64 t297)).setCell ⟨gb306, 4, none⟩ (.int .i64 t298)).setCell ⟨gb306, 5, none⟩ (.int .i64 t299)).setCell ⟨gb306, 6, none⟩ (.int .i64 t300)).setCell ⟨gb306, 7, none⟩ (.int .i64 t301)).setCell ⟨gb306, 8, none⟩ (.int .i64 t302)).setCell ⟨gb306, 9, none⟩ (.int .i64 t303)).setCell ⟨gb306, 10, none⟩ (.int .i64 t304)).setCell ⟨gb306, 11, none⟩ (.int .i64 t305)) = w25 at n0_ n1_ ⊢
       have BK306 := n0_
       have HB := n1_
       clear n0_ n1_
       have n0_ := Aside0.mk (blk_drew BK306.out)
       have n1_ := Aside0.mk (below_drew1 HB.out)
       clear BK306
       clear HB
       have BK306 := n0_
       have HB := n1_
       clear n0_ n1_
       refine start_ (n := 30) (S := fun w' => w'.cell? ⟨gb306, 0, none⟩ = some (.int .i64 t294) ∧ w'.cell? ⟨gb306, 1, none⟩ = some (.int .i64 t295) ∧ w'.cell? ⟨gb306, 2, none⟩ = some (.int .i64 t296) ∧ w'.cell? ⟨gb306, 3, none⟩ = some (.int .i64 t297) ∧ w'.cell? ⟨gb306, 4, none⟩ = some (.int .i64 t298) ∧ w'.cell? ⟨gb306, 5, none⟩ = some (.int .i64 t299) ∧ w'.cell? ⟨gb306, 6, none⟩ = some (.int .i64 t300) ∧ w'.cell? ⟨gb306, 7, none⟩ = some (.int .i64 t301) ∧ w'.cell? ⟨gb306, 8, none⟩ = some (.int .i64 t302) ∧ w'.cell? ⟨gb306, 9, none⟩ = some (.int .i64 t303) ∧ w'.cell? ⟨gb306, 10, none⟩ = some (.int .i64 t304) ∧ w'.cell? ⟨gb306, 11, none⟩ = some (.int .i64 t305)) (ds := []) #[false, false, false, false, false, false, false, false, false, false, false, false, false, false, false, false, false, false, false, false, false, false, false, false, false, false, false, false, false, false] (by kernel_rfl) rfl rfl ⟨(blk_cell BK306.out 0).trans rfl, (blk_cell BK306.out 1).trans rfl, (blk_cell BK306.out 2).trans rfl, (blk_cell BK306.out 3).trans rfl, (blk_cell BK306.out 4).trans rfl, (blk_cell BK306.out 5).trans rfl, (blk_cell BK306.out 6).trans rfl, (blk_cell BK306.out 7).trans rfl, (blk_cell BK306.out 8).trans rfl, (blk_cell BK306.out 9).trans rfl, (blk_cell BK306.out 10).trans rfl, (blk_cell BK306.out 11).trans rfl⟩ (fun hHeld => ?_); refine with_tabW palletlaw23_DiffBack.tab7 palletlaw23_DiffBack.bits7 (fun HT_ HW_ => ?_)
       generalize w25.drew = w26 at BK306 HB hHeld ⊢
       refine pure_ (i := 0) (N := some 29) (v := ?_) (a' := ?_) #[true, false, false, false, false, false, false, false, false, false, false, false, false, false, false, false, false, false, false, false, false, false, false, false, false, false, false, false, false, false] rfl rfl (any_of HT_.out (by kernel_rfl)) (fun _ _ _ h => h) (Or.inl ⟨by rfl, ?_⟩) ?_ ?_
       rotate_left
       ·intro w'
        go_simp
        with_reducible rfl
       rotate_left
       ·simp only [Act.put, List.setIfInBounds_toArray, List.set_cons_zero, List.set_cons_succ, i64_w, i32_w]
        rfl
       refine pure_ (i := 1) (N := some 30) (v := ?_) (a' := ?_) #[true, true, false, false, false, false, false, false, false, false, false, false, false, false, false, false, false, false, false, false, false, false, false, false, false, false, false, false, false, false] rfl rfl (any_of HT_.out (by kernel_rfl)) (fun _ _ _ h => h) (Or.inl ⟨by rfl, ?_⟩) ?_ ?_
       rotate_left
       ·intro w'
        go_simp
        with_reducible rfl
       rotate_left
       ·simp only [Act.put, List.setIfInBounds_toArray, List.set_cons_zero, List.set_cons_succ, i64_w, i32_w]
        rfl
       refine pure_ (i := 2) (N := some 31) (v := ?_) (a' := ?_) #[true, true, true, false, false, false, false, false, false, false, false, false, false, false, false, false, false, false, false, false, false, false, false, false, false, false, false, false, false, false] rfl rfl (any_of HT_.out (by kernel_rfl)) (fun _ _ _ h => h) (Or.inl ⟨by rfl, ?_⟩) ?_ ?_
       rotate_left
       ·intro w'
        go_simp
        with_reducible rfl
       rotate_left
       ·simp only [Act.put, List.setIfInBounds_toArray, List.set_cons_zero, List.set_cons_succ, i64_w, i32_w]
        rfl
       refine pure_ (i := 3) (N := some 32) (v := ?_) (a' := ?_) #[true, true, true, true, false, false, false, false, false, false, false, false, false, false, false, false, false, false, false, false, false, false, false, false, false, false, false, false, false, false] rfl rfl (any_of HT_.out (by kernel_rfl)) (fun _ _ _ h => h) (Or.inl ⟨by rfl, ?_⟩) ?_ ?_
       rotate_left
       ·intro w'
        go_simp
        with_reducible rfl
       rotate_left
       ·simp only [Act.put, List.setIfInBounds_toArray, List.set_cons_zero, List.set_cons_succ, i64_w, i32_w]
        rfl
       refine take_ (i := 5) (N := some 34) (v := ?_) (a' := ?_) #[true, true, true, true, false, true, false, false, false, false, false, false, false, false, false, false, false, false, false, false, false, false, false, false, false, false, false, false, false, false] rfl rfl (take_ofW HT_.out HW_.out (by kernel_rfl)) (fun _ _ _ h => h) (Or.inl ⟨by rfl, ?_⟩) hHeld ?_ ?_
       rotate_left
       ·rintro w' ⟨s0, s1, s2, s3, s4, s5, s6, s7, s8, s9, s10, s11⟩
        go_simp
        with_reducible rfl
       rotate_left
       ·simp only [Act.put, List.setIfInBounds_toArray, List.set_cons_zero, List.set_cons_succ, i64_w, i32_w]
        rfl
       refine one_ (i := 4) (N := some 33) #[true, true, true, true, true, true, false, false, false, false, false, false, false, false, false, false, false, false, false, false, false, false, false, false, false, false, false, false, false, false] rfl rfl (one_of HT_.out (by kernel_rfl)) (by decide) (fun K hK => ?_)
       refine goes_ Try.func8 (by kernel_rfl) rfl #[.slice A1 l1.length c1, .slice A0 l0.length c0] (by rfl) rfl rfl (by (try simp only [List.map_toArray, List.map_cons, List.map_nil]); first | done | rfl | (simp only [List.length_drop, List.length_take]; rfl)) ?_
       with_reducible refine (diff_Events.calls kj5 _ _ l1 _ _ l0 t307 t308 t309 t310 t311 t312 t313 t314 t315 t316 t317 t318 _ ?side1 ?side2 ?side3 ?side4 A12.out).mono ?_
       (case side1 => repeat (first | exact (Kd.C_below HR1.out HB.out) | (with_reducible refine Kd.C_alloc ?_ _) | (with_reducible refine Kd.C_drewN ?_ _) | (with_reducible refine Kd.C_drew ?_)))
       (case side2 => exact HC1.out)
       (case side3 => repeat (first | exact (Kd.C_below HR0.out HB.out) | (with_reducible refine Kd.C_alloc ?_ _) | (with_reducible refine Kd.C_drewN ?_ _) | (with_reducible refine Kd.C_drew ?_)))
       (case side4 => exact HC0.out)
       rintro e w27 ⟨rfl, hb⟩
       refine ⟨_, rfl, ?_⟩
       have n0_ := Aside0.mk (blk_below (g := gb306) (o := .cells #[.int .i64 t294, .int .i64 t295, .int .i64 t296, .int .i64 t297, .int .i64 t298, .int .i64 t299, .int .i64 t300, .int .i64 t301, .int .i64 t302, .int .i64 t303, .int .i64 t304, .int .i64 t305] 27 (0, 0)) (by (with_reducible repeat (first | refine blk_drewN ?_ _ | refine blk_drew ?_ | refine blk_alloc ?_ _)); exact BK306.out) hb)
       have n1_ := Aside0.mk (below_step (by repeat (first | (with_reducible first | exact HB.out | apply below_alloc | apply pw_below_drewN | apply below_drew1 | refine below_set ?_ GE306.out) | exact HB.out)) hb)
       clear BK306
       clear HB
       have BK306 := n0_
       have HB := n1_
       clear n0_ n1_
       (try clear hb)
       (try clear hb2)
       (try clear hk)
       (try clear hi)
       refine hK.out _ _ ⟨(blk_cell BK306.out 0).trans rfl, (blk_cell BK306.out 1).trans rfl, (blk_cell BK306.out 2).trans rfl, (blk_cell BK306.out 3).trans rfl, (blk_cell BK306.out 4).trans rfl, (blk_cell BK306.out 5).trans rfl, (blk_cell BK306.out 6).trans rfl, (blk_cell BK306.out 7).trans rfl, (blk_cell BK306.out 8).trans rfl, (blk_cell BK306.out 9).trans rfl, (blk_cell BK306.out 10).trans rfl, (blk_cell BK306.out 11).trans rfl⟩ (fun hHeld => ?_)
       clear hK K
       refine norm_ (a' := ?_) ?_ ?_
       rotate_left
       ·show Act.put _ (some 33) _ = _
        simp only [Act.put, List.setIfInBounds_toArray, List.set_cons_zero, List.set_cons_succ, i64_w, i32_w]
        rfl
       refine one_ (i := 6) (N := some 35) #[true, true, true, true, true, true, true, false, false, false, false, false, false, false, false, false, false, false, false, false, false, false, false, false, false, false, false, false, false, false] rfl rfl (one_of HT_.out (by kernel_rfl)) (by decide) (fun K hK => ?_)
       refine goes_ Try.func12 (by kernel_rfl) rfl #[.agg #[.int .i64 t294, .int .i64 t295, .int .i64 t296, .int .i64 t297, .int .i64 t298, .int .i64 t299, .int .i64 t300, .int .i64 t301, .int .i64 t302, .int .i64 t303, .int .i64 t304, .int .i64 t305]] (by rfl) rfl rfl (by (try simp only [List.map_toArray, List.map_cons, List.map_nil]); first | done | rfl | (simp only [List.length_drop, List.length_take]; rfl)) ?_
       with_reducible refine (diff_Back.calls t294 t295 t296 t297 t298 t299 t300 t301 t302 t303 t304 t305 t319 t320 t321 t322 t323 t324 t325 t326 t327 t328 t329 t330 _ A13.out).mono ?_
       rintro e w28 ⟨rfl, hb⟩
       refine ⟨_, rfl, ?_⟩
       have n0_ := Aside0.mk (blk_below (g := gb306) (o := .cells #[.int .i64 t294, .int .i64 t295, .int .i64 t296, .int .i64 t297, .int .i64 t298, .int .i64 t299, .int .i64 t300, .int .i64 t301, .int .i64 t302, .int .i64 t303, .int .i64 t304, .int .i64 t305] 27 (0, 0)) (by (with_reducible repeat (first | refine blk_drewN ?_ _ | refine blk_drew ?_ | refine blk_alloc ?_ _)); exact BK306.out) hb)
       have n1_ := Aside0.mk (below_step (by repeat (first | (with_reducible first | exact HB.out | apply below_alloc | apply pw_below_drewN | apply below_drew1 | refine below_set ?_ GE306.out) | exact HB.out)) hb)
       clear BK306
       clear HB
       have BK306 := n0_
       have HB := n1_
       clear n0_ n1_
       (try clear hb)
       (try clear hb2)
       (try clear hk)
       (try clear hi)
       refine hK.out _ _ ⟨(blk_cell BK306.out 0).trans rfl, (blk_cell BK306.out 1).trans rfl, (blk_cell BK306.out 2).trans rfl, (blk_cell BK306.out 3).trans rfl, (blk_cell BK306.out 4).trans rfl, (blk_cell BK306.out 5).trans rfl, (blk_cell BK306.out 6).trans rfl, (blk_cell BK306.out 7).trans rfl, (blk_cell BK306.out 8).trans rfl, (blk_cell BK306.out 9).trans rfl, (blk_cell BK306.out 10).trans rfl, (blk_cell BK306.out 11).trans rfl⟩ (fun hHeld => ?_)
       clear hK K
       refine norm_ (a' := ?_) ?_ ?_
       rotate_left
       ·show Act.put _ (some 35) _ = _
        simp only [Act.put, List.setIfInBounds_toArray, List.set_cons_zero, List.set_cons_succ, i64_w, i32_w]
        rfl
       refine pure_ (i := 7) (N := some 36) (v := ?_) (a' := ?_) #[true, true, true, true, true, true, true, true, false, false, false, false, false, false, false, false, false, false, false, false, false, false, false, false, false, false, false, false, false, false] rfl rfl (any_of HT_.out (by kernel_rfl)) (fun _ _ _ h => h) (Or.inl ⟨by rfl, ?_⟩) ?_ ?_
       rotate_left
       ·intro w'
        go_simp
        with_reducible rfl
       rotate_left
       ·simp only [Act.put, List.setIfInBounds_toArray, List.set_cons_zero, List.set_cons_succ, i64_w, i32_w]
        rfl
       refine pure_ (i := 8) (N := some 37) (v := ?_) (a' := ?_) #[true, true, true, true, true, true, true, true, true, false, false, false, false, false, false, false, false, false, false, false, false, false, false, false, false, false, false, false, false, false] rfl rfl (any_of HT_.out (by kernel_rfl)) (fun _ _ _ h => h) (Or.inl ⟨by rfl, ?_⟩) ?_ ?_
       rotate_left
       ·intro w'
        go_simp
        with_reducible rfl
       rotate_left
       ·simp only [Act.put, List.setIfInBounds_toArray, List.set_cons_zero, List.set_cons_succ, i64_w, i32_w]
        rfl
       refine pure_ (i := 9) (N := some 38) (v := ?_) (a' := ?_) #[true, true, true, true, true, true, true, true, true, true, false, false, false, false, false, false, false, false, false, false, false, false, false, false, false, false, false, false, false, false] rfl rfl (any_of HT_.out (by kernel_rfl)) (fun _ _ _ h => h) (Or.inl ⟨by rfl, ?_⟩) ?_ ?_
       rotate_left
       ·intro w'
        go_simp
        with_reducible rfl
       rotate_left
       ·simp only [Act.put, List.setIfInBounds_toArray, List.set_cons_zero, List.set_cons_succ, i64_w, i32_w]
        rfl
       refine take_ (i := 10) (N := some 39) (v := ?_) (a' := ?_) #[true, true, true, true, true, true, true, true, true, true, true, false, false, false, false, false, false, false, false, false, false, false, false, false, false, false, false, false, false, false] rfl rfl (take_ofW HT_.out HW_.out (by kernel_rfl)) (fun _ _ _ h => h) (Or.inl ⟨by rfl, ?_⟩) hHeld ?_ ?_
       rotate_left
       ·rintro w' ⟨s0, s1, s2, s3, s4, s5, s6, s7, s8, s9, s10, s11⟩
        go_simp
        with_reducible rfl
       rotate_left
       ·simp only [Act.put, List.setIfInBounds_toArray, List.set_cons_zero, List.set_cons_succ, i64_w, i32_w]
        rfl
       refine take_ (i := 13) (N := some 42) (v := ?_) (a' := ?_) #[true, true, true, true, true, true, true, true, true, true, true, false, false, true, false, false, false, false, false, false, false, false, false, false, false, false, false, false, false, false] rfl rfl (take_ofW HT_.out HW_.out (by kernel_rfl)) (fun _ _ _ h => h) (Or.inl ⟨by rfl, ?_⟩) hHeld ?_ ?_
       rotate_left
       ·rintro w' ⟨s0, s1, s2, s3, s4, s5, s6, s7, s8, s9, s10, s11⟩
        go_simp
        with_reducible rfl
       rotate_left
       ·simp only [Act.put, List.setIfInBounds_toArray, List.set_cons_zero, List.set_cons_succ, i64_w, i32_w]
        rfl
       refine one_ (i := 11) (N := some 40) #[true, true, true, true, true, true, true, true, true, true, true, true, false, true, false, false, false, false, false, false, false, false, false, false, false, false, false, false, false, false] rfl rfl (one_of HT_.out (by kernel_rfl)) (by decide) (fun K hK => ?_)
       refine goes_ Try.func12 (by kernel_rfl) rfl #[.agg #[.int .i64 t294, .int .i64 t295, .int .i64 t296, .int .i64 t297, .int .i64 t298, .int .i64 t299, .int .i64 t300, .int .i64 t301, .int .i64 t302, .int .i64 t303, .int .i64 t304, .int .i64 t305]] (by rfl) rfl rfl (by (try simp only [List.map_toArray, List.map_cons, List.map_nil]); first | done | rfl | (simp only [List.length_drop, List.length_take]; rfl)) ?_
       with_reducible refine (diff_Back.calls t294 t295 t296 t297 t298 t299 t300 t301 t302 t303 t304 t305 t331 t332 t333 t334 t335 t336 t337 t338 t339 t340 t341 t342 _ A15.out).mono ?_
       rintro e w29 ⟨rfl, hb⟩
       refine ⟨_, rfl, ?_⟩
       have n0_ := Aside0.mk (blk_below (g := gb306) (o := .cells #[.int .i64 t294, .int .i64 t295, .int .i64 t296, .int .i64 t297, .int .i64 t298, .int .i64 t299, .int .i64 t300, .int .i64 t301, .int .i64 t302, .int .i64 t303, .int .i64 t304, .int .i64 t305] 27 (0, 0)) (by (with_reducible repeat (first | refine blk_drewN ?_ _ | refine blk_drew ?_ | refine blk_alloc ?_ _)); exact BK306.out) hb)
       have n1_ := Aside0.mk (below_step (by repeat (first | (with_reducible first | exact HB.out | apply below_alloc | apply pw_below_drewN | apply below_drew1 | refine below_set ?_ GE306.out) | exact HB.out)) hb)
       clear BK306
       clear HB
       have BK306 := n0_
       have HB := n1_
       clear n0_ n1_
       (try clear hb)
       (try clear hb2)
       (try clear hk)
       (try clear hi)
       refine hK.out _ _ ⟨(blk_cell BK306.out 0).trans rfl, (blk_cell BK306.out 1).trans rfl, (blk_cell BK306.out 2).trans rfl, (blk_cell BK306.out 3).trans rfl, (blk_cell BK306.out 4).trans rfl, (blk_cell BK306.out 5).trans rfl, (blk_cell BK306.out 6).trans rfl, (blk_cell BK306.out 7).trans rfl, (blk_cell BK306.out 8).trans rfl, (blk_cell BK306.out 9).trans rfl, (blk_cell BK306.out 10).trans rfl, (blk_cell BK306.out 11).trans rfl⟩ (fun hHeld => ?_)
       clear hK K
       refine norm_ (a' := ?_) ?_ ?_
       rotate_left
       ·show Act.put _ (some 40) _ = _
        simp only [Act.put, List.setIfInBounds_toArray, List.set_cons_zero, List.set_cons_succ, i64_w, i32_w]
        rfl
       refine one_ (i := 12) (N := some 41) #[true, true, true, true, true, true, true, true, true, true, true, true, true, true, false, false, false, false, false, false, false, false, false, false, false, false, false, false, false, false] rfl rfl (one_of HT_.out (by kernel_rfl)) (by decide) (fun K hK => ?_)
       refine goes_ Try.func12 (by kernel_rfl) rfl #[.agg #[.int .i64 t331, .int .i64 t332, .int .i64 t333, .int .i64 t334, .int .i64 t335, .int .i64 t336, .int .i64 t337, .int .i64 t338, .int .i64 t339, .int .i64 t340, .int .i64 t341, .int .i64 t342]] (by rfl) rfl rfl (by (try simp only [List.map_toArray, List.map_cons, List.map_nil]); first | done | rfl | (simp only [List.length_drop, List.length_take]; rfl)) ?_
       with_reducible refine (diff_Back.calls t331 t332 t333 t334 t335 t336 t337 t338 t339 t340 t341 t342 t343 t344 t345 t346 t347 t348 t349 t350 t351 t352 t353 t354 _ A16.out).mono ?_
       rintro e w30 ⟨rfl, hb⟩
       refine ⟨_, rfl, ?_⟩
       have n0_ := Aside0.mk (blk_below (g := gb306) (o := .cells #[.int .i64 t294, .int .i64 t295, .int .i64 t296, .int .i64 t297, .int .i64 t298, .int .i64 t299, .int .i64 t300, .int .i64 t301, .int .i64 t302, .int .i64 t303, .int .i64 t304, .int .i64 t305] 27 (0, 0)) (by (with_reducible repeat (first | refine blk_drewN ?_ _ | refine blk_drew ?_ | refine blk_alloc ?_ _)); exact BK306.out) hb)
       have n1_ := Aside0.mk (below_step (by repeat (first | (with_reducible first | exact HB.out | apply below_alloc | apply pw_below_drewN | apply below_drew1 | refine below_set ?_ GE306.out) | exact HB.out)) hb)
       clear BK306
       clear HB
       have BK306 := n0_
       have HB := n1_
       clear n0_ n1_
       (try clear hb)
       (try clear hb2)
       (try clear hk)
       (try clear hi)
       refine hK.out _ _ ⟨(blk_cell BK306.out 0).trans rfl, (blk_cell BK306.out 1).trans rfl, (blk_cell BK306.out 2).trans rfl, (blk_cell BK306.out 3).trans rfl, (blk_cell BK306.out 4).trans rfl, (blk_cell BK306.out 5).trans rfl, (blk_cell BK306.out 6).trans rfl, (blk_cell BK306.out 7).trans rfl, (blk_cell BK306.out 8).trans rfl, (blk_cell BK306.out 9).trans rfl, (blk_cell BK306.out 10).trans rfl, (blk_cell BK306.out 11).trans rfl⟩ (fun hHeld => ?_)
       clear hK K
       refine norm_ (a' := ?_) ?_ ?_
       rotate_left
       ·show Act.put _ (some 41) _ = _
        simp only [Act.put, List.setIfInBounds_toArray, List.set_cons_zero, List.set_cons_succ, i64_w, i32_w]
        rfl
       refine pure_ (i := 14) (N := some 43) (v := ?_) (a' := ?_) #[true, true, true, true, true, true, true, true, true, true, true, true, true, true, true, false, false, false, false, false, false, false, false, false, false, false, false, false, false, false] rfl rfl (any_of HT_.out (by kernel_rfl)) (fun _ _ _ h => h) (Or.inl ⟨by rfl, ?_⟩) ?_ ?_
       rotate_left
       ·intro w'
        go_simp
        with_reducible rfl
       rotate_left
       ·simp only [Act.put, List.setIfInBounds_toArray, List.set_cons_zero, List.set_cons_succ, i64_w, i32_w]
        rfl
       refine pure_ (i := 15) (N := some 44) (v := ?_) (a' := ?_) #[true, true, true, true, true, true, true, true, true, true, true, true, true, true, true, true, false, false, false, false, false, false, false, false, false, false, false, false, false, false] rfl rfl (any_of HT_.out (by kernel_rfl)) (fun _ _ _ h => h) (Or.inl ⟨by rfl, ?_⟩) ?_ ?_
       rotate_left
       ·intro w'
        go_simp
        with_reducible rfl
       rotate_left
       ·simp only [Act.put, List.setIfInBounds_toArray, List.set_cons_zero, List.set_cons_succ, i64_w, i32_w]
        rfl
       refine pure_ (i := 16) (N := some 45) (v := ?_) (a' := ?_) #[true, true, true, true, true, true, true, true, true, true, true, true, true, true, true, true, true, false, false, false, false, false, false, false, false, false, false, false, false, false] rfl rfl (any_of HT_.out (by kernel_rfl)) (fun _ _ _ h => h) (Or.inl ⟨by rfl, ?_⟩) ?_ ?_
       rotate_left
       ·intro w'
        go_simp
        with_reducible rfl
       rotate_left
       ·simp only [Act.put, List.setIfInBounds_toArray, List.set_cons_zero, List.set_cons_succ, i64_w, i32_w]
        rfl
       refine pure_ (i := 17) (N := some 46) (v := ?_) (a' := ?_) #[true, true, true, true, true, true, true, true, true, true, true, true, true, true, true, true, true, true, false, false, false, false, false, false, false, false, false, false, false, false] rfl rfl (any_of HT_.out (by kernel_rfl)) (fun _ _ _ h => h) (Or.inl ⟨by rfl, ?_⟩) ?_ ?_
       rotate_left
       ·intro w'
        go_simp
        with_reducible rfl
       rotate_left
       ·simp only [Act.put, List.setIfInBounds_toArray, List.set_cons_zero, List.set_cons_succ, i64_w, i32_w]
        rfl
       refine pure_ (i := 18) (N := some 47) (v := ?_) (a' := ?_) #[true, true, true, true, true, true, true, true, true, true, true, true, true, true, true, true, true, true, true, false, false, false, false, false, false, false, false, false, false, false] rfl rfl (any_of HT_.out (by kernel_rfl)) (fun _ _ _ h => h) (Or.inl ⟨by rfl, ?_⟩) ?_ ?_
       rotate_left
       ·intro w'
        go_simp
        with_reducible rfl
       rotate_left
       ·simp only [Act.put, List.setIfInBounds_toArray, List.set_cons_zero, List.set_cons_succ, i64_w, i32_w]
        rfl
       refine pure_ (i := 20) (N := some 49) (v := ?_) (a' := ?_) #[true, true, true, true, true, true, true, true, true, true, true, true, true, true, true, true, true, true, true, false, true, false, false, false, false, false, false, false, false, false] rfl rfl (any_of HT_.out (by kernel_rfl)) (fun _ _ _ h => h) (Or.inl ⟨by rfl, ?_⟩) ?_ ?_
       rotate_left
       ·intro w'
        go_simp
        with_reducible rfl
       rotate_left
       ·simp only [Act.put, List.setIfInBounds_toArray, List.set_cons_zero, List.set_cons_succ, i64_w, i32_w]
        rfl
       refine pure_ (i := 21) (N := some 50) (v := ?_) (a' := ?_) #[true, true, true, true, true, true, true, true, true, true, true, true, true, true, true, true, true, true, true, false, true, true, false, false, false, false, false, false, false, false] rfl rfl (any_of HT_.out (by kernel_rfl)) (fun _ _ _ h => h) (Or.inl ⟨by rfl, ?_⟩) ?_ ?_
       rotate_left
       ·intro w'
        go_simp
        with_reducible rfl
       rotate_left
       ·simp only [Act.put, List.setIfInBounds_toArray, List.set_cons_zero, List.set_cons_succ, i64_w, i32_w]
        rfl
       refine pure_ (i := 23) (N := some 52) (v := ?_) (a' := ?_) #[true, true, true, true, true, true, true, true, true, true, true, true, true, true, true, true, true, true, true, false, true, true, false, true, false, false, false, false, false, false] rfl rfl (any_of HT_.out (by kernel_rfl)) (fun _ _ _ h => h) (Or.inl ⟨by rfl, ?_⟩) ?_ ?_
       rotate_left
       ·intro w'
        go_simp
        with_reducible rfl
       rotate_left
       ·simp only [Act.put, List.setIfInBounds_toArray, List.set_cons_zero, List.set_cons_succ, i64_w, i32_w]
        rfl
       refine pure_ (i := 24) (N := some 53) (v := ?_) (a' := ?_) #[true, true, true, true, true, true, true, true, true, true, true, true, true, true, true, true, true, true, true, false, true, true, false, true, true, false, false, false, false, false] rfl rfl (any_of HT_.out (by kernel_rfl)) (fun _ _ _ h => h) (Or.inl ⟨by rfl, ?_⟩) ?_ ?_
       rotate_left
       ·intro w'
        go_simp
        with_reducible rfl
       rotate_left
       ·simp only [Act.put, List.setIfInBounds_toArray, List.set_cons_zero, List.set_cons_succ, i64_w, i32_w]
        rfl
       refine one_ (i := 19) (N := some 48) #[true, true, true, true, true, true, true, true, true, true, true, true, true, true, true, true, true, true, true, true, true, true, false, true, true, false, false, false, false, false] rfl rfl (one_of HT_.out (by kernel_rfl)) (by decide) (fun K hK => ?_)
       refine goes_ Try.func9 (by kernel_rfl) rfl #[.slice A0 l0.length c0, .slice A2 l2.length c2] (by rfl) rfl rfl (by (try simp only [List.map_toArray, List.map_cons, List.map_nil]); first | done | rfl | (simp only [List.length_drop, List.length_take]; rfl)) ?_
       with_reducible refine (diff_Prefix.calls kj5 _ _ l0 _ _ l2 t355 _ ?side1 ?side2 ?side3 ?side4 A18.out).mono ?_
       (case side1 => repeat (first | exact (Kd.C_below HR0.out HB.out) | (with_reducible refine Kd.C_alloc ?_ _) | (with_reducible refine Kd.C_drewN ?_ _) | (with_reducible refine Kd.C_drew ?_)))
       (case side2 => exact HC0.out)
       (case side3 => repeat (first | exact (Kd.C_below HR2.out HB.out) | (with_reducible refine Kd.C_alloc ?_ _) | (with_reducible refine Kd.C_drewN ?_ _) | (with_reducible refine Kd.C_drew ?_)))
       (case side4 => exact HC2.out)
       rintro e w' ⟨rfl, ⟨nd, rfl⟩⟩
       refine ⟨_, rfl, ?_⟩
       refine hK.out _ _ ⟨(blk_cell BK306.out 0).trans rfl, (blk_cell BK306.out 1).trans rfl, (blk_cell BK306.out 2).trans rfl, (blk_cell BK306.out 3).trans rfl, (blk_cell BK306.out 4).trans rfl, (blk_cell BK306.out 5).trans rfl, (blk_cell BK306.out 6).trans rfl, (blk_cell BK306.out 7).trans rfl, (blk_cell BK306.out 8).trans rfl, (blk_cell BK306.out 9).trans rfl, (blk_cell BK306.out 10).trans rfl, (blk_cell BK306.out 11).trans rfl⟩ (fun hHeld => ?_)
       clear hK K
       refine norm_ (a' := ?_) ?_ ?_
       rotate_left
       ·show Act.put _ (some 48) _ = _
        simp only [Act.put, List.setIfInBounds_toArray, List.set_cons_zero, List.set_cons_succ, i64_w, i32_w]
        rfl
       refine one_ (i := 22) (N := some 51) #[true, true, true, true, true, true, true, true, true, true, true, true, true, true, true, true, true, true, true, true, true, true, true, true, true, false, false, false, false, false] rfl rfl (one_of HT_.out (by kernel_rfl)) (by decide) (fun K hK => ?_)
       refine goes_ Try.func9 (by kernel_rfl) rfl #[.slice A0 l0.length c0, .slice A1 l1.length c1] (by rfl) rfl rfl (by (try simp only [List.map_toArray, List.map_cons, List.map_nil]); first | done | rfl | (simp only [List.length_drop, List.length_take]; rfl)) ?_
       with_reducible refine (diff_Prefix.calls kj5 _ _ l0 _ _ l1 t356 _ ?side1 ?side2 ?side3 ?side4 A19.out).mono ?_
       (case side1 => repeat (first | exact (Kd.C_below HR0.out (by repeat (first | (with_reducible first | exact HB.out | apply below_alloc | apply pw_below_drewN | apply below_drew1 | refine below_set ?_ GE306.out) | exact HB.out))) | (with_reducible refine Kd.C_alloc ?_ _) | (with_reducible refine Kd.C_drewN ?_ _) | (with_reducible refine Kd.C_drew ?_)))
       (case side2 => exact HC0.out)
       (case side3 => repeat (first | exact (Kd.C_below HR1.out (by repeat (first | (with_reducible first | exact HB.out | apply below_alloc | apply pw_below_drewN | apply below_drew1 | refine below_set ?_ GE306.out) | exact HB.out))) | (with_reducible refine Kd.C_alloc ?_ _) | (with_reducible refine Kd.C_drewN ?_ _) | (with_reducible refine Kd.C_drew ?_)))
       (case side4 => exact HC1.out)
       rintro e w' ⟨rfl, ⟨nd, rfl⟩⟩
       refine ⟨_, rfl, ?_⟩
       refine hK.out _ _ ⟨(blk_cell BK306.out 0).trans rfl, (blk_cell BK306.out 1).trans rfl, (blk_cell BK306.out 2).trans rfl, (blk_cell BK306.out 3).trans rfl, (blk_cell BK306.out 4).trans rfl, (blk_cell BK306.out 5).trans rfl, (blk_cell BK306.out 6).trans rfl, (blk_cell BK306.out 7).trans rfl, (blk_cell BK306.out 8).trans rfl, (blk_cell BK306.out 9).trans rfl, (blk_cell BK306.out 10).trans rfl, (blk_cell BK306.out 11).trans rfl⟩ (fun hHeld => ?_)
       clear hK K
       refine norm_ (a' := ?_) ?_ ?_
       rotate_left
       ·show Act.put _ (some 51) _ = _
        simp only [Act.put, List.setIfInBounds_toArray, List.set_cons_zero, List.set_cons_succ, i64_w, i32_w]
        rfl
       refine one_ (i := 25) (N := some 54) #[true, true, true, true, true, true, true, true, true, true, true, true, true, true, true, true, true, true, true, true, true, true, true, true, true, true, false, false, false, false] rfl rfl (one_of HT_.out (by kernel_rfl)) (by decide) (fun K hK => ?_)
       refine goes_ Try.func9 (by kernel_rfl) rfl #[.slice A1 l1.length c1, .slice A2 l2.length c2] (by rfl) rfl rfl (by (try simp only [List.map_toArray, List.map_cons, List.map_nil]); first | done | rfl | (simp only [List.length_drop, List.length_take]; rfl)) ?_
       with_reducible refine (diff_Prefix.calls kj5 _ _ l1 _ _ l2 t357 _ ?side1 ?side2 ?side3 ?side4 A20.out).mono ?_
       (case side1 => repeat (first | exact (Kd.C_below HR1.out (by repeat (first | (with_reducible first | exact HB.out | apply below_alloc | apply pw_below_drewN | apply below_drew1 | refine below_set ?_ GE306.out) | exact HB.out))) | (with_reducible refine Kd.C_alloc ?_ _) | (with_reducible refine Kd.C_drewN ?_ _) | (with_reducible refine Kd.C_drew ?_)))
       (case side2 => exact HC1.out)
       (case side3 => repeat (first | exact (Kd.C_below HR2.out (by repeat (first | (with_reducible first | exact HB.out | apply below_alloc | apply pw_below_drewN | apply below_drew1 | refine below_set ?_ GE306.out) | exact HB.out))) | (with_reducible refine Kd.C_alloc ?_ _) | (with_reducible refine Kd.C_drewN ?_ _) | (with_reducible refine Kd.C_drew ?_)))
       (case side4 => exact HC2.out)
       rintro e w' ⟨rfl, ⟨nd, rfl⟩⟩
       refine ⟨_, rfl, ?_⟩
       refine hK.out _ _ ⟨(blk_cell BK306.out 0).trans rfl, (blk_cell BK306.out 1).trans rfl, (blk_cell BK306.out 2).trans rfl, (blk_cell BK306.out 3).trans rfl, (blk_cell BK306.out 4).trans rfl, (blk_cell BK306.out 5).trans rfl, (blk_cell BK306.out 6).trans rfl, (blk_cell BK306.out 7).trans rfl, (blk_cell BK306.out 8).trans rfl, (blk_cell BK306.out 9).trans rfl, (blk_cell BK306.out 10).trans rfl, (blk_cell BK306.out 11).trans rfl⟩ (fun hHeld => ?_)
       clear hK K
       refine norm_ (a' := ?_) ?_ ?_
       rotate_left
       ·show Act.put _ (some 54) _ = _
        simp only [Act.put, List.setIfInBounds_toArray, List.set_cons_zero, List.set_cons_succ, i64_w, i32_w]
        rfl
       refine pure_ (i := 26) (N := some 55) (v := ?_) (a' := ?_) #[true, true, true, true, true, true, true, true, true, true, true, true, true, true, true, true, true, true, true, true, true, true, true, true, true, true, true, false, false, false] rfl rfl (any_of HT_.out (by kernel_rfl)) (fun _ _ _ h => h) (Or.inl ⟨by rfl, ?_⟩) ?_ ?_
       rotate_left
       ·intro w'
        go_simp
        with_reducible rfl
       rotate_left
       ·simp only [Act.put, List.setIfInBounds_toArray, List.set_cons_zero, List.set_cons_succ, i64_w, i32_w]
        rfl
       refine pure_ (i := 27) (N := some 56) (v := ?_) (a' := ?_) #[true, true, true, true, true, true, true, true, true, true, true, true, true, true, true, true, true, true, true, true, true, true, true, true, true, true, true, true, false, false] rfl rfl (any_of HT_.out (by kernel_rfl)) (fun _ _ _ h => h) (Or.inl ⟨by rfl, ?_⟩) ?_ ?_
       rotate_left
       ·intro w'
        go_simp
        with_reducible rfl
       rotate_left
       ·simp only [Act.put, List.setIfInBounds_toArray, List.set_cons_zero, List.set_cons_succ, i64_w, i32_w]
        rfl
       refine pure_ (i := 28) (N := some 57) (v := ?_) (a' := ?_) #[true, true, true, true, true, true, true, true, true, true, true, true, true, true, true, true, true, true, true, true, true, true, true, true, true, true, true, true, true, false] rfl rfl (any_of HT_.out (by kernel_rfl)) (fun _ _ _ h => h) (Or.inl ⟨by rfl, ?_⟩) ?_ ?_
       rotate_left
       ·intro w'
        go_simp
        with_reducible rfl
       rotate_left
       ·simp only [Act.put, List.setIfInBounds_toArray, List.set_cons_zero, List.set_cons_succ, i64_w, i32_w]
        rfl
       refine pure_ (i := 29) (N := some 6) (v := ?_) (a' := ?_) #[true, true, true, true, true, true, true, true, true, true, true, true, true, true, true, true, true, true, true, true, true, true, true, true, true, true, true, true, true, true] rfl rfl (any_of HT_.out (by kernel_rfl)) (fun _ _ _ h => h) (Or.inl ⟨by rfl, ?_⟩) ?_ ?_
       rotate_left
       ·intro w'
        go_simp
        with_reducible rfl
       rotate_left
       ·simp only [Act.put, List.setIfInBounds_toArray, List.set_cons_zero, List.set_cons_succ, i64_w, i32_w]
        rfl
       refine done_ (done_of HT_.out (by kernel_rfl)) ?_
       try go_wp2
       go_ret
       exact ⟨by first | rfl | (simp [errW_none, errW_some] <;> rfl) | (simp only [← hji21]; first | rfl | (simp [errW_none, errW_some] <;> rfl)) | (simp [*, errW_none, errW_some] <;> rfl), by repeat (first | (with_reducible first | exact HB.out | apply below_alloc | apply pw_below_drewN | apply below_drew1 | refine below_set ?_ GE306.out) | exact HB.out)⟩
      ·rw [if_neg c17] at H
       have c17b0 : (t343 == t294 && (t344 == t295 && ((t345 == t296 && (t346 == t297 && (t347 == t298 && (t348 == t299 && (t349 == t300))))) && ((t350 == t301 && (t351 == t302 && (t352 == t303 && (t353 == t304 && (t354 == t305))))))))) = false := by simpa using c17
       (try (have c17b1 : decide (t343 = t294 && (t344 == t295 && ((t345 == t296 && (t346 == t297 && (t347 == t298 && (t348 == t299 && (t349 == t300))))) && ((t350 == t301 && (t351 == t302 && (t352 == t303 && (t353 == t304 && (t354 == t305))))))))) = false := by simpa using c17))
       (try (have c17b2 : (t343 == t294 && (t344 == t295 && ((t345 == t296 && (t346 == t297 && (t347 == t298 && (t348 == t299 && (t349 == t300))))) && ((t350 == t301 && (t351 == t302 && (t352 == t303 && (t353 == t304 && (t354 == t305))))))))) = false := by simpa using c17))
       (try (have c17b3 : ¬ (t343 = t294 && (t344 == t295 && ((t345 == t296 && (t346 == t297 && (t347 == t298 && (t348 == t299 && (t349 == t300))))) && ((t350 == t301 && (t351 == t302 && (t352 == t303 && (t353 == t304 && (t354 == t305))))))))) := by simpa using c17))
       clear c17
       obtain rfl := Option.some.inj H
       exact absurd hr_.out (by decide)
     ·rw [if_neg c14] at H
      have c14b0 : (t307 == t319 && (t308 == t320 && ((t309 == t321 && (t310 == t322 && (t311 == t323 && (t312 == t324 && (t313 == t325))))) && ((t314 == t326 && (t315 == t327 && (t316 == t328 && (t317 == t329 && (t318 == t330))))))))) = false := by simpa using c14
      (try (have c14b1 : decide (t307 = t319 && (t308 == t320 && ((t309 == t321 && (t310 == t322 && (t311 == t323 && (t312 == t324 && (t313 == t325))))) && ((t314 == t326 && (t315 == t327 && (t316 == t328 && (t317 == t329 && (t318 == t330))))))))) = false := by simpa using c14))
      (try (have c14b2 : (t307 == t319 && (t308 == t320 && ((t309 == t321 && (t310 == t322 && (t311 == t323 && (t312 == t324 && (t313 == t325))))) && ((t314 == t326 && (t315 == t327 && (t316 == t328 && (t317 == t329 && (t318 == t330))))))))) = false := by simpa using c14))
      (try (have c14b3 : ¬ (t307 = t319 && (t308 == t320 && ((t309 == t321 && (t310 == t322 && (t311 == t323 && (t312 == t324 && (t313 == t325))))) && ((t314 == t326 && (t315 == t327 && (t316 == t328 && (t317 == t329 && (t318 == t330))))))))) := by simpa using c14))
      clear c14
      obtain rfl := Option.some.inj H
      exact absurd hr_.out (by decide)
 ·replace c5 := Bool.eq_false_iff.mpr c5
  subst c5
  have H1 : (some false) = some r := by rw [if_neg (show ¬ (false = true) by decide)] at H; exact H
  clear H
  have H := H1
  clear H1
  obtain rfl := Option.some.inj H
  exact absurd hr_.out (by decide)

end Go.Proofs.Ytpjfdnifliekiaa.Print
