-- PRINTED by print.py (a twelfth state) out of the translation. Not trusted: Lean checks it.
import Derived.Test.YtcbjbgleflbpmaaDoorPrint0
import Derived.Test.YtcbjbgleflbpmaaDoorPrint1
namespace Go.Proofs.YtcbjbgleflbpmaaDoor.Print
open Go.RowKit Go.Proofs.YtcbjbgleflbpmaaDoorW.PrintWords Go.Proofs.YtcbjbgleflbpmaaDoorW.PrintLast Go.Proofs.YtcbjbgleflbpmaaDoorW.PrintMore Go.Proofs.YtcbjbgleflbpmaaDoorX
attribute [local go_sem] str_lss str_geq max2_int min2_int max_two min_two max_three min_three max_four min_four   -- for this text's walks alone
set_option linter.unusedVariables false
set_option linter.unusedSimpArgs false

attribute [local go_sem high] eqA30
/-! ### diff_Prefix: function 71 -/
def diff_Prefix.l0 : Nat → List (S30) → List (S30) → Int → Option (Int)
 | 0, _, _, _ => none
 | k + 1, x0, x1, x4 => if x4 < (x0.length : Int) then (if x4 < (x1.length : Int) then (if 0 ≤ x4 then (if (((rd_T30 x0 x4).f0) == ((rd_T30 x1 x4).f0) && (((rd_T30 x0 x4).f1) == ((rd_T30 x1 x4).f1) && (((rd_T30 x0 x4).f2) == ((rd_T30 x1 x4).f2) && (((rd_T30 x0 x4).f3) == ((rd_T30 x1 x4).f3) && (((rd_T30 x0 x4).f4) == ((rd_T30 x1 x4).f4)))))) = true then (diff_Prefix.l0 k x0 x1 (wrap64 (x4 + 1))) else (some x4)) else (none)) else (some x4)) else (some x4)
def diff_Prefix.f (k : Nat) (l0 : List (S30)) (l1 : List (S30)) : Option (Int) := diff_Prefix.l0 k l0 l1 0
theorem diff_Prefix.mono_l : ∀ k, (∀ y0 y1 y2, LeO (diff_Prefix.l0 k y0 y1 y2) (diff_Prefix.l0 (k + 1) y0 y1 y2))
 | 0 => fun _ _ _ r h => by simp [diff_Prefix.l0] at h
 | k + 1 => by
  have ih0 := diff_Prefix.mono_l k
  ·intro y0 y1 y2
   unfold diff_Prefix.l0
   repeat' first
   | (with_reducible exact ih0 _ _ _)
   | (with_reducible exact LeO.refl _)
   | (with_reducible exact LeO.none _)
   | (with_reducible refine LeO.ite ?_ ?_)
   | (with_reducible refine LeO.bind ?_ (fun _ => ?_))
   | exact ih0 _ _ _
   | exact LeO.none _
   | refine LeO.ite ?_ ?_
   | refine LeO.bind ?_ (fun _ => ?_)
theorem diff_Prefix.mono : ∀ a0 a1 k, LeO (diff_Prefix.f k a0 a1) (diff_Prefix.f (k + 1) a0 a1) := by
 intro a0 a1 k
 have ih0 := diff_Prefix.mono_l k
 unfold diff_Prefix.f
 repeat' first
   | (with_reducible exact ih0 _ _ _)
   | (with_reducible exact LeO.refl _)
   | (with_reducible exact LeO.none _)
   | (with_reducible refine LeO.ite ?_ ?_)
   | (with_reducible refine LeO.bind ?_ (fun _ => ?_))
   | exact ih0 _ _ _
   | exact LeO.none _
   | refine LeO.ite ?_ ?_
   | refine LeO.bind ?_ (fun _ => ?_)
set_option maxHeartbeats 8000000 in
set_option maxRecDepth 100000 in
theorem diff_Prefix.calls (k : Nat) (A0 : Option Addr) (c0 : Nat) (l0 : List (S30)) (A1 : Option Addr) (c1 : Nat) (l1 : List (S30)) (r : Int) (w : World) (hr0 : Kd.C k30 w A0 l0.length l0) (hc0 : l0.length ≤ c0) (hr1 : Kd.C k30 w A1 l1.length l1) (hc1 : l1.length ≤ c1) (h : diff_Prefix.f k l0 l1 = some r) :
  Calls Tryd.prog 71 #[.slice A0 l0.length c0, .slice A1 l1.length c1] w fun e w' => e = .returned (.int .i64 r) ∧ Drawn0 w w' := by
 have hu30 := Tryd.underlying30
 have HR0 := Aside0.mk hr0
 have HC0 := Aside0.mk hc0
 clear hr0 hc0
 have HR1 := Aside0.mk hr1
 have HC1 := Aside0.mk hc1
 clear hr1 hc1
 have H : (diff_Prefix.l0 k l0 l1 0) = some r := h
 clear h
 have H' := Aside0.mk H
 clear H
 go_enter Tryd.func71, Tryd.ntmps71
 go_wp2
 repeat (go_quiet (fail); try go_wp2)
 go_loopg [4] k (fun kq v4 w' => ∃ (x4_1 : Int), v4 = .int .i64 x4_1 ∧ Aside0 (diff_Prefix.l0 kq l0 l1 x4_1 = some r) ∧ Aside0 (kq ≤ k) ∧ Drawn0 w w')
 case atStart => exact ⟨(0), (by first | rfl | (simp; done) | (simp [*]; done)), H', ⟨Nat.le_refl _⟩, by repeat (first | exact Drawn0.refl _ | apply Drawn0.step)⟩
 case round =>
  clear H'
  try clear c1
  try clear p2
  obtain ⟨x4_1, rfl, HA, HK1, ⟨m1, rfl⟩⟩ := hrel
  cases gk with
  | zero => exact absurd HA.out (by simp [diff_Prefix.l0])
  | succ k1 =>
   have H := HA.out
   clear HA
   simp only [diff_Prefix.l0] at H
   by_cases c3 : x4_1 < (l0.length : Int)
   ·rw [if_pos c3] at H
    have c3b0 : decide (x4_1 < (l0.length : Int)) = true := decide_eq_true c3
    clear c3
    by_cases c4 : x4_1 < (l1.length : Int)
    ·rw [if_pos c4] at H
     have c4b0 : decide (x4_1 < (l1.length : Int)) = true := decide_eq_true c4
     clear c4
     by_cases c5 : 0 ≤ x4_1
     ·rw [if_pos c5] at H
      have c5b0 : decide (0 ≤ x4_1) = true := decide_eq_true c5
      clear c5
      by_cases c6 : (((rd_T30 l0 x4_1).f0) == ((rd_T30 l1 x4_1).f0) && (((rd_T30 l0 x4_1).f1) == ((rd_T30 l1 x4_1).f1) && (((rd_T30 l0 x4_1).f2) == ((rd_T30 l1 x4_1).f2) && (((rd_T30 l0 x4_1).f3) == ((rd_T30 l1 x4_1).f3) && (((rd_T30 l0 x4_1).f4) == ((rd_T30 l1 x4_1).f4)))))) = true
      ·rw [if_pos c6] at H
       have c6b0 : (((rd_T30 l0 x4_1).f0) == ((rd_T30 l1 x4_1).f0) && (((rd_T30 l0 x4_1).f1) == ((rd_T30 l1 x4_1).f1) && (((rd_T30 l0 x4_1).f2) == ((rd_T30 l1 x4_1).f2) && (((rd_T30 l0 x4_1).f3) == ((rd_T30 l1 x4_1).f3) && (((rd_T30 l0 x4_1).f4) == ((rd_T30 l1 x4_1).f4)))))) = true := c6
       (try (have c6b1 : decide (((rd_T30 l0 x4_1).f0) = ((rd_T30 l1 x4_1).f0) && (((rd_T30 l0 x4_1).f1) == ((rd_T30 l1 x4_1).f1) && (((rd_T30 l0 x4_1).f2) == ((rd_T30 l1 x4_1).f2) && (((rd_T30 l0 x4_1).f3) == ((rd_T30 l1 x4_1).f3) && (((rd_T30 l0 x4_1).f4) == ((rd_T30 l1 x4_1).f4)))))) = true := by simpa using c6))
       (try (have c6b2 : (((rd_T30 l0 x4_1).f0) == ((rd_T30 l1 x4_1).f0) && (((rd_T30 l0 x4_1).f1) == ((rd_T30 l1 x4_1).f1) && (((rd_T30 l0 x4_1).f2) == ((rd_T30 l1 x4_1).f2) && (((rd_T30 l0 x4_1).f3) == ((rd_T30 l1 x4_1).f3) && (((rd_T30 l0 x4_1).f4) == ((rd_T30 l1 x4_1).f4)))))) = true := by simpa using c6))
       clear c6
       have H' := Aside0.mk H
       clear H
       have p191 : 0 ≤ (x4_1 : Int) := of_decide_eq_true (by first | (with_reducible assumption) | assumption)
       have q191 : x4_1 < (l0.length : Int) := of_decide_eq_true (by first | (with_reducible assumption) | assumption)
       obtain ⟨ad191, e191, hx191_0, hx191_1, hx191_2, hx191_3, hx191_4⟩ := at_T30 HR0.out x4_1 p191 q191
       cases e191
       replace p191 := eq_true p191
       replace q191 := eq_true q191
       have p192 : 0 ≤ (x4_1 : Int) := of_decide_eq_true (by first | (with_reducible assumption) | assumption)
       have q192 : x4_1 < (l1.length : Int) := of_decide_eq_true (by first | (with_reducible assumption) | assumption)
       obtain ⟨ad192, e192, hx192_0, hx192_1, hx192_2, hx192_3, hx192_4⟩ := at_T30 HR1.out x4_1 p192 q192
       cases e192
       replace p192 := eq_true p192
       replace q192 := eq_true q192
       go_wp2
       repeat (go_quiet (fail); try go_wp2)
       go_roundg k1
       case measure => have := HK1.out; omega
       case rel => exact ⟨(wrap64 (x4_1 + 1)), (by first | rfl | (simp; done) | (simp [*]; done)), H', ⟨by have := HK1.out; omega⟩, by repeat (first | exact Drawn0.refl _ | apply Drawn0.step)⟩
      ·rw [if_neg c6] at H
       have c6b0 : (((rd_T30 l0 x4_1).f0) == ((rd_T30 l1 x4_1).f0) && (((rd_T30 l0 x4_1).f1) == ((rd_T30 l1 x4_1).f1) && (((rd_T30 l0 x4_1).f2) == ((rd_T30 l1 x4_1).f2) && (((rd_T30 l0 x4_1).f3) == ((rd_T30 l1 x4_1).f3) && (((rd_T30 l0 x4_1).f4) == ((rd_T30 l1 x4_1).f4)))))) = false := by simpa using c6
       (try (have c6b1 : decide (((rd_T30 l0 x4_1).f0) = ((rd_T30 l1 x4_1).f0) && (((rd_T30 l0 x4_1).f1) == ((rd_T30 l1 x4_1).f1) && (((rd_T30 l0 x4_1).f2) == ((rd_T30 l1 x4_1).f2) && (((rd_T30 l0 x4_1).f3) == ((rd_T30 l1 x4_1).f3) && (((rd_T30 l0 x4_1).f4) == ((rd_T30 l1 x4_1).f4)))))) = false := by simpa using c6))
       (try (have c6b2 : (((rd_T30 l0 x4_1).f0) == ((rd_T30 l1 x4_1).f0) && (((rd_T30 l0 x4_1).f1) == ((rd_T30 l1 x4_1).f1) && (((rd_T30 l0 x4_1).f2) == ((rd_T30 l1 x4_1).f2) && (((rd_T30 l0 x4_1).f3) == ((rd_T30 l1 x4_1).f3) && (((rd_T30 l0 x4_1).f4) == ((rd_T30 l1 x4_1).f4)))))) = false := by simpa using c6))
       (try (have c6b3 : ¬ (((rd_T30 l0 x4_1).f0) = ((rd_T30 l1 x4_1).f0) && (((rd_T30 l0 x4_1).f1) == ((rd_T30 l1 x4_1).f1) && (((rd_T30 l0 x4_1).f2) == ((rd_T30 l1 x4_1).f2) && (((rd_T30 l0 x4_1).f3) == ((rd_T30 l1 x4_1).f3) && (((rd_T30 l0 x4_1).f4) == ((rd_T30 l1 x4_1).f4)))))) := by simpa using c6))
       clear c6
       obtain rfl := Option.some.inj H
       have p191 : 0 ≤ (x4_1 : Int) := of_decide_eq_true (by first | (with_reducible assumption) | assumption)
       have q191 : x4_1 < (l0.length : Int) := of_decide_eq_true (by first | (with_reducible assumption) | assumption)
       obtain ⟨ad191, e191, hx191_0, hx191_1, hx191_2, hx191_3, hx191_4⟩ := at_T30 HR0.out x4_1 p191 q191
       cases e191
       replace p191 := eq_true p191
       replace q191 := eq_true q191
       have p192 : 0 ≤ (x4_1 : Int) := of_decide_eq_true (by first | (with_reducible assumption) | assumption)
       have q192 : x4_1 < (l1.length : Int) := of_decide_eq_true (by first | (with_reducible assumption) | assumption)
       obtain ⟨ad192, e192, hx192_0, hx192_1, hx192_2, hx192_3, hx192_4⟩ := at_T30 HR1.out x4_1 p192 q192
       cases e192
       replace p192 := eq_true p192
       replace q192 := eq_true q192
       go_wp2
       repeat (go_quiet (fail); try go_wp2)
       go_ret
       exact ⟨by first | rfl | (simp; done) | (simp [*]; done), by repeat (first | exact Drawn0.refl _ | apply Drawn0.step)⟩
     ·rw [if_neg c5] at H
      exact absurd H (by simp)
    ·rw [if_neg c4] at H
     have c4b0 : decide (x4_1 < (l1.length : Int)) = false := decide_eq_false c4
     clear c4
     obtain rfl := Option.some.inj H
     go_wp2
     repeat (go_quiet (fail); try go_wp2)
     go_ret
     exact ⟨by first | rfl | (simp; done) | (simp [*]; done), by repeat (first | exact Drawn0.refl _ | apply Drawn0.step)⟩
   ·rw [if_neg c3] at H
    have c3b0 : decide (x4_1 < (l0.length : Int)) = false := decide_eq_false c3
    clear c3
    obtain rfl := Option.some.inj H
    go_wp2
    repeat (go_quiet (fail); try go_wp2)
    go_ret
    exact ⟨by first | rfl | (simp; done) | (simp [*]; done), by repeat (first | exact Drawn0.refl _ | apply Drawn0.step)⟩

end Go.Proofs.YtcbjbgleflbpmaaDoor.Print
