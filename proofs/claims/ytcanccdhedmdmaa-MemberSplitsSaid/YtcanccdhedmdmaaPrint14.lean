-- PRINTED by print.py (a twelfth state) out of the translation. Not trusted: Lean checks it.
import Derived.Test.YtcanccdhedmdmaaPrint0
import Derived.Test.YtcanccdhedmdmaaPrint13
namespace Go.Proofs.Ytcanccdhedmdmaa.Print
open Go.RowKit Go.Proofs.YtcanccdhedmdmaaW.PrintWords Go.Proofs.YtcanccdhedmdmaaW.PrintLast Go.Proofs.YtcanccdhedmdmaaW.PrintMore Go.Proofs.YtcanccdhedmdmaaX
attribute [local go_sem] max2_int min2_int max_two min_two max_three min_three max_four min_four   -- for this text's walks alone
set_option linter.unusedVariables false
set_option linter.unusedSimpArgs false

/-! ### palletref08_With: function 34 -/
def palletref08_With.f (a0 : Int) (a1 : Int) : Option (Int) := if a1 < 0 then (some a0) else (if a1 > 15 then (some a0) else ((palletref08_Has.f a0 a1).bind fun t201 => (if t201 = true then (some a0) else (if 0 ≤ a1 then (some (IntKind.u16.wrap (a0 + (shl .u16 1 a1)))) else (none)))))
set_option maxHeartbeats 8000000 in
set_option maxRecDepth 100000 in
theorem palletref08_With.calls (a0 : Int) (a1 : Int) (r : Int) (w : World) (h : palletref08_With.f a0 a1 = some r) :
  Calls Try.prog 34 #[.int .u16 a0, .int .i64 a1] w fun e w' => e = .returned (.int .u16 r) ∧ Drawn0 w w' := by
 have H : (if a1 < 0 then (some a0) else (if a1 > 15 then (some a0) else ((palletref08_Has.f a0 a1).bind fun t201 => (if t201 = true then (some a0) else (if 0 ≤ a1 then (some (IntKind.u16.wrap (a0 + (shl .u16 1 a1)))) else (none)))))) = some r := h
 clear h
 by_cases c3 : a1 < 0
 ·rw [if_pos c3] at H
  have c3b0 : decide (a1 < 0) = true := decide_eq_true c3
  clear c3
  obtain rfl := Option.some.inj H
  go_enter Try.func34, Try.ntmps34
  go_wp2
  go_ret
  exact ⟨by first | rfl | (simp; done) | (simp [*]; done), by repeat (first | exact Drawn0.refl _ | apply Drawn0.step)⟩
 ·rw [if_neg c3] at H
  have c3b0 : decide (a1 < 0) = false := decide_eq_false c3
  clear c3
  by_cases c4 : a1 > 15
  ·rw [if_pos c4] at H
   have c4b0 : decide (15 < a1) = true := decide_eq_true c4
   clear c4
   obtain rfl := Option.some.inj H
   go_enter Try.func34, Try.ntmps34
   go_wp2
   go_ret
   exact ⟨by first | rfl | (simp; done) | (simp [*]; done), by repeat (first | exact Drawn0.refl _ | apply Drawn0.step)⟩
  ·rw [if_neg c4] at H
   have c4b0 : decide (15 < a1) = false := decide_eq_false c4
   clear c4
   replace H := Option.bind_eq_some_iff.mp H
   obtain ⟨t201, A50, H⟩ := H
   replace H : (if t201 = true then (some a0) else (if 0 ≤ a1 then (some (IntKind.u16.wrap (a0 + (shl .u16 1 a1)))) else (none))) = some r := H
   have A5 := Aside0.mk A50
   clear A50
   by_cases c6 : t201 = true
   ·subst c6
    have H1 : (some a0) = some r := by rw [if_pos rfl] at H; exact H
    clear H
    have H := H1
    clear H1
    obtain rfl := Option.some.inj H
    go_enter Try.func34, Try.ntmps34
    go_wp2_with (first | (go_at_call 35; (with_reducible refine (palletref08_Has.calls a0 a1 true _ A5.out).mono ?_); rintro e w' ⟨rfl, ⟨nd, rfl⟩⟩))
    go_ret
    exact ⟨by first | rfl | (simp; done) | (simp [*]; done), by repeat (first | exact Drawn0.refl _ | apply Drawn0.step)⟩
   ·replace c6 := Bool.eq_false_iff.mpr c6
    subst c6
    have H1 : (if 0 ≤ a1 then (some (IntKind.u16.wrap (a0 + (shl .u16 1 a1)))) else (none)) = some r := by rw [if_neg (show ¬ (false = true) by decide)] at H; exact H
    clear H
    have H := H1
    clear H1
    by_cases c7 : 0 ≤ a1
    ·rw [if_pos c7] at H
     have c7b0 := eq_true c7
     have c7b1 : decide (0 ≤ a1) = true := decide_eq_true c7
     clear c7
     obtain ⟨ji8, hji8⟩ : ∃ j_ : Int, (shl .u16 1 a1) = j_ := ⟨_, rfl⟩
     replace H : (some (IntKind.u16.wrap (a0 + (ji8)))) = some r := by first | (rw [hji8] at H; exact H) | (simp only [hji8] at H ⊢; exact H)
     (try rw [hji8] at A5)
     have hji8_ : (IntKind.u16.wrap (1 * 2 ^ min a1.toNat 16)) = ji8 := hji8
     have hji8z : a1 ≤ 16 → (IntKind.u16.wrap (1 * 2 ^ a1.toNat)) = ji8 := shl_small hji8
     have hji8u : (IntKind.u16.wrap (2 ^ min a1.toNat 16)) = ji8 := by have h_ := hji8_; rw [Int.one_mul] at h_; exact h_
     have hji8v : a1 ≤ 16 → (IntKind.u16.wrap (2 ^ a1.toNat)) = ji8 := fun hle_ => by have h_ := hji8z hle_; rw [Int.one_mul] at h_; exact h_
     obtain rfl := Option.some.inj H
     go_enter Try.func34, Try.ntmps34
     go_wp2_with (first | (go_at_call 35; (with_reducible refine (palletref08_Has.calls a0 a1 false _ A5.out).mono ?_); rintro e w' ⟨rfl, ⟨nd, rfl⟩⟩))
     go_ret
     exact ⟨by first | rfl | (simp; done) | (simp only [← hji8] <;> (first | rfl | simp)) | (simp [*]; done), by repeat (first | exact Drawn0.refl _ | apply Drawn0.step)⟩
    ·rw [if_neg c7] at H
     exact absurd H (by simp)

/-! ### palletref08_Without: function 36 -/
def palletref08_Without.f (a0 : Int) (a1 : Int) : Option (Int) := (palletref08_Has.f a0 a1).bind fun t202 => (if t202 = true then (if 0 ≤ a1 then (some (IntKind.u16.wrap (a0 - (shl .u16 1 a1)))) else (none)) else (some a0))
set_option maxHeartbeats 8000000 in
set_option maxRecDepth 100000 in
theorem palletref08_Without.calls (a0 : Int) (a1 : Int) (r : Int) (w : World) (h : palletref08_Without.f a0 a1 = some r) :
  Calls Try.prog 36 #[.int .u16 a0, .int .i64 a1] w fun e w' => e = .returned (.int .u16 r) ∧ Drawn0 w w' := by
 have H : ((palletref08_Has.f a0 a1).bind fun t202 => (if t202 = true then (if 0 ≤ a1 then (some (IntKind.u16.wrap (a0 - (shl .u16 1 a1)))) else (none)) else (some a0))) = some r := h
 clear h
 replace H := Option.bind_eq_some_iff.mp H
 obtain ⟨t202, A30, H⟩ := H
 replace H : (if t202 = true then (if 0 ≤ a1 then (some (IntKind.u16.wrap (a0 - (shl .u16 1 a1)))) else (none)) else (some a0)) = some r := H
 have A3 := Aside0.mk A30
 clear A30
 by_cases c4 : t202 = true
 ·subst c4
  have H1 : (if 0 ≤ a1 then (some (IntKind.u16.wrap (a0 - (shl .u16 1 a1)))) else (none)) = some r := by rw [if_pos rfl] at H; exact H
  clear H
  have H := H1
  clear H1
  by_cases c5 : 0 ≤ a1
  ·rw [if_pos c5] at H
   have c5b0 := eq_true c5
   have c5b1 : decide (0 ≤ a1) = true := decide_eq_true c5
   clear c5
   obtain ⟨ji6, hji6⟩ : ∃ j_ : Int, (shl .u16 1 a1) = j_ := ⟨_, rfl⟩
   replace H : (some (IntKind.u16.wrap (a0 - (ji6)))) = some r := by first | (rw [hji6] at H; exact H) | (simp only [hji6] at H ⊢; exact H)
   (try rw [hji6] at A3)
   have hji6_ : (IntKind.u16.wrap (1 * 2 ^ min a1.toNat 16)) = ji6 := hji6
   have hji6z : a1 ≤ 16 → (IntKind.u16.wrap (1 * 2 ^ a1.toNat)) = ji6 := shl_small hji6
   have hji6u : (IntKind.u16.wrap (2 ^ min a1.toNat 16)) = ji6 := by have h_ := hji6_; rw [Int.one_mul] at h_; exact h_
   have hji6v : a1 ≤ 16 → (IntKind.u16.wrap (2 ^ a1.toNat)) = ji6 := fun hle_ => by have h_ := hji6z hle_; rw [Int.one_mul] at h_; exact h_
   obtain rfl := Option.some.inj H
   go_enter Try.func36, Try.ntmps36
   go_wp2_with (first | ((with_reducible refine gate_callee (f := 35) rfl ?_); refine goesL_ (some 7) rfl rfl Try.func35 (by kernel_rfl) rfl #[.int .u16 a0, .int .i64 a1] rfl (by (try simp only [List.map_toArray, List.map_cons, List.map_nil]); first | done | rfl | (simp only [List.length_drop, List.length_take]; rfl)) ?_; (with_reducible refine (palletref08_Has.calls a0 a1 true _ A3.out).mono ?_); rintro e w' ⟨rfl, ⟨nd, rfl⟩⟩; refine ⟨_, rfl, ?_⟩))
   go_ret
   exact ⟨by first | rfl | (simp; done) | (simp only [← hji6] <;> (first | rfl | simp)) | (simp [*]; done), by repeat (first | exact Drawn0.refl _ | apply Drawn0.step)⟩
  ·rw [if_neg c5] at H
   exact absurd H (by simp)
 ·replace c4 := Bool.eq_false_iff.mpr c4
  subst c4
  have H1 : (some a0) = some r := by rw [if_neg (show ¬ (false = true) by decide)] at H; exact H
  clear H
  have H := H1
  clear H1
  obtain rfl := Option.some.inj H
  go_enter Try.func36, Try.ntmps36
  go_wp2_with (first | ((with_reducible refine gate_callee (f := 35) rfl ?_); refine goesL_ (some 7) rfl rfl Try.func35 (by kernel_rfl) rfl #[.int .u16 a0, .int .i64 a1] rfl (by (try simp only [List.map_toArray, List.map_cons, List.map_nil]); first | done | rfl | (simp only [List.length_drop, List.length_take]; rfl)) ?_; (with_reducible refine (palletref08_Has.calls a0 a1 false _ A3.out).mono ?_); rintro e w' ⟨rfl, ⟨nd, rfl⟩⟩; refine ⟨_, rfl, ?_⟩))
  go_ret
  exact ⟨by first | rfl | (simp; done) | (simp [*]; done), by repeat (first | exact Drawn0.refl _ | apply Drawn0.step)⟩

end Go.Proofs.Ytcanccdhedmdmaa.Print
