/- A clock is corrected by no more than its window, and by the mean itself, if that is within; by nothing, if nothing was heard, or all were in time. Conditions: none but that each number is of its kind, and the list's length a slice's. -/
import Derived.Test.YticlckhgobegnaaFta09b
import Derived.Test.YticlckhgobegnaaPrint0
import Derived.Test.YticlckhgobegnaaPrint9
import Derived.Test.YticlckhgobegnaaPrint10
set_option linter.unusedVariables false
set_option linter.unusedSimpArgs false
namespace Go.Proofs.Yticlckhgobegnaa.Pure
open Go Go.RowKit Go.Proofs.Yticlckhgobegnaa.Print Go.Proofs.YticlckhgobegnaaW.PrintWords Go.Proofs.YticlckhgobegnaaW.PrintLast Go.Proofs.YticlckhgobegnaaW.PrintMore Go.Proofs.Yticlckhgobegnaa.Fta09
theorem clip_eq (v w : Int) (h : 0 ≤ w) (h2 : w ≤ 9223372036854775807) : fta_Clip.f v w = some (mn (mx v (-w)) w, 0) := by
  unfold fta_Clip.f
  rw [if_neg (by omega), Go.Proofs.Yticlckhgobegnaa.Fta09.i64 (by omega) (by omega)]
theorem clip_in (v w : Int) (h : 0 ≤ w) : -w ≤ mn (mx v (-w)) w ∧ mn (mx v (-w)) w ≤ w ∧ (-w ≤ v → v ≤ w → mn (mx v (-w)) w = v) := by
  unfold mn mx
  refine ⟨?_, ?_, fun a b => ?_⟩ <;> (repeat' split) <;> omega
theorem cor_zeros (n : Nat) (hn : n ≤ 64) (w : Int) (h : 0 ≤ w) (h2 : w ≤ 9223372036854775807) : fta_Correct.f w (List.replicate n 0) = some (0, 0) := by
  unfold fta_Correct.f
  rw [if_neg (by omega), avg_eq _ (fun y hy => by have := List.eq_of_mem_replicate hy; omega), Option.bind_some]
  have z := (clip_in 0 w h).2.2 (by omega) h
  by_cases h0 : n = 0
  · subst h0
    have : avg (List.replicate 0 0) = (0, 8) := rfl
    rw [this, if_neg (by simp), if_pos rfl, clip_eq _ _ h h2, Option.bind_some, z]
  · rw [avg_zeros n hn (by omega), if_pos rfl, clip_eq _ _ h h2, Option.bind_some, z]
theorem FtaClips : ∀ (a0 : Int) (l1 : List Int), (Lit.int .i64 a0).wf = true → l1.length ≤ maxLen → l1.length * 8 ≤ 140737488351232 → (∀ y ∈ l1, (Lit.int .i64 y).wf = true) → ∃ k, palletlaw09_FtaClips.f k a0 l1 = some true := by
  intro w l hw hl1 hl2 hl
  have hw := wf64 hw
  have hl : W l := fun y hy => wf64 (hl y hy)
  refine ⟨1, ?_⟩
  unfold palletlaw09_FtaClips.f
  rw [live9, Option.bind_some, if_pos rfl]
  by_cases h0 : w < 0
  · have e : ∀ m : List Int, fta_Correct.f w m = some (0, 1) := fun m => by unfold fta_Correct.f; rw [if_pos h0]
    rw [e, e, Option.bind_some, Option.bind_some, if_pos h0, if_pos rfl]
    rfl
  · have h2 : 0 ≤ w := by omega
    have e0 : fta_Correct.f w [] = some (0, 0) := cor_zeros 0 (by omega) w h2 hw.2
    have ea := avg_eq l hl
    by_cases hn : l.length ≤ 64
    · have en := cor_zeros l.length hn w h2 hw.2
      obtain ⟨v, ec, hv1, hv2, hv3⟩ : ∃ v, fta_Correct.f w l = some (v, 0) ∧ -w ≤ v ∧ v ≤ w ∧ ((avg l).2 = 0 → -w ≤ (avg l).1 → (avg l).1 ≤ w → v = (avg l).1) := by
        have c := clip_in (avg l).1 w h2
        refine ⟨mn (mx (avg l).1 (-w)) w, ?_, c.1, c.2.1, fun _ => c.2.2⟩
        unfold fta_Correct.f
        rw [if_neg h0, ea, Option.bind_some]
        by_cases hz : (avg l).2 = 0
        · rw [if_pos hz, clip_eq _ _ h2 hw.2, Option.bind_some]
        · have h8 : (avg l).2 = 8 := by
            unfold avg at hz ⊢
            rw [if_neg (by omega)] at hz ⊢
            split at hz <;> simp_all
          rw [if_neg hz, if_pos h8, clip_eq _ _ h2 hw.2, Option.bind_some]
      rw [ec, e0, Option.bind_some, Option.bind_some, if_neg h0, if_pos rfl]
      dsimp only
      rw [show ((0 : Int) != 0) = false from rfl, palletlaw09_FtaClips.j0, if_neg (by simp), if_pos rfl, ea, Option.bind_some, if_neg (by omega), Go.Proofs.Yticlckhgobegnaa.Fta09.i64 (by omega) (by omega), if_neg (by omega)]
      have en2 : fta_Correct.f w (List.replicate ((l.length : Int) : Int).toNat 0) = some (0, 0) := en
      simp only [en2, Option.bind_some, if_true, beq_self_eq_true]
      rw [if_pos (show (0 : Int) ≤ (l.length : Int) by omega), if_pos (show ((l.length : Int)).toNat ≤ 35184372088832 by omega)]
      by_cases c1 : (avg l).2 = 0
      · rw [if_pos c1]
        by_cases c2 : (avg l).1 ≤ w
        · rw [if_pos c2]
          by_cases c3 : (avg l).1 ≥ -w
          · rw [if_pos c3, if_pos (hv3 c1 c3 c2)]
          · rw [if_neg c3]
        · rw [if_neg c2]
      · rw [if_neg c1]
    · have ec : fta_Correct.f w l = some (0, 7) := by
        unfold fta_Correct.f
        rw [if_neg h0, ea, Option.bind_some]
        have a7 : avg l = (0, 7) := by
          unfold avg
          exact if_pos (by omega)
        rw [a7, if_neg (by simp), if_neg (by simp)]
      rw [ec, e0, Option.bind_some, Option.bind_some, if_neg h0, if_pos rfl]
      dsimp only
      rw [show ((0 : Int) != 0) = false from rfl, palletlaw09_FtaClips.j0, if_neg (by simp), if_neg (by simp), if_pos rfl]
      simp
      omega
end Go.Proofs.Yticlckhgobegnaa.Pure
