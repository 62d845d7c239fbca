/- A frame just at its place is not late, one by the window early or late is in it, one more is not; one in its window ends ahead of the slot's end, and begins in it. Conditions: none but that each number is of its kind. -/
import Derived.Test.YtpfkiljakiiieaaMedl
import Derived.Test.YtpfkiljakiiieaaLive07
import Derived.Test.YtpfkiljakiiieaaPrint0
import Derived.Test.YtpfkiljakiiieaaPrint6
set_option linter.unusedVariables false
set_option linter.unusedSimpArgs false
namespace Go.Proofs.Ytpfkiljakiiieaa.Pure
open Go.RowKit Go.Proofs.Ytpfkiljakiiieaa.Print Go.Proofs.YtpfkiljakiiieaaW.PrintWords Go.Proofs.YtpfkiljakiiieaaW.PrintLast Go.Proofs.YtpfkiljakiiieaaW.PrintMore Go.Proofs.Ytpfkiljakiiieaa.Medl

theorem MedlWindow : ∀ (a0_0 : Int) (a0_1 : Int) (a0_2 : Int) (a0_3 : Int) (a0_4 : Int) (a1 : Int), (Lit.int .i64 a0_0).wf = true → (Lit.int .i64 a0_1).wf = true → (Lit.int .i64 a0_2).wf = true → (Lit.int .i64 a0_3).wf = true → (Lit.int .i64 a0_4).wf = true → (Lit.int .i64 a1).wf = true → palletlaw07_MedlWindow.f a0_0 a0_1 a0_2 a0_3 a0_4 a1 = some true := by
  intro n s l f w x hn hs hl hf hw hx
  have hx := wf64 hx
  unfold palletlaw07_MedlWindow.f
  rw [live7]
  simp only [Option.bind_some, if_true]
  by_cases h : Ok n s l f w
  · obtain ⟨g1, g2, h1, h2, h3, h4, h5, h6, h7, h8, h9, h10⟩ := id h
    rw [check_ok h]
    simp only [Option.bind_some, if_true]
    rw [w64 (x := l - w) (by omega) (by omega), w64 (x := l + w) (by omega) (by omega), w64 (x := l - w - 1) (by omega) (by omega), w64 (x := l + w + 1) (by omega) (by omega)]
    rw [off_ok h (x := l) (by omega) (by omega), off_ok h (x := l - w) (by omega) (by omega), off_ok h (x := l + w) (by omega) (by omega), off_ok h (x := l - w - 1) (by omega) (by omega), off_ok h (x := l + w + 1) (by omega) (by omega), off_ok h hx.1 hx.2]
    rw [if_neg (by omega), if_neg (by omega), if_neg (by omega), if_neg (by omega), if_neg (by omega), decide_eq_true (show -w ≤ l - l ∧ l - l ≤ w by omega), decide_eq_true (show -w ≤ l - w - l ∧ l - w - l ≤ w by omega), decide_eq_true (show -w ≤ l + w - l ∧ l + w - l ≤ w by omega), decide_eq_false (show ¬ (-w ≤ l - w - 1 - l ∧ l - w - 1 - l ≤ w) by omega), decide_eq_false (show ¬ (-w ≤ l + w + 1 - l ∧ l + w + 1 - l ≤ w) by omega)]
    simp only [Option.bind_some, if_true, Int.sub_self]
    by_cases hc : x - l < -9223372036854775808
    · rw [if_pos hc]
      simp
    · rw [if_neg hc]
      by_cases hd : -w ≤ x - l ∧ x - l ≤ w
      · rw [decide_eq_true hd]
        simp only [if_true]
        rw [if_neg (by omega), w64 (x := x + f) (by omega) (by omega), if_neg (by omega), w64 (x := x - l + l) (by omega) (by omega), if_pos (by omega)]
        simp
      · rw [decide_eq_false hd]
        simp
  · rw [check_no h]
    simp
end Go.Proofs.Ytpfkiljakiiieaa.Pure
