/- Whether texts are short enough to be played (layer 2), as printed. -/
import Derived.Test.YtnmepjpjpillcaaWire4
import Derived.Test.YtnmepjpjpillcaaLive02
import Derived.Test.YtnmepjpjpillcaaPrint0
import Derived.Test.YtnmepjpjpillcaaPrint7
set_option linter.unusedVariables false
set_option linter.unusedSimpArgs false
namespace Go.Proofs.Ytnmepjpjpillcaa.Wire4
open Go Go.RowKit Go.Proofs.Ytnmepjpjpillcaa.Print Go.Proofs.YtnmepjpjpillcaaW.PrintWords Go.Proofs.YtnmepjpjpillcaaW.PrintLast Go.Proofs.YtnmepjpjpillcaaW.PrintMore Go.Proofs.Ytnmepjpjpillcaa.Len64 Go.Proofs.Ytnmepjpjpillcaa.Wire Go.Proofs.Ytnmepjpjpillcaa.WireSpec Go.Proofs.Ytnmepjpjpillcaa.Wire2
theorem few1 {k : Nat} (hk : 2 ≤ k) (l : List Int) : palletlaw02_few.f k [l] = some (decide (l.length ≤ 3000)) := by
  obtain ⟨k, rfl⟩ : ∃ m, k = m + 2 := ⟨k - 2, by omega⟩
  unfold palletlaw02_few.f
  simp only [palletlaw02_few.l0]
  rw [if_pos (by simp), if_pos (by decide), if_pos (by simp), show rd_L2 [l] 0 = l from rfl]
  by_cases h : l.length ≤ 3000
  · rw [if_neg (by omega), decide_eq_true h, show wrap64 (0 + 1) = 1 by decide +kernel, if_neg (by simp)]
  · rw [if_pos (by omega), decide_eq_false h]
theorem few2 {k : Nat} (hk : 3 ≤ k) (l m : List Int) : palletlaw02_few.f k [l, m] = some (decide (l.length ≤ 3000 ∧ m.length ≤ 3000)) := by
  obtain ⟨k, rfl⟩ : ∃ j, k = j + 3 := ⟨k - 3, by omega⟩
  unfold palletlaw02_few.f
  simp only [palletlaw02_few.l0]
  rw [if_pos (by simp), if_pos (by decide), if_pos (by simp), show rd_L2 [l, m] 0 = l from rfl]
  by_cases h : l.length ≤ 3000
  · rw [if_neg (by omega), show wrap64 (0 + 1) = 1 by decide +kernel, if_pos (by simp), if_pos (by decide), if_pos (by simp), show rd_L2 [l, m] 1 = m from rfl]
    by_cases h2 : m.length ≤ 3000
    · rw [if_neg (by omega), show wrap64 (1 + 1) = 2 by decide +kernel, if_neg (by simp), decide_eq_true ⟨h, h2⟩]
    · rw [if_pos (by omega), decide_eq_false (fun q => h2 q.2)]
  · rw [if_pos (by omega), decide_eq_false (fun q => h q.1)]
/-- Numbers that came in. -/
theorem u64s_of {l : List Int} (h : ∀ y ∈ l, (Lit.int .u64 y).wf = true) : ∃ m : List Nat, l = cs m ∧ ∀ n ∈ m, n < 18446744073709551616 := by
  refine ⟨l.map Int.toNat, ?_, ?_⟩
  · unfold cs
    rw [List.map_map]
    have : ∀ y ∈ l, ((fun a : Nat => (a : Int)) ∘ Int.toNat) y = y := by
      intro y hy
      have h : 0 ≤ y ∧ y ≤ 18446744073709551615 := by simpa [Lit.wf, IntKind.min, IntKind.max, IntKind.signed, IntKind.bits] using h y hy
      show ((y.toNat : Nat) : Int) = y
      omega
    rw [List.map_congr_left this, List.map_id']
  · intro x hx
    obtain ⟨y, hy, rfl⟩ := List.mem_map.1 hx
    have h : 0 ≤ y ∧ y ≤ 18446744073709551615 := by simpa [Lit.wf, IntKind.min, IntKind.max, IntKind.signed, IntKind.bits] using h y hy
    omega
theorem i64_of {x : Int} (h : (Lit.int .i64 x).wf = true) : -9223372036854775808 ≤ x ∧ x ≤ 9223372036854775807 := by simpa [Lit.wf, IntKind.min, IntKind.max, IntKind.signed, IntKind.bits] using h
theorem u8_of {x : Int} (h : (Lit.int .u8 x).wf = true) : ∃ n : Nat, x = n ∧ n < 256 := by
  have h : 0 ≤ x ∧ x ≤ 255 := by simpa [Lit.wf, IntKind.min, IntKind.max, IntKind.signed, IntKind.bits] using h
  exact ⟨x.toNat, by omega, by omega⟩
end Go.Proofs.Ytnmepjpjpillcaa.Wire4
