/- Of a greater time the parts are no fewer; of one greater by what it is divided by they are more by what it is multiplied by. Conditions: none but that each number is of its kind. -/
import Derived.Test.YtmkjljekofondaaScale01
import Derived.Test.YtmkjljekofondaaLive01
import Derived.Test.YtmkjljekofondaaPrint0
import Derived.Test.YtmkjljekofondaaPrint9
set_option linter.unusedVariables false
set_option linter.unusedSimpArgs false
namespace Go.Proofs.Ytmkjljekofondaa.Pure
open Go.RowKit Go.Proofs.Ytmkjljekofondaa.Print Go.Proofs.YtmkjljekofondaaW.PrintWords Go.Proofs.YtmkjljekofondaaW.PrintLast Go.Proofs.YtmkjljekofondaaW.PrintMore
open Go Go.Proofs.Ytmkjljekofondaa.Medl Go.Proofs.Ytmkjljekofondaa.Scale01
theorem sc_in {a n d : Int} (ha : -4294967296 ≤ a ∧ a ≤ 4294967296) (hn : 0 ≤ n ∧ n ≤ 65535) (hd : 1 ≤ d ∧ d ≤ 65536) : sc a n d = (a * n / d, a * n % d, 0) ∧ -281474976710656 ≤ a * n / d ∧ a * n / d ≤ 281474976710656 := by
  have h1 : a * n ≤ 4294967296 * 65535 := Int.le_trans (Int.mul_le_mul_of_nonneg_right ha.2 hn.1) (Int.mul_le_mul_of_nonneg_left hn.2 (by decide))
  have h2 : -4294967296 * 65535 ≤ a * n := Int.le_trans (by
    have := Int.mul_le_mul_of_nonneg_left hn.2 (show (0 : Int) ≤ 4294967296 by decide)
    omega) (Int.mul_le_mul_of_nonneg_right ha.1 hn.1)
  have b : -281474976710656 ≤ a * n / d ∧ a * n / d ≤ 281474976710656 := by
    constructor
    · refine (Int.le_ediv_iff_mul_le (by omega)).2 ?_
      have := Int.mul_le_mul_of_nonneg_left hd.1 (show (0 : Int) ≤ 281474976710656 by decide)
      omega
    · refine Int.le_of_lt_add_one ((Int.ediv_lt_iff_lt_mul (by omega)).2 ?_)
      have := Int.mul_le_mul_of_nonneg_left hd.1 (show (0 : Int) ≤ 281474976710657 by decide)
      omega
  refine ⟨?_, b⟩
  unfold sc
  rw [if_pos ⟨by unfold Tm; omega, by unfold Tm; omega, by unfold Tm; omega, hd.1⟩, if_pos (by unfold Tm; omega)]
theorem PicoGrows : ∀ (a0 : Int) (a1 : Int) (a2 : Int) (a3 : Int), (Lit.int .i32 a0).wf = true → (Lit.int .i32 a1).wf = true → (Lit.int .u16 a2).wf = true → (Lit.int .u16 a3).wf = true → ∃ k, palletlaw01_PicoGrows.f k a0 a1 a2 a3 = some true := by
  intro a b n m h0 h1 h2 h3
  have h0 := wf32 h0
  have h1 := wf32 h1
  have h2 := wfu16 h2
  have h3 := wfu16 h3
  refine ⟨100, ?_⟩
  have l0 : -2147483648 ≤ mn a b ∧ mn a b ≤ 2147483647 ∧ -2147483648 ≤ mx a b ∧ mx a b ≤ 2147483647 ∧ mn a b ≤ mx a b := by
    unfold mn mx
    split <;> split <;> omega
  unfold palletlaw01_PicoGrows.f
  rw [live1 (by omega), Option.bind_some, if_pos rfl, w64 (x := m) (by omega) (by omega), w64 (x := m + 1) (by omega) (by omega), w64 (x := n) (by omega) (by omega), w64 (x := a) (by omega) (by omega), w64 (x := mn a b) (by omega) (by omega), w64 (x := mx a b) (by omega) (by omega), w64 (x := a + (m + 1)) (by omega) (by omega)]
  simp only [scale_eq (show 60 ≤ 100 by omega), Option.bind_some]
  obtain ⟨e1, b1⟩ := sc_in (a := mn a b) (n := n) (d := m + 1) (by omega) (by omega) (by omega)
  obtain ⟨e2, b2⟩ := sc_in (a := mx a b) (n := n) (d := m + 1) (by omega) (by omega) (by omega)
  obtain ⟨e3, b3⟩ := sc_in (a := a + (m + 1)) (n := n) (d := m + 1) (by omega) (by omega) (by omega)
  obtain ⟨e4, b4⟩ := sc_in (a := a) (n := n) (d := m + 1) (by omega) (by omega) (by omega)
  rw [e1, e2, e3, e4]
  simp only [if_true]
  have le : mn a b * n / (m + 1) ≤ mx a b * n / (m + 1) := Int.ediv_le_ediv (by omega) (Int.mul_le_mul_of_nonneg_right l0.2.2.2.2 h2.1)
  have ge : (a + (m + 1)) * n / (m + 1) = a * n / (m + 1) + n := by
    rw [Int.add_mul, Int.mul_comm (m + 1) n, Int.add_mul_ediv_right _ _ (by omega)]
  rw [if_pos le, ge, w64 (by omega) (by omega), beq_self_eq_true]
end Go.Proofs.Ytmkjljekofondaa.Pure
