/- Of the opposite the parts are the opposite, and one fewer, if something is left; with what is divided by, and multiplied by, so many times greater, they are the same. Conditions: none but that each number is of its kind. -/
import Derived.Test.YtmkjljekofondaaScale01
import Derived.Test.YtmkjljekofondaaLive01
import Derived.Test.YtmkjljekofondaaPrint0
import Derived.Test.YtmkjljekofondaaPrint10
set_option linter.unusedVariables false
set_option linter.unusedSimpArgs false
namespace Go.Proofs.Ytmkjljekofondaa.Pure
open Go.RowKit Go.Proofs.Ytmkjljekofondaa.Print Go.Proofs.YtmkjljekofondaaW.PrintWords Go.Proofs.YtmkjljekofondaaW.PrintLast Go.Proofs.YtmkjljekofondaaW.PrintMore
open Go Go.Proofs.Ytmkjljekofondaa.Medl Go.Proofs.Ytmkjljekofondaa.Scale01
theorem sc_wide {a n d : Int} (ha : -4294967296 ≤ a ∧ a ≤ 4294967296) (hn : 0 ≤ n ∧ n ≤ 16777216) (hd : 1 ≤ d ∧ d ≤ 16777216) : sc a n d = (a * n / d, a * n % d, 0) ∧ -72057594037927936 ≤ a * n / d ∧ a * n / d ≤ 72057594037927936 := by
  have h1 : a * n ≤ 4294967296 * 16777216 := Int.le_trans (Int.mul_le_mul_of_nonneg_right ha.2 hn.1) (Int.mul_le_mul_of_nonneg_left hn.2 (by decide))
  have h2 : -4294967296 * 16777216 ≤ a * n := Int.le_trans (by
    have := Int.mul_le_mul_of_nonneg_left hn.2 (show (0 : Int) ≤ 4294967296 by decide)
    omega) (Int.mul_le_mul_of_nonneg_right ha.1 hn.1)
  have b : -72057594037927936 ≤ a * n / d ∧ a * n / d ≤ 72057594037927936 := by
    constructor
    · refine (Int.le_ediv_iff_mul_le (by omega)).2 ?_
      have := Int.mul_le_mul_of_nonneg_left hd.1 (show (0 : Int) ≤ 72057594037927936 by decide)
      omega
    · refine Int.le_of_lt_add_one ((Int.ediv_lt_iff_lt_mul (by omega)).2 ?_)
      have := Int.mul_le_mul_of_nonneg_left hd.1 (show (0 : Int) ≤ 72057594037927937 by decide)
      omega
  refine ⟨?_, b⟩
  unfold sc
  rw [if_pos ⟨by unfold Tm; omega, by unfold Tm; omega, by unfold Tm; omega, hd.1⟩, if_pos (by unfold Tm; omega)]
theorem PicoSigns : ∀ (a0 : Int) (a1 : Int) (a2 : Int) (a3 : Int), (Lit.int .i32 a0).wf = true → (Lit.int .u16 a1).wf = true → (Lit.int .u16 a2).wf = true → (Lit.int .u8 a3).wf = true → ∃ k, palletlaw01_PicoSigns.f k a0 a1 a2 a3 = some true := by
  intro a n m by' h0 h1 h2 h3
  have h0 := wf32 h0
  have h1 := wfu16 h1
  have h2 := wfu16 h2
  have h3 := wfu8 h3
  refine ⟨100, ?_⟩
  obtain ⟨d, hd⟩ : ∃ d : Int, m + 1 = d := ⟨_, rfl⟩
  obtain ⟨k, hk⟩ : ∃ k : Int, by' + 1 = k := ⟨_, rfl⟩
  have kn0 : 0 ≤ k * n := Int.mul_nonneg (by omega) h1.1
  have kn1 : k * n ≤ 256 * 65535 := Int.mul_le_mul (by omega) h1.2 h1.1 (by decide)
  have kd0 : 1 * 1 ≤ k * d := Int.mul_le_mul (by omega) (by omega) (by decide) (by omega)
  have kd1 : k * d ≤ 256 * 65536 := Int.mul_le_mul (by omega) (by omega) (by omega) (by decide)
  unfold palletlaw01_PicoSigns.f
  rw [live1 (by omega), Option.bind_some, if_pos rfl, w64 (x := m) (by omega) (by omega), hd, w64 (x := by') (by omega) (by omega), hk, w64 (x := d) (by omega) (by omega), w64 (x := k) (by omega) (by omega), w64 (x := n) (by omega) (by omega), w64 (x := a) (by omega) (by omega), w64 (x := -a) (by omega) (by omega), w64 (x := k * n) (by omega) (by omega), w64 (x := k * d) (by omega) (by omega)]
  simp only [scale_eq (show 60 ≤ 100 by omega), Option.bind_some]
  obtain ⟨e1, b1⟩ := sc_wide (a := a) (n := n) (d := d) (by omega) (by omega) (by omega)
  obtain ⟨e2, b2⟩ := sc_wide (a := -a) (n := n) (d := d) (by omega) (by omega) (by omega)
  obtain ⟨e3, b3⟩ := sc_wide (a := a) (n := k * n) (d := k * d) (by omega) (by omega) (by omega)
  have r0 := Int.emod_nonneg (a * n) (show d ≠ 0 by omega)
  have r1 := Int.emod_lt_of_pos (a * n) (show 0 < d by omega)
  have f1 : a * (k * n) / (k * d) = a * n / d := by
    rw [Int.mul_left_comm, Int.mul_ediv_mul_of_pos _ _ (by omega)]
  have f2 : a * (k * n) % (k * d) = k * (a * n % d) := by
    rw [Int.mul_left_comm, Int.mul_emod_mul_of_pos _ _ (by omega)]
  have g := neg_div (P := a * n) (d := d) (by omega)
  rw [e1, e2, e3]
  simp only [if_true]
  have kr0 : 0 ≤ k * (a * n % d) := Int.mul_nonneg (by omega) r0
  have kr1 : k * (a * n % d) ≤ 256 * 65536 := Int.mul_le_mul (by omega) (by omega) r0 (by decide)
  rw [if_pos f1, f2, w64 (x := k * (a * n % d)) (by omega) (by omega), Int.neg_mul, g.1, g.2]
  generalize a * n / d = q at *
  generalize a * n % d = r at *
  have eb : (k * r != k * r) = false := by simp
  rw [eb]
  show palletlaw01_PicoSigns.j0 (99 + 1) _ _ _ _ _ _ _ = _
  simp only [palletlaw01_PicoSigns.j0]
  rw [if_neg (by decide), w64 (x := -q) (by omega) (by omega), w64 (x := -q - 1) (by omega) (by omega), w64 (x := d - r) (by omega) (by omega)]
  by_cases c : r = 0
  · have z1 : (if r > 0 then -q - 1 else -q) = -q := if_neg (by omega)
    have z2 : (if r > 0 then d - r else r) = 0 := by rw [if_neg (by omega)]; exact c
    rw [z1, z2, if_pos c, if_pos trivial, if_pos rfl]
    rfl
  · have z1 : (if r > 0 then -q - 1 else -q) = -q - 1 := if_pos (by omega)
    have z2 : (if r > 0 then d - r else r) = d - r := if_pos (by omega)
    rw [z1, z2, if_neg c, if_pos trivial, if_pos rfl, beq_self_eq_true]
end Go.Proofs.Ytmkjljekofondaa.Pure
