/- Nodes that send one behind the other, each as late as the one before, or off by no more than the window, pass round by round; the slot is theirs. Conditions: none but that each number is of its kind, and the list's length of a slice. -/
import Derived.Test.YtpfkiljakiiieaaGuardPass
import Derived.Test.YtpfkiljakiiieaaPrint0
import Derived.Test.YtpfkiljakiiieaaPrint22
set_option linter.unusedVariables false
set_option linter.unusedSimpArgs false
namespace Go.Proofs.Ytpfkiljakiiieaa.Pure
open Go.RowKit Go.Proofs.Ytpfkiljakiiieaa.Print Go.Proofs.YtpfkiljakiiieaaW.PrintWords Go.Proofs.YtpfkiljakiiieaaW.PrintLast Go.Proofs.YtpfkiljakiiieaaW.PrintMore Go.Proofs.Ytpfkiljakiiieaa.Medl

section
variable {n s l f w p : Int}
theorem chains_loop (hsc : Sc n s l f w p) (hp : p ≤ 1000) (off : List Int) (hoff : ∀ y ∈ off, -9223372036854775808 ≤ y ∧ y ≤ 9223372036854775807) (hlen : off.length ≤ 50) (d : Nat) : ∀ (k : Nat) (i : Nat) (gs ga : Int), i ≤ off.length → off.length - i = d → d + 10 ≤ k →
    0 ≤ gs → gs ≤ 1073741824 + i → 0 ≤ ga → ga ≤ 1125899906842624 + 2097152000 * i →
    palletlaw12_GuardChains.l0 k p true off (off.length : Int) (i : Int) true true gs ga n s l f w = some true := by
  have r := sp_range hsc
  obtain ⟨⟨g1, g2, h1, h2, h3, h4, h5, h6, h7, h8, h9, h10⟩, h11, h12⟩ := id hsc
  have hsp : s * p ≤ 1048576 * 1000 := Int.mul_le_mul h2 hp (by omega) (by omega)
  have hlp : l * p ≤ s * p := Int.mul_le_mul h4 (Int.le_refl p) (by omega) (by omega)
  have hwp : w * p ≤ l * p := Int.mul_le_mul h9 (Int.le_refl p) (by omega) (by omega)
  have hsum : (l + f + w + 1) * p ≤ s * p := Int.mul_le_mul (by omega) (Int.le_refl p) (by omega) (by omega)
  rw [Int.add_mul, Int.add_mul, Int.add_mul, Int.one_mul] at hsum
  have hwide : wrap64 ((wrap64 ((wrap64 (2 * w)) * p)) + 1) = 2 * (w * p) + 1 := by
    rw [w64 (x := 2 * w) (by omega) (by omega), Int.mul_assoc, w64 (x := 2 * (w * p)) (by omega) (by omega), w64 (by omega) (by omega)]
  induction d with
  | zero =>
    intro k i gs ga hi hd hk hgs hgs2 hga hga2
    obtain ⟨k, rfl⟩ : ∃ m, k = m + 1 := ⟨k - 1, by omega⟩
    simp only [palletlaw12_GuardChains.l0]
    rw [if_neg (by omega)]
  | succ d ih =>
    intro k i gs ga hi hd hk hgs hgs2 hga hga2
    obtain ⟨k, rfl⟩ : ∃ m, k = m + 1 := ⟨k - 1, by omega⟩
    have hlt : i < off.length := by omega
    have hy := hoff (off.getD i 0) (by rw [List.getD_eq_getElem?_getD, List.getElem?_eq_getElem hlt]; exact List.getElem_mem hlt)
    simp only [palletlaw12_GuardChains.l0]
    rw [if_pos (by omega), if_pos (by omega), if_pos (by omega), hwide, rd_nat, u64 (x := gs + 1) (by omega) (by omega), owner_ok hsc.1 (by omega) (by omega)]
    simp only [Option.bind_some]
    rw [if_neg (by omega)]
    generalize off.getD i 0 = y at *
    have hmod : -(2 * (w * p) + 1) < Int.tmod y (2 * (w * p) + 1) ∧ Int.tmod y (2 * (w * p) + 1) < 2 * (w * p) + 1 := by
      have e1 := Int.lt_tmod_of_pos y (show 0 < 2 * (w * p) + 1 by omega)
      have e2 := Int.tmod_lt_of_pos y (show 0 < 2 * (w * p) + 1 by omega)
      omega
    generalize Int.tmod y (2 * (w * p) + 1) = m at *
    rw [w64 (x := m + (2 * (w * p) + 1)) (by omega) (by omega), Int.tmod_eq_emod_of_nonneg (by omega)]
    have hdd : 0 ≤ (m + (2 * (w * p) + 1)) % (2 * (w * p) + 1) ∧ (m + (2 * (w * p) + 1)) % (2 * (w * p) + 1) < 2 * (w * p) + 1 := ⟨Int.emod_nonneg _ (by omega), Int.emod_lt_of_pos _ (by omega)⟩
    generalize (m + (2 * (w * p) + 1)) % (2 * (w * p) + 1) = dd at *
    rw [w64 (x := s * p) (by omega) (by omega), w64 (x := l * p) (by omega) (by omega), w64 (x := w * p) (by omega) (by omega), w64 (x := ga + s * p) (by omega) (by omega), w64 (x := ga + s * p + l * p) (by omega) (by omega), w64 (x := ga + s * p + l * p + dd) (by omega) (by omega), w64 (x := ga + s * p + l * p + dd - w * p) (by omega) (by omega), w64 (x := ga + s * p + l * p + dd - w * p - l * p) (by omega) (by omega)]
    have hb : ga + s * p + l * p + dd - w * p - l * p - ga = 1 * (s * p) + (dd - w * p) := by omega
    have hnear : near (s * p) (ga + s * p + l * p + dd - w * p - l * p - ga) = (1, dd - w * p) := by rw [hb]; exact near_of (by omega) (by omega) (by omega)
    have hown := mod_lt hsc.1 (x := gs + 1) (by omega)
    have hpa : Pa n s l f w p true gs ga ((gs + 1) % n) (ga + s * p + l * p + dd - w * p) := ⟨hsc, ⟨.inl rfl, by omega, by unfold Tm; omega⟩, hown, by omega, by unfold Tm; omega⟩
    have hpk : Pk n (s * p) (w * p) gs ga ((gs + 1) % n) (ga + s * p + l * p + dd - w * p - l * p) := by
      unfold Pk
      rw [hnear]
      exact ⟨by unfold Tm; omega, by show (0 : Int) ≤ 1; omega, by show (1 : Int) ≤ 4294967296; omega, by show -(w * p) ≤ dd - w * p; omega, by show dd - w * p ≤ w * p; omega, by show gs + 1 ≤ _; omega, rfl⟩
    rw [pass_known (by omega) hgs hpa, if_pos hpk, hnear]
    simp only [Option.bind_some, if_true]
    rw [w64 (x := (i : Int) + 1) (by omega) (by omega), show (i : Int) + 1 = ((i + 1 : Nat) : Int) by omega]
    exact ih k (i + 1) (gs + 1) _ (by omega) (by omega) (by omega) (by omega) (by omega) (by omega) (by omega)
end
theorem GuardChains : ∀ (a0_0 : Bool) (a0_1 : Bool) (a0_2 : Int) (a0_3 : Int) (a1_0 : Int) (a1_1 : Int) (a1_2 : Int) (a1_3 : Int) (a1_4 : Int) (a2 : Int) (l3 : List Int), (Lit.int .u64 a0_2).wf = true → (Lit.int .i64 a0_3).wf = true → (Lit.int .i64 a1_0).wf = true → (Lit.int .i64 a1_1).wf = true → (Lit.int .i64 a1_2).wf = true → (Lit.int .i64 a1_3).wf = true → (Lit.int .i64 a1_4).wf = true → (Lit.int .i64 a2).wf = true → l3.length ≤ maxLen → l3.length * 8 ≤ 140737488351232 → (∀ y ∈ l3, (Lit.int .i64 y).wf = true) → ∃ k, palletlaw12_GuardChains.f k a0_0 a0_1 a0_2 a0_3 a1_0 a1_1 a1_2 a1_3 a1_4 a2 l3 = some true := by
  intro on known gs ga n s l f w p off hgs hga hn hs hl hf hw hp hl1 hl2 hoff
  have hgs := wfu64 hgs
  obtain ⟨k, hk⟩ : ∃ k : Nat, k = 100 := ⟨100, rfl⟩
  refine ⟨k + 1, ?_⟩
  unfold palletlaw12_GuardChains.f
  rw [live12 (by omega)]
  simp only [Option.bind_some, if_true]
  by_cases h : Ok n s l f w
  case neg =>
    rw [check_no h]
    simp [palletlaw12_GuardChains.j0]
  rw [check_ok h]
  simp only [Option.bind_some, if_true]
  by_cases c1 : p < 1
  · rw [if_pos c1]; simp [palletlaw12_GuardChains.j0]
  rw [if_neg c1]
  by_cases c2 : p > 1000
  · rw [if_pos c2]; simp [palletlaw12_GuardChains.j0]
  rw [if_neg c2, gcheck_eq (by omega)]
  by_cases c3 : Gd known gs ga
  case neg =>
    rw [if_neg c3]; simp [palletlaw12_GuardChains.j0]
  rw [if_pos c3]
  simp only [Option.bind_some, if_true]
  by_cases c4 : known = true
  case neg =>
    rw [if_neg c4]; simp [palletlaw12_GuardChains.j0]
  rw [if_pos c4]
  by_cases c5 : ga < 0
  · rw [if_pos c5]; simp [palletlaw12_GuardChains.j0]
  rw [if_neg c5]
  by_cases c6 : ga > 1125899906842624
  · rw [if_pos c6]; simp [palletlaw12_GuardChains.j0]
  rw [if_neg c6]
  by_cases c7 : gs > 1073741824
  · rw [if_pos c7]; simp [palletlaw12_GuardChains.j0]
  rw [if_neg c7]
  by_cases c8 : (off.length : Int) > 50
  · rw [decide_eq_true c8]; simp [palletlaw12_GuardChains.j0]
  rw [decide_eq_false c8]
  simp only [palletlaw12_GuardChains.j0]
  rw [if_neg (by decide), c4]
  exact chains_loop (p := p) ⟨h, by omega, by omega⟩ (by omega) off (fun y hy => wf64 (hoff y hy)) (by omega) off.length k 0 gs ga (by omega) (by omega) (by omega) hgs.1 (by omega) (by omega) (by omega)
end Go.Proofs.Ytpfkiljakiiieaa.Pure
