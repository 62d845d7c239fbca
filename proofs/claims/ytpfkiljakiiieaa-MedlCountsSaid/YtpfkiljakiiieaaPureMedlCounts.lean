/- In so many rounds each node has so many slots, and each begins a round behind the one before. Conditions: none but that each number is of its kind. -/
import Derived.Test.YtpfkiljakiiieaaMedl
import Derived.Test.YtpfkiljakiiieaaLive07
import Derived.Test.YtpfkiljakiiieaaPrint0
import Derived.Test.YtpfkiljakiiieaaPrint4
set_option linter.unusedVariables false
set_option linter.unusedSimpArgs false
namespace Go.Proofs.Ytpfkiljakiiieaa.Pure
open Go.RowKit Go.Proofs.Ytpfkiljakiiieaa.Print Go.Proofs.YtpfkiljakiiieaaW.PrintWords Go.Proofs.YtpfkiljakiiieaaW.PrintLast Go.Proofs.YtpfkiljakiiieaaW.PrintMore Go.Proofs.Ytpfkiljakiiieaa.Medl

theorem mod_add2 {n y i q : Int} (hn : 0 < n) (hy : 0 ≤ y) (hi : 0 ≤ i) (hin : i < n) : (y + (n * q + i)) % n = if y % n + i < n then y % n + i else y % n + i - n := by
  have hm : 0 ≤ y % n := Int.emod_nonneg _ (by omega)
  have hm2 : y % n < n := Int.emod_lt_of_pos _ hn
  have e := Int.mul_ediv_add_emod y n
  split
  · have : y + (n * q + i) = (y % n + i) + n * (y / n + q) := by rw [Int.mul_add]; omega
    rw [this, Int.add_mul_emod_self_left, Int.emod_eq_of_lt (by omega) (by omega)]
  · have : y + (n * q + i) = (y % n + i - n) + n * (y / n + q + 1) := by rw [Int.mul_add, Int.mul_add]; omega
    rw [this, Int.add_mul_emod_self_left, Int.emod_eq_of_lt (by omega) (by omega)]
section
variable {n s l f w : Int}
theorem counts_loop (h : Ok n s l f w) {y node R rounds : Int} (hy : 0 ≤ y) (hy2 : y < 2147483648) (ha : 0 ≤ node) (hb : node < n) (hR : 0 ≤ R) (hR2 : R ≤ 7) (hrd : wrap64 (Int.tmod rounds 8) = R) {c : Int} (hc : c = if y % n ≤ node then node - y % n else node - y % n + n) (d : Nat) :
    ∀ (k : Nat) (q r many last : Int), 0 ≤ q → q ≤ R → 0 ≤ r → r < n → n * q + r ≤ n * R → n * R - (n * q + r) = d → d < k → many = q + (if c < r then 1 else 0) → (0 < many → last = s * (y + c + n * (many - 1))) →
    palletlaw07_MedlCounts.l0 k y rounds node true many last (s * n) 0 (n * R) (n * q + r) n s l f w = some true := by
  obtain ⟨hn1, hn2, h1, h2, _⟩ := id h
  have hm := mod_lt h hy
  have hRn : n * R ≤ 16 * 7 := Int.mul_le_mul hn2 hR2 (by omega) (by omega)
  have hRn0 : 0 ≤ n * R := Int.mul_nonneg (by omega) hR
  have hsn : s * n ≤ 1048576 * 16 := Int.mul_le_mul h2 hn2 (by omega) (by omega)
  have hsn0 : 0 ≤ s * n := Int.mul_nonneg (by omega) (by omega)
  induction d with
  | zero =>
    intro k q r many last hq hqR hr hrn hle hd hk hmany hlast
    obtain ⟨k, rfl⟩ : ∃ m, k = m + 1 := ⟨k - 1, by omega⟩
    have hqn : 0 ≤ n * q := Int.mul_nonneg (by omega) hq
    have hqe : q = R := by
      by_cases hlt : q < R
      · have := Int.mul_le_mul_of_nonneg_left (show q + 1 ≤ R by omega) (show 0 ≤ n by omega)
        rw [Int.mul_add] at this
        omega
      · omega
    subst hqe
    obtain rfl : r = 0 := by omega
    have hc0 : 0 ≤ c := by rw [hc]; split <;> omega
    rw [if_neg (by omega)] at hmany
    simp only [palletlaw07_MedlCounts.l0]
    rw [if_neg (by omega), hrd]
    simp [hmany]
  | succ d ih =>
    intro k q r many last hq hqR hr hrn hle hd hk hmany hlast
    obtain ⟨k, rfl⟩ : ∃ m, k = m + 1 := ⟨k - 1, by omega⟩
    have hqn : 0 ≤ n * q := Int.mul_nonneg (by omega) hq
    have hmi := mod_add2 (q := q) (n := n) (by omega) hy hr hrn
    have hqlt : q < R := by
      by_cases hge : q = R
      · subst hge; omega
      · omega
    have hstep : n * q + n ≤ n * R := by
      have := Int.mul_le_mul_of_nonneg_left (show q + 1 ≤ R by omega) (show 0 ≤ n by omega)
      rw [Int.mul_add] at this
      omega
    have next : ∀ m2 last2, m2 = q + (if c < r + 1 then 1 else 0) → (0 < m2 → last2 = s * (y + c + n * (m2 - 1))) → palletlaw07_MedlCounts.l0 k y rounds node true m2 last2 (s * n) 0 (n * R) (wrap64 (n * q + r + 1)) n s l f w = some true := by
      intro m2 last2 hm2 hl2
      rw [w64 (x := n * q + r + 1) (by omega) (by omega)]
      by_cases hw : r + 1 < n
      · have := ih k q (r + 1) m2 last2 hq hqR (by omega) hw (by omega) (by omega) (by omega) hm2 hl2
        rwa [show n * q + (r + 1) = n * q + r + 1 by omega] at this
      · have hrn1 : r = n - 1 := by omega
        have hcn : c < n := by rw [hc]; split <;> omega
        have hc0 : 0 ≤ c := by rw [hc]; split <;> omega
        rw [if_pos (by omega)] at hm2
        have := ih k (q + 1) 0 m2 last2 (by omega) (by omega) (Int.le_refl _) (by omega) (by rw [Int.mul_add]; omega) (by rw [Int.mul_add]; omega) (by omega) (by rw [if_neg (by omega)]; omega) hl2
        rwa [show n * (q + 1) + 0 = n * q + r + 1 by rw [Int.mul_add]; omega] at this
    simp only [palletlaw07_MedlCounts.l0]
    rw [if_pos (by omega), u64 (x := n * q + r) (by omega) (by omega), u64 (x := y + (n * q + r)) (by omega) (by omega), owner_ok h (by omega) (by omega)]
    simp only [Option.bind_some, if_true]
    by_cases hmine : (y + (n * q + r)) % n = node
    · have hrc : r = c := by rw [hmi] at hmine; rw [hc]; split at hmine <;> split <;> omega
      have hbn : s * (y + (n * q + r)) ≤ 1048576 * 4294967296 := Int.mul_le_mul h2 (by omega) (by omega) (by omega)
      have hbn0 : 0 ≤ s * (y + (n * q + r)) := Int.mul_nonneg (by omega) (by omega)
      rw [if_pos hmine, begin_ok h (by omega) (by omega)]
      simp only [Option.bind_some, if_true]
      rw [if_neg (by omega)] at hmany
      have hnow : s * (y + (n * q + r)) = s * (y + c + n * (q + 1 - 1)) := by rw [hrc, show q + 1 - 1 = q by omega]; congr 1; omega
      have hw1 : wrap64 (many + 1) = q + 1 := by rw [w64 (by omega) (by omega)]; omega
      by_cases hpos : many > 0
      · have hl := hlast hpos
        have e : last + s * n = s * (y + (n * q + r)) := by
          rw [hl, ← Int.mul_add, hrc]
          congr 1
          rw [show n * (many - 1) = n * q - n by rw [show many - 1 = q - 1 by omega, Int.mul_sub]; omega]
          omega
        rw [if_pos hpos, e, w64 (x := s * (y + (n * q + r))) (by omega) (by omega), if_pos rfl, hw1]
        exact next (q + 1) _ (by rw [if_pos (by omega)]) (fun _ => hnow)
      · rw [if_neg hpos, hw1]
        exact next (q + 1) _ (by rw [if_pos (by omega)]) (fun _ => hnow)
    · have hrc : r ≠ c := by intro he; apply hmine; rw [hmi, he, hc]; split <;> split <;> omega
      rw [if_neg hmine]
      refine next many last ?_ hlast
      rw [hmany]
      by_cases hcr : c < r
      · rw [if_pos hcr, if_pos (by omega)]
      · rw [if_neg hcr, if_neg (by omega)]
end

theorem MedlCounts : ∀ (a0_0 : Int) (a0_1 : Int) (a0_2 : Int) (a0_3 : Int) (a0_4 : Int) (a1 : Int) (a2 : Int) (a3 : Int), (Lit.int .i64 a0_0).wf = true → (Lit.int .i64 a0_1).wf = true → (Lit.int .i64 a0_2).wf = true → (Lit.int .i64 a0_3).wf = true → (Lit.int .i64 a0_4).wf = true → (Lit.int .u64 a1).wf = true → (Lit.int .u8 a2).wf = true → (Lit.int .i64 a3).wf = true → ∃ k, palletlaw07_MedlCounts.f k a0_0 a0_1 a0_2 a0_3 a0_4 a1 a2 a3 = some true := by
  intro n s l f w x rd node hn hs hl hf hw hx hrd hnode
  obtain ⟨K, hK⟩ : ∃ K : Nat, K = 119 := ⟨119, rfl⟩
  refine ⟨K + 1, ?_⟩
  have hx := wfu64 hx
  have hrd : 0 ≤ rd ∧ rd ≤ 255 := by simpa [Lit.wf, IntKind.min, IntKind.max, IntKind.signed, IntKind.bits] using hrd
  unfold palletlaw07_MedlCounts.f
  rw [live7]
  simp only [Option.bind_some, if_true]
  by_cases h : Ok n s l f w
  · have hn1 := h.1
    have hn2 := h.2.1
    rw [check_ok h]
    simp only [Option.bind_some, if_true]
    by_cases ha : node < 0
    · rw [if_pos ha]
      simp [palletlaw07_MedlCounts.j0]
    rw [if_neg ha]
    by_cases hb : node ≥ n
    · rw [if_pos hb]
      simp [palletlaw07_MedlCounts.j0]
    rw [if_neg hb, decide_eq_false (by omega)]
    simp only [palletlaw07_MedlCounts.j0]
    rw [if_neg (by decide), round_ok h]
    simp only [Option.bind_some]
    have e8 : wrap64 (Int.tmod rd 8) = rd % 8 := by rw [Int.tmod_eq_emod_of_nonneg hrd.1, w64 (by omega) (by omega)]
    have hRn : n * (rd % 8) ≤ 16 * 7 := Int.mul_le_mul hn2 (by omega) (by omega) (by omega)
    have hRn0 : 0 ≤ n * (rd % 8) := Int.mul_nonneg (by omega) (by omega)
    rw [e8, Int.mul_comm (rd % 8) n, w64 (x := n * (rd % 8)) (by omega) (by omega), Int.tmod_eq_emod_of_nonneg hx.1]
    have hm := mod_lt h (x := x % 2147483648) (by omega)
    have := counts_loop h (y := x % 2147483648) (node := node) (R := rd % 8) (rounds := rd) (by omega) (by omega) (by omega) (by omega) (by omega) (by omega) e8 rfl (n * (rd % 8)).toNat K 0 0 0 (-1) (by omega) (by omega) (by omega) (by omega) (by omega) (by omega) (by omega) (by rw [if_neg (by split <;> omega)]; omega) (fun q => by omega)
    rwa [show n * 0 + 0 = 0 by omega] at this
  · rw [check_no h]
    simp [palletlaw07_MedlCounts.j0]
end Go.Proofs.Ytpfkiljakiiieaa.Pure
