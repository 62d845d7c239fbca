/- Each node has one slot a round; slots follow one another without a gap: a tick is in the slot that begins last ahead of it. Conditions: none but that each number is of its kind. -/
import Derived.Test.YtpfkiljakiiieaaMedl
import Derived.Test.YtpfkiljakiiieaaLive07
import Derived.Laws.BitsLemmas
import Derived.Test.YtpfkiljakiiieaaPrint0
import Derived.Test.YtpfkiljakiiieaaPrint8
set_option linter.unusedVariables false
set_option linter.unusedSimpArgs false
namespace Go.Proofs.Ytpfkiljakiiieaa.Pure
open Go.RowKit Go.Proofs.Ytpfkiljakiiieaa.Print Go.Proofs.YtpfkiljakiiieaaW.PrintWords Go.Proofs.YtpfkiljakiiieaaW.PrintLast Go.Proofs.YtpfkiljakiiieaaW.PrintMore Go.Proofs.Ytpfkiljakiiieaa.Medl

theorem and40 (n : Int) : Go.bits .and .i64 n 1099511627775 = n % 1099511627776 := by
  have h127 : (BitVec.ofInt 64 1099511627775).toNat = 2 ^ 40 - 1 := by decide
  have key : (BitVec.ofInt 64 n &&& BitVec.ofInt 64 1099511627775).toNat = (n % ((2 ^ 64 : Nat) : Int)).toNat % 2 ^ 40 := by
    rw [BitVec.toNat_and, BitVec.toNat_ofInt, h127, Nat.and_two_pow_sub_one_eq_mod]
  show IntKind.i64.wrap ((BitVec.ofInt 64 n &&& BitVec.ofInt 64 1099511627775).toNat : Nat) = _
  rw [key, IntKind.wrap_i64]
  omega
theorem mod_add {n y i : Int} (hn : 0 < n) (hy : 0 ≤ y) (hi : 0 ≤ i) (hin : i < n) : (y + i) % n = if y % n + i < n then y % n + i else y % n + i - n := by
  have hm : 0 ≤ y % n := Int.emod_nonneg _ (by omega)
  have hm2 : y % n < n := Int.emod_lt_of_pos _ hn
  have e := Int.mul_ediv_add_emod y n
  split
  · have : y + i = (y % n + i) + n * (y / n) := by omega
    rw [this, Int.add_mul_emod_self_left, Int.emod_eq_of_lt (by omega) (by omega)]
  · have : y + i = (y % n + i - n) + n * (y / n + 1) := by rw [Int.mul_add]; omega
    rw [this, Int.add_mul_emod_self_left, Int.emod_eq_of_lt (by omega) (by omega)]
section
variable {n s l f w : Int}
/-- Behind the rounds. -/
theorem once_end (h : Ok n s l f w) (k : Nat) (y t : Int) (met : List Bool) (many i : Int) (hi : i = n) (hm : many = 1) :
    palletlaw07_MedlOnce.l0 (k + 2) y t true met many n i n s l f w = some true := by
  obtain ⟨hn1, hn2, h1, h2, _⟩ := id h
  subst hi hm
  have ht : 0 ≤ t % 1099511627776 ∧ t % 1099511627776 < 1099511627776 := by omega
  have hd : 0 ≤ t % 1099511627776 / s := Int.ediv_nonneg ht.1 (by omega)
  have hp : 0 ≤ s * (t % 1099511627776 / s) := Int.mul_nonneg (by omega) hd
  have e := Int.mul_ediv_add_emod (t % 1099511627776) s
  have hmod : 0 ≤ t % 1099511627776 % s := Int.emod_nonneg _ (by omega)
  have hmod2 : t % 1099511627776 % s < s := Int.emod_lt_of_pos _ (by omega)
  have hb : 0 ≤ i * s := Int.mul_nonneg (by omega) (by omega)
  have hb2 : i * s ≤ 16 * 1048576 := Int.mul_le_mul hn2 h2 (by omega) (by omega)
  simp only [palletlaw07_MedlOnce.l0]
  rw [if_neg (by omega), and40, at_ok h k ht.1 (by omega)]
  by_cases hc : t % 1099511627776 / s > 4294967296
  · rw [if_pos hc]
    simp
  · rw [if_neg hc]
    simp only [Option.bind_some, if_true]
    rw [begin_ok h hd (by omega), round_ok h]
    simp only [Option.bind_some, if_true]
    rw [e, w64 (x := t % 1099511627776) (by omega) (by omega), w64 (x := i * s) (by omega) (by omega), if_pos rfl, if_pos hmod, if_pos hmod2, Int.mul_comm s i]
    simp
theorem rdOf_set_ne {xs : List Bool} {a b : Int} (ha : 0 ≤ a) (hb : 0 ≤ b) (hne : a ≠ b) : rdOf false (xs.set a.toNat true) b = rdOf false xs b := by
  unfold rdOf
  rw [List.getD, List.getD, List.getElem?_set_ne (by omega)]
theorem once_loop (h : Ok n s l f w) {y : Int} (hy : 0 ≤ y) (hy2 : y < 2147483648) (t : Int) (d : Nat) : ∀ (k : Nat) (met : List Bool) (many i : Int), 0 ≤ i → i ≤ n → n - i = d → 2 * d + 2 ≤ k → met.length = 17 →
    (∀ j, i ≤ j → j < n → rdOf false met ((y + j) % n) = false) → many = (if n - 1 - y % n < i then 1 else 0) →
    palletlaw07_MedlOnce.l0 k y t true met many n i n s l f w = some true := by
  obtain ⟨hn1, hn2, h1, h2, _⟩ := id h
  have hm := mod_lt h hy
  induction d with
  | zero =>
    intro k met many i hi hin hd hk hlen hmet hmany
    obtain ⟨k, rfl⟩ : ∃ m, k = m + 2 := ⟨k - 2, by omega⟩
    rw [if_pos (by omega)] at hmany
    exact once_end h k y t met many i (by omega) hmany
  | succ d ih =>
    intro k met many i hi hin hd hk hlen hmet hmany
    obtain ⟨k, rfl⟩ : ∃ m, k = m + 2 := ⟨k - 2, by omega⟩
    have hmi := mod_add (n := n) (by omega) hy hi (show i < n by omega)
    have hr := mod_lt h (x := y + i) (by omega)
    have hfree := hmet i (Int.le_refl _) (by omega)
    simp only [palletlaw07_MedlOnce.l0]
    rw [if_pos (by omega), u64 (x := i) (by omega) (by omega), u64 (x := y + i) (by omega) (by omega), owner_ok h (by omega) (by omega)]
    simp only [Option.bind_some, if_true]
    rw [if_neg (by omega), if_neg (by omega), if_pos hr.1, if_pos (by rw [hlen]; omega), hfree]
    simp only [palletlaw07_MedlOnce.j1]
    rw [if_neg (by decide), if_pos hr.1, if_pos (by rw [hlen]; omega)]
    simp only [Option.bind_some]
    rw [u64 (x := i) (by omega) (by omega), u64 (x := y + i) (by omega) (by omega), last_ok h (by omega) (by omega)]
    simp only [Option.bind_some, if_true]
    have step : ∀ m2, m2 = (if n - 1 - y % n < i + 1 then 1 else 0) → palletlaw07_MedlOnce.l0 k y t true (met.set ((y + i) % n).toNat true) m2 n (wrap64 (i + 1)) n s l f w = some true := by
      intro m2 hm2
      rw [w64 (x := i + 1) (by omega) (by omega)]
      refine ih k _ m2 (i + 1) (by omega) (by omega) (by omega) (by omega) (by rw [List.length_set, hlen]) (fun j hj hjn => ?_) hm2
      have hmj := mod_add (n := n) (by omega) hy (show 0 ≤ j by omega) hjn
      have hrj := mod_lt h (x := y + j) (by omega)
      rw [rdOf_set_ne hr.1 hrj.1 (by rw [hmi, hmj]; split <;> split <;> omega)]
      exact hmet j (by omega) hjn
    by_cases hl : (y + i) % n + 1 = n
    · rw [decide_eq_true hl]
      simp only [if_true]
      have e1 : i = n - 1 - y % n := by rw [hmi] at hl; split at hl <;> omega
      rw [if_neg (by omega)] at hmany
      rw [w64 (x := many + 1) (by omega) (by omega)]
      exact step _ (by rw [if_pos (by omega)]; omega)
    · rw [decide_eq_false hl]
      have e1 : i ≠ n - 1 - y % n := by intro he; apply hl; rw [hmi, if_pos (by omega)]; omega
      rw [if_neg (by decide)]
      refine step _ ?_
      rw [hmany]
      by_cases q : n - 1 - y % n < i
      · rw [if_pos q, if_pos (by omega)]
      · rw [if_neg q, if_neg (by omega)]
end

theorem MedlOnce : ∀ (a0_0 : Int) (a0_1 : Int) (a0_2 : Int) (a0_3 : Int) (a0_4 : Int) (a1 : Int) (a2 : Int), (Lit.int .i64 a0_0).wf = true → (Lit.int .i64 a0_1).wf = true → (Lit.int .i64 a0_2).wf = true → (Lit.int .i64 a0_3).wf = true → (Lit.int .i64 a0_4).wf = true → (Lit.int .u64 a1).wf = true → (Lit.int .i64 a2).wf = true → ∃ k, palletlaw07_MedlOnce.f k a0_0 a0_1 a0_2 a0_3 a0_4 a1 a2 = some true := by
  intro n s l f w x t hn hs hl hf hw hx ht
  refine ⟨40, ?_⟩
  have hx := wfu64 hx
  unfold palletlaw07_MedlOnce.f
  rw [live7]
  simp only [Option.bind_some, if_true]
  by_cases h : Ok n s l f w
  · have hn1 := h.1
    have hn2 := h.2.1
    rw [check_ok h]
    simp only [Option.bind_some, if_true]
    rw [if_neg (by omega), if_pos (by decide), Int.tmod_eq_emod_of_nonneg hx.1]
    have hm := mod_lt h (x := x % 2147483648) (by omega)
    refine once_loop h (by omega) (by omega) t n.toNat 40 _ 0 0 (by omega) (by omega) (by omega) (by omega) (by simp) (fun j _ _ => ?_) (by rw [if_neg (by omega)])
    unfold rdOf
    rw [List.getD, List.getElem?_replicate]
    split <;> rfl
  · rw [check_no h]
    simp
end Go.Proofs.Ytpfkiljakiiieaa.Pure
