/- How many ticks there are in a time (layer 6), as printed. -/
import Derived.Test.YtmkjljekofondaaOsc
import Derived.Test.YtmkjljekofondaaPico
import Derived.Test.YtmkjljekofondaaPrint0
import Derived.Test.YtmkjljekofondaaPrint2
import Derived.Test.YtmkjljekofondaaPrint11
set_option linter.unusedVariables false
set_option linter.unusedSimpArgs false
namespace Go.Proofs.Ytmkjljekofondaa.Osc
open Go.RowKit Go.Proofs.Ytmkjljekofondaa.Print Go.Proofs.YtmkjljekofondaaW.PrintWords Go.Proofs.YtmkjljekofondaaW.PrintLast Go.Proofs.YtmkjljekofondaaW.PrintMore Go.Proofs.Ytmkjljekofondaa.Medl Go.Proofs.Ytmkjljekofondaa.Div64
abbrev TB : ByteArray := (⟨#[0, 1, 2, 2, 3, 3, 3, 3, 4, 4, 4, 4, 4, 4, 4, 4, 5, 5, 5, 5, 5, 5, 5, 5, 5, 5, 5, 5, 5, 5, 5, 5, 6, 6, 6, 6, 6, 6, 6, 6, 6, 6, 6, 6, 6, 6, 6, 6, 6, 6, 6, 6, 6, 6, 6, 6, 6, 6, 6, 6, 6, 6, 6, 6, 7, 7, 7, 7, 7, 7, 7, 7, 7, 7, 7, 7, 7, 7, 7, 7, 7, 7, 7, 7, 7, 7, 7, 7, 7, 7, 7, 7, 7, 7, 7, 7, 7, 7, 7, 7, 7, 7, 7, 7, 7, 7, 7, 7, 7, 7, 7, 7, 7, 7, 7, 7, 7, 7, 7, 7, 7, 7, 7, 7, 7, 7, 7, 7, 8, 8, 8, 8, 8, 8, 8, 8, 8, 8, 8, 8, 8, 8, 8, 8, 8, 8, 8, 8, 8, 8, 8, 8, 8, 8, 8, 8, 8, 8, 8, 8, 8, 8, 8, 8, 8, 8, 8, 8, 8, 8, 8, 8, 8, 8, 8, 8, 8, 8, 8, 8, 8, 8, 8, 8, 8, 8, 8, 8, 8, 8, 8, 8, 8, 8, 8, 8, 8, 8, 8, 8, 8, 8, 8, 8, 8, 8, 8, 8, 8, 8, 8, 8, 8, 8, 8, 8, 8, 8, 8, 8, 8, 8, 8, 8, 8, 8, 8, 8, 8, 8, 8, 8, 8, 8, 8, 8, 8, 8, 8, 8, 8, 8, 8, 8, 8, 8, 8, 8, 8, 8, 8, 8, 8, 8, 8, 8]⟩ : ByteArray)
set_option maxRecDepth 100000 in
theorem tab : ∀ i : Fin 256, 0 < i.val → 1 ≤ bt TB (i.val : Int) ∧ bt TB (i.val : Int) ≤ 8 ∧ 2 ^ ((bt TB (i.val : Int)).toNat - 1) ≤ i.val ∧ i.val < 2 ^ (bt TB (i.val : Int)).toNat := by decide +kernel
set_option maxRecDepth 100000 in
theorem tabi {z : Int} (h0 : 0 < z) (h1 : z < 256) : ∃ n : Nat, bt TB z = n ∧ 1 ≤ n ∧ n ≤ 8 ∧ (2 ^ (n - 1) : Int) ≤ z ∧ z < 2 ^ (n - 1) * 2 := by
  obtain ⟨m, rfl⟩ : ∃ m : Nat, z = m := ⟨z.toNat, by omega⟩
  have h := tab ⟨m, by omega⟩ (by simp only; omega)
  simp only at h
  obtain ⟨n, hn⟩ : ∃ n : Nat, bt TB (m : Int) = n := ⟨(bt TB (m : Int)).toNat, by omega⟩
  rw [hn, Int.toNat_natCast] at h
  refine ⟨n, hn, by omega, by omega, ?_, ?_⟩
  · have : ((2 ^ (n - 1) : Nat) : Int) ≤ (m : Int) := by omega
    simpa using this
  · have e : 2 ^ n = 2 ^ (n - 1) * 2 := by rw [← Nat.pow_succ, show (n - 1).succ = n by omega]
    have : (m : Int) < ((2 ^ (n - 1) * 2 : Nat) : Int) := by omega
    simpa using this
set_option maxRecDepth 100000 in
theorem j0_eq (k : Nat) (x c : Int) : bits_Len64.j0 (k + 1) x c = if x ≥ 65536 then (if (x / 65536) ≥ 256 then (if 0 ≤ (((x / 65536) / 256) % 256) then (if (((x / 65536) / 256) % 256) < 256 then (some (wrap64 ((wrap64 ((wrap64 (c + 16)) + 8)) + (wrap64 (bt TB (((x / 65536) / 256) % 256)))))) else (none)) else (none)) else (if 0 ≤ ((x / 65536) % 256) then (if ((x / 65536) % 256) < 256 then (some (wrap64 ((wrap64 (c + 16)) + (wrap64 (bt TB ((x / 65536) % 256)))))) else (none)) else (none))) else (if x ≥ 256 then (if 0 ≤ ((x / 256) % 256) then (if ((x / 256) % 256) < 256 then (some (wrap64 ((wrap64 (c + 8)) + (wrap64 (bt TB ((x / 256) % 256)))))) else (none)) else (none)) else (if 0 ≤ ((x) % 256) then (if ((x) % 256) < 256 then (some (wrap64 (c + (wrap64 (bt TB ((x) % 256)))))) else (none)) else (none))) := rfl
set_option maxRecDepth 100000 in
theorem len_j0 {k : Nat} {x : Int} (c : Int) (c0 : 0 ≤ c) (c1 : c ≤ 32) (h0 : 0 < x) (h1 : x < 4294967296) : ∃ n : Nat, bits_Len64.j0 (k + 1) x c = some (c + n) ∧ 1 ≤ n ∧ n ≤ 32 ∧ (2 ^ (n - 1) : Int) ≤ x ∧ x < 2 ^ (n - 1) * 2 := by
  have go : ∀ (s : Nat) (z : Int), s ≤ 24 → 0 < z → z < 256 → (∀ P : Int, P ≤ z → P * 2 ^ s ≤ x) → (∀ P : Int, z < P → x < P * 2 ^ s) → (∀ n : Nat, bt TB z = n → n ≤ 8 → bits_Len64.j0 (k + 1) x c = some (c + s + n)) → ∃ n : Nat, bits_Len64.j0 (k + 1) x c = some (c + n) ∧ 1 ≤ n ∧ n ≤ 32 ∧ (2 ^ (n - 1) : Int) ≤ x ∧ x < 2 ^ (n - 1) * 2 := by
    intro s z hs z0 z1 a b e
    obtain ⟨n, hn, n1, n2, n3, n4⟩ := tabi z0 z1
    refine ⟨s + n, ?_, by omega, by omega, ?_, ?_⟩
    · rw [e n hn n2]
      congr 1
      omega
    · rw [show s + n - 1 = (n - 1) + s by omega, Int.pow_add]
      exact a _ n3
    · rw [show s + n - 1 = (n - 1) + s by omega, Int.pow_add, Int.mul_right_comm]
      exact b _ n4
  by_cases h2 : x ≥ 65536
  · by_cases h3 : x / 65536 ≥ 256
    · refine go 24 (x / 65536 / 256 % 256) (by decide) (by omega) (by omega) (fun P h => by rw [show (2 : Int) ^ 24 = 16777216 by decide]; omega) (fun P h => by rw [show (2 : Int) ^ 24 = 16777216 by decide]; omega) (fun n hn n8 => ?_)
      rw [j0_eq, if_pos h2, if_pos h3, if_pos (by omega), if_pos (by omega)]
      rw [hn, w64 (x := c + 16) (by omega) (by omega), w64 (x := c + 16 + 8) (by omega) (by omega), w64 (x := (n : Int)) (by omega) (by omega), w64 (by omega) (by omega)]
      congr 1
      omega
    · refine go 16 (x / 65536 % 256) (by decide) (by omega) (by omega) (fun P h => by rw [show (2 : Int) ^ 16 = 65536 by decide]; omega) (fun P h => by rw [show (2 : Int) ^ 16 = 65536 by decide]; omega) (fun n hn n8 => ?_)
      rw [j0_eq, if_pos h2, if_neg h3, if_pos (by omega), if_pos (by omega)]
      rw [hn, w64 (x := c + 16) (by omega) (by omega), w64 (x := (n : Int)) (by omega) (by omega), w64 (by omega) (by omega)]
      congr 1
  · by_cases h3 : x ≥ 256
    · refine go 8 (x / 256 % 256) (by decide) (by omega) (by omega) (fun P h => by rw [show (2 : Int) ^ 8 = 256 by decide]; omega) (fun P h => by rw [show (2 : Int) ^ 8 = 256 by decide]; omega) (fun n hn n8 => ?_)
      rw [j0_eq, if_neg h2, if_pos h3, if_pos (by omega), if_pos (by omega)]
      rw [hn, w64 (x := c + 8) (by omega) (by omega), w64 (x := (n : Int)) (by omega) (by omega), w64 (by omega) (by omega)]
      congr 1
    · refine go 0 (x % 256) (by decide) (by omega) (by omega) (fun P h => by rw [Int.pow_zero]; omega) (fun P h => by rw [Int.pow_zero]; omega) (fun n hn n8 => ?_)
      rw [j0_eq, if_neg h2, if_neg h3, if_pos (by omega), if_pos (by omega)]
      rw [hn, w64 (x := (n : Int)) (by omega) (by omega), w64 (by omega) (by omega)]
      congr 1
      omega
theorem lz_eq {k : Nat} {x : Int} (hk : 1 ≤ k) (h0 : 0 < x) (h1 : x < 18446744073709551616) : ∃ s : Nat, s ≤ 63 ∧ bits_LeadingZeros64.f k x = some (s : Int) ∧ 9223372036854775808 ≤ x * 2 ^ s ∧ x * 2 ^ s < 18446744073709551616 := by
  obtain ⟨k, rfl⟩ : ∃ j, k = j + 1 := ⟨k - 1, by omega⟩
  have main : ∀ n : Nat, 1 ≤ n → n ≤ 64 → (2 ^ (n - 1) : Int) ≤ x → x < 2 ^ (n - 1) * 2 → bits_Len64.f (k + 1) x = some (n : Int) → ∃ s : Nat, s ≤ 63 ∧ bits_LeadingZeros64.f (k + 1) x = some (s : Int) ∧ 9223372036854775808 ≤ x * 2 ^ s ∧ x * 2 ^ s < 18446744073709551616 := by
    intro n n1 n2 n3 n4 e
    have p0 : (0 : Int) < 2 ^ (64 - n) := Int.pow_pos (by decide)
    have e1 : (2 : Int) ^ (n - 1) * 2 ^ (64 - n) = 9223372036854775808 := by rw [← Int.pow_add, show n - 1 + (64 - n) = 63 by omega]; decide
    refine ⟨64 - n, by omega, ?_, ?_, ?_⟩
    · unfold bits_LeadingZeros64.f
      rw [e, Option.bind_some, w64 (by omega) (by omega)]
      congr 1
      omega
    · have := Int.mul_le_mul_of_nonneg_right n3 (Int.le_of_lt p0)
      omega
    · have := Int.mul_lt_mul_of_pos_right n4 p0
      rw [Int.mul_right_comm, e1] at this
      omega
  by_cases h2 : x ≥ 4294967296
  · obtain ⟨n, e, n1, n2, n3, n4⟩ := len_j0 (k := k) (x := x / 4294967296) 32 (by decide) (by decide) (by omega) (by omega)
    refine main (32 + n) (by omega) (by omega) ?_ ?_ ?_
    · rw [show 32 + n - 1 = (n - 1) + 32 by omega, Int.pow_add, show (2 : Int) ^ 32 = 4294967296 by decide]
      omega
    · rw [show 32 + n - 1 = (n - 1) + 32 by omega, Int.pow_add, show (2 : Int) ^ 32 = 4294967296 by decide]
      omega
    · unfold bits_Len64.f
      rw [if_pos h2, e]
      congr 1
  · obtain ⟨n, e, n1, n2, n3, n4⟩ := len_j0 (k := k) (x := x) 0 (by decide) (by decide) h0 (by omega)
    refine main n n1 (by omega) n3 n4 ?_
    unfold bits_Len64.f
    rw [if_neg h2, e, Int.zero_add]
theorem subLo {x y : Int} (x0 : 0 ≤ x) (y0 : 0 ≤ y) (y1 : y < 18446744073709551616) : Go.Proofs.YtmkjljekofondaaX.sub64Lo x y = (x - y) % 18446744073709551616 := by
  unfold Go.Proofs.YtmkjljekofondaaX.sub64Lo
  rw [show Extern.MathBitsCarry.m64 = 18446744073709551616 from rfl]
  omega
theorem subHi {x y : Int} (x0 : 0 ≤ x) (y0 : 0 ≤ y) : Go.Proofs.YtmkjljekofondaaX.sub64Hi x y = if x < y then 1 else 0 := by
  unfold Go.Proofs.YtmkjljekofondaaX.sub64Hi
  by_cases h : x < y
  · rw [if_pos h, if_pos (by omega)]
    rfl
  · rw [if_neg h, if_neg (by omega)]
    rfl
section
variable {p d r x : Int}
/-- How many ticks there are. -/
def tk (p d r x : Int) : Int × Int := if Oc p d r ∧ 0 ≤ x ∧ x ≤ 1152921504606846976 then (mn (((x + 1) * 1000000000 - (r + 1)) / rt p d) 1099511627776, 0) else (0, 1)
theorem ticks_eq {k : Nat} (hk : 60 ≤ k) (hd : -9223372036854775808 ≤ d ∧ d ≤ 9223372036854775807) : osc_Ticks.f k p d r x = some (tk p d r x) := by
  obtain ⟨k, rfl⟩ : ∃ j, k = j + 1 := ⟨k - 1, by omega⟩
  unfold osc_Ticks.f tk
  rw [rate_eq hd, Option.bind_some]
  have no : ∀ q : Int, osc_Ticks.j0 (k + 1) x q true p d r = some (0, 1) := fun q => by simp [osc_Ticks.j0]
  by_cases h : Oc p d r
  case neg =>
    have hr : ¬ (Oc p d r ∧ 0 ≤ x ∧ x ≤ 1152921504606846976) := fun q => h q.1
    rw [if_neg h, if_neg hr, if_neg (show ¬ (0, 1).2 = (0 : Int) by decide), no]
  rw [if_pos h, if_pos rfl]
  by_cases h1 : x < 0
  · have hr : ¬ (Oc p d r ∧ 0 ≤ x ∧ x ≤ 1152921504606846976) := fun q => by have := q.2.1; omega
    rw [if_pos h1, if_neg hr, no]
  rw [if_neg h1, may_eq [x] (by simp) (by simp; omega), Option.bind_some]
  by_cases h2 : x ≤ 1152921504606846976
  case neg =>
    have hr : ¬ (Oc p d r ∧ 0 ≤ x ∧ x ≤ 1152921504606846976) := fun q => h2 q.2.2
    have e : decide (∀ y ∈ [x], Tm y) = false := decide_eq_false (fun q => by have := (q x (by simp)).2; omega)
    rw [e, if_neg hr, Bool.not_false, no]
  have e : decide (∀ y ∈ [x], Tm y) = true := decide_eq_true (fun y hy => by
    rw [List.mem_singleton] at hy
    subst hy
    exact ⟨by omega, h2⟩)
  have hr : Oc p d r ∧ 0 ≤ x ∧ x ≤ 1152921504606846976 := ⟨h, by omega, h2⟩
  have b := rt_bound h
  obtain ⟨a1, a2, a3, a4, a5, a6⟩ := id h
  rw [e, Bool.not_true, if_pos hr]
  simp only [osc_Ticks.j0]
  rw [if_neg (by decide), uin (x := x) (by omega) (by omega), uin (x := x + 1) (by omega) (by omega), mul64_eq (by omega) (by omega) (by omega) (by omega), Option.bind_some, uin (x := r) (by omega) (by omega), uin (x := r + 1) (by omega) (by omega), uin (x := rt p d) (by omega) (by omega)]
  simp only
  rw [subHi (by omega) (by omega), subLo (by omega) (by omega) (by omega)]
  obtain ⟨N, eN⟩ : ∃ N, (x + 1) * 1000000000 - (r + 1) = N := ⟨_, rfl⟩
  have n0 : 0 ≤ N := by omega
  have n1 : N < 1152921504606846977 * 1000000000 := by omega
  have e1 : IntKind.u64.wrap ((x + 1) * 1000000000 / 18446744073709551616 - (if (x + 1) * 1000000000 % 18446744073709551616 < r + 1 then 1 else 0)) = N / 18446744073709551616 := by
    rw [uw]
    generalize (x + 1) * 1000000000 = A at *
    by_cases c : A % 18446744073709551616 < r + 1
    · rw [if_pos c]
      omega
    · rw [if_neg c]
      omega
  have e2 : ((x + 1) * 1000000000 % 18446744073709551616 - (r + 1)) % 18446744073709551616 = N % 18446744073709551616 := by omega
  rw [e1, e2, eN]
  by_cases h3 : N / 18446744073709551616 ≥ rt p d
  · have : rt p d * 18446744073709551616 ≤ N := by omega
    have : 18446744073709551616 ≤ N / rt p d := Int.le_ediv_of_mul_le (by omega) (by rw [Int.mul_comm]; omega)
    rw [if_pos h3]
    unfold mn
    rw [if_pos (by omega)]
  rw [if_neg h3]
  obtain ⟨s, s1, s2, s3, s4⟩ := lz_eq (k := k) (x := rt p d) (by omega) (by omega) (by omega)
  have q0 : 0 ≤ N / rt p d := Int.ediv_nonneg n0 (by omega)
  rw [div_eq s1 s2 s3 s4 (by omega) (by omega) (by omega) (by omega) (by omega), Option.bind_some, show N / 18446744073709551616 * 18446744073709551616 + N % 18446744073709551616 = N by omega]
  simp only
  rw [w64 (by unfold mn; split <;> omega) (by unfold mn; split <;> omega)]
end
end Go.Proofs.Ytmkjljekofondaa.Osc
