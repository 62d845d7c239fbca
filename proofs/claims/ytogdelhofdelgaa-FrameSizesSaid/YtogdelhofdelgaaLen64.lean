/- math/bits' Len64, as printed: how many bits a number has. -/
import Derived.IntWalk
import Derived.Test.YtogdelhofdelgaaPrint0
import Derived.Test.YtogdelhofdelgaaPrint4
set_option linter.unusedVariables false
set_option linter.unusedSimpArgs false
namespace Go.Proofs.Ytogdelhofdelgaa.Len64
open Go Go.RowKit Go.Proofs.Ytogdelhofdelgaa.Print Go.Proofs.YtogdelhofdelgaaW.PrintWords Go.Proofs.YtogdelhofdelgaaW.PrintLast Go.Proofs.YtogdelhofdelgaaW.PrintMore
theorem w64 {x : Int} (h : -9223372036854775808 ≤ x) (h2 : x ≤ 9223372036854775807) : wrap64 x = x := by unfold wrap64; omega
abbrev TB : ByteArray := (⟨#[0, 1, 2, 2, 3, 3, 3, 3, 4, 4, 4, 4, 4, 4, 4, 4, 5, 5, 5, 5, 5, 5, 5, 5, 5, 5, 5, 5, 5, 5, 5, 5, 6, 6, 6, 6, 6, 6, 6, 6, 6, 6, 6, 6, 6, 6, 6, 6, 6, 6, 6, 6, 6, 6, 6, 6, 6, 6, 6, 6, 6, 6, 6, 6, 7, 7, 7, 7, 7, 7, 7, 7, 7, 7, 7, 7, 7, 7, 7, 7, 7, 7, 7, 7, 7, 7, 7, 7, 7, 7, 7, 7, 7, 7, 7, 7, 7, 7, 7, 7, 7, 7, 7, 7, 7, 7, 7, 7, 7, 7, 7, 7, 7, 7, 7, 7, 7, 7, 7, 7, 7, 7, 7, 7, 7, 7, 7, 7, 8, 8, 8, 8, 8, 8, 8, 8, 8, 8, 8, 8, 8, 8, 8, 8, 8, 8, 8, 8, 8, 8, 8, 8, 8, 8, 8, 8, 8, 8, 8, 8, 8, 8, 8, 8, 8, 8, 8, 8, 8, 8, 8, 8, 8, 8, 8, 8, 8, 8, 8, 8, 8, 8, 8, 8, 8, 8, 8, 8, 8, 8, 8, 8, 8, 8, 8, 8, 8, 8, 8, 8, 8, 8, 8, 8, 8, 8, 8, 8, 8, 8, 8, 8, 8, 8, 8, 8, 8, 8, 8, 8, 8, 8, 8, 8, 8, 8, 8, 8, 8, 8, 8, 8, 8, 8, 8, 8, 8, 8, 8, 8, 8, 8, 8, 8, 8, 8, 8, 8, 8, 8, 8, 8, 8, 8, 8, 8]⟩ : ByteArray)
set_option maxRecDepth 100000 in
theorem tab : ∀ i : Fin 256, 0 < i.val → 1 ≤ bt TB (i.val : Int) ∧ bt TB (i.val : Int) ≤ 8 ∧ 2 ^ ((bt TB (i.val : Int)).toNat - 1) ≤ i.val ∧ i.val < 2 ^ (bt TB (i.val : Int)).toNat := by decide +kernel
set_option maxRecDepth 100000 in
theorem tabi {z : Int} (h0 : 0 < z) (h1 : z < 256) : ∃ n : Nat, bt TB z = n ∧ 1 ≤ n ∧ n ≤ 8 ∧ (2 ^ (n - 1) : Int) ≤ z ∧ z < 2 ^ (n - 1) * 2 := by
  obtain ⟨m, rfl⟩ : ∃ m : Nat, z = m := ⟨z.toNat, by omega⟩
  have h := tab ⟨m, by omega⟩ (by simp only; omega)
  simp only at h
  obtain ⟨n, hn⟩ : ∃ n : Nat, bt TB (m : Int) = n := ⟨(bt TB (m : Int)).toNat, by omega⟩
  rw [hn, Int.toNat_natCast] at h
  refine ⟨n, hn, by omega, by omega, ?_, ?_⟩
  · have : ((2 ^ (n - 1) : Nat) : Int) ≤ (m : Int) := by omega
    simpa using this
  · have e : 2 ^ n = 2 ^ (n - 1) * 2 := by rw [← Nat.pow_succ, show (n - 1).succ = n by omega]
    have : (m : Int) < ((2 ^ (n - 1) * 2 : Nat) : Int) := by omega
    simpa using this
set_option maxRecDepth 100000 in
theorem j0_eq (k : Nat) (x c : Int) : bits_Len64.j0 (k + 1) x c = if x ≥ 65536 then (if (x / 65536) ≥ 256 then (if 0 ≤ (((x / 65536) / 256) % 256) then (if (((x / 65536) / 256) % 256) < 256 then (some (wrap64 ((wrap64 ((wrap64 (c + 16)) + 8)) + (wrap64 (bt TB (((x / 65536) / 256) % 256)))))) else (none)) else (none)) else (if 0 ≤ ((x / 65536) % 256) then (if ((x / 65536) % 256) < 256 then (some (wrap64 ((wrap64 (c + 16)) + (wrap64 (bt TB ((x / 65536) % 256)))))) else (none)) else (none))) else (if x ≥ 256 then (if 0 ≤ ((x / 256) % 256) then (if ((x / 256) % 256) < 256 then (some (wrap64 ((wrap64 (c + 8)) + (wrap64 (bt TB ((x / 256) % 256)))))) else (none)) else (none)) else (if 0 ≤ ((x) % 256) then (if ((x) % 256) < 256 then (some (wrap64 (c + (wrap64 (bt TB ((x) % 256)))))) else (none)) else (none))) := rfl
set_option maxRecDepth 100000 in
theorem len_j0 {k : Nat} {x : Int} (c : Int) (c0 : 0 ≤ c) (c1 : c ≤ 32) (h0 : 0 < x) (h1 : x < 4294967296) : ∃ n : Nat, bits_Len64.j0 (k + 1) x c = some (c + n) ∧ 1 ≤ n ∧ n ≤ 32 ∧ (2 ^ (n - 1) : Int) ≤ x ∧ x < 2 ^ (n - 1) * 2 := by
  have go : ∀ (s : Nat) (z : Int), s ≤ 24 → 0 < z → z < 256 → (∀ P : Int, P ≤ z → P * 2 ^ s ≤ x) → (∀ P : Int, z < P → x < P * 2 ^ s) → (∀ n : Nat, bt TB z = n → n ≤ 8 → bits_Len64.j0 (k + 1) x c = some (c + s + n)) → ∃ n : Nat, bits_Len64.j0 (k + 1) x c = some (c + n) ∧ 1 ≤ n ∧ n ≤ 32 ∧ (2 ^ (n - 1) : Int) ≤ x ∧ x < 2 ^ (n - 1) * 2 := by
    intro s z hs z0 z1 a b e
    obtain ⟨n, hn, n1, n2, n3, n4⟩ := tabi z0 z1
    refine ⟨s + n, ?_, by omega, by omega, ?_, ?_⟩
    · rw [e n hn n2]
      congr 1
      omega
    · rw [show s + n - 1 = (n - 1) + s by omega, Int.pow_add]
      exact a _ n3
    · rw [show s + n - 1 = (n - 1) + s by omega, Int.pow_add, Int.mul_right_comm]
      exact b _ n4
  by_cases h2 : x ≥ 65536
  · by_cases h3 : x / 65536 ≥ 256
    · refine go 24 (x / 65536 / 256 % 256) (by decide) (by omega) (by omega) (fun P h => by rw [show (2 : Int) ^ 24 = 16777216 by decide]; omega) (fun P h => by rw [show (2 : Int) ^ 24 = 16777216 by decide]; omega) (fun n hn n8 => ?_)
      rw [j0_eq, if_pos h2, if_pos h3, if_pos (by omega), if_pos (by omega)]
      rw [hn, w64 (x := c + 16) (by omega) (by omega), w64 (x := c + 16 + 8) (by omega) (by omega), w64 (x := (n : Int)) (by omega) (by omega), w64 (by omega) (by omega)]
      congr 1
      omega
    · refine go 16 (x / 65536 % 256) (by decide) (by omega) (by omega) (fun P h => by rw [show (2 : Int) ^ 16 = 65536 by decide]; omega) (fun P h => by rw [show (2 : Int) ^ 16 = 65536 by decide]; omega) (fun n hn n8 => ?_)
      rw [j0_eq, if_pos h2, if_neg h3, if_pos (by omega), if_pos (by omega)]
      rw [hn, w64 (x := c + 16) (by omega) (by omega), w64 (x := (n : Int)) (by omega) (by omega), w64 (by omega) (by omega)]
      congr 1
  · by_cases h3 : x ≥ 256
    · refine go 8 (x / 256 % 256) (by decide) (by omega) (by omega) (fun P h => by rw [show (2 : Int) ^ 8 = 256 by decide]; omega) (fun P h => by rw [show (2 : Int) ^ 8 = 256 by decide]; omega) (fun n hn n8 => ?_)
      rw [j0_eq, if_neg h2, if_pos h3, if_pos (by omega), if_pos (by omega)]
      rw [hn, w64 (x := c + 8) (by omega) (by omega), w64 (x := (n : Int)) (by omega) (by omega), w64 (by omega) (by omega)]
      congr 1
    · refine go 0 (x % 256) (by decide) (by omega) (by omega) (fun P h => by rw [Int.pow_zero]; omega) (fun P h => by rw [Int.pow_zero]; omega) (fun n hn n8 => ?_)
      rw [j0_eq, if_neg h2, if_neg h3, if_pos (by omega), if_pos (by omega)]
      rw [hn, w64 (x := (n : Int)) (by omega) (by omega), w64 (by omega) (by omega)]
      congr 1
      omega
theorem len_eq {k : Nat} {x : Int} (h0 : 0 < x) (h1 : x < 18446744073709551616) : ∃ n : Nat, bits_Len64.f (k + 1) x = some (n : Int) ∧ 1 ≤ n ∧ n ≤ 64 ∧ (2 ^ (n - 1) : Int) ≤ x ∧ x < 2 ^ (n - 1) * 2 := by
  by_cases h2 : x ≥ 4294967296
  · obtain ⟨n, e, n1, n2, n3, n4⟩ := len_j0 (k := k) (x := x / 4294967296) 32 (by decide) (by decide) (by omega) (by omega)
    refine ⟨32 + n, ?_, by omega, by omega, ?_, ?_⟩
    · unfold bits_Len64.f
      rw [if_pos h2, e]
      congr 1
    · rw [show 32 + n - 1 = (n - 1) + 32 by omega, Int.pow_add, show (2 : Int) ^ 32 = 4294967296 by decide]
      omega
    · rw [show 32 + n - 1 = (n - 1) + 32 by omega, Int.pow_add, show (2 : Int) ^ 32 = 4294967296 by decide]
      omega
  · obtain ⟨n, e, n1, n2, n3, n4⟩ := len_j0 (k := k) (x := x) 0 (by decide) (by decide) h0 (by omega)
    refine ⟨n, ?_, n1, by omega, n3, n4⟩
    unfold bits_Len64.f
    rw [if_neg h2, e, Int.zero_add]
theorem len_zero1 : bits_Len64.f 1 0 = some 0 := by decide +kernel
theorem len_zero {k : Nat} (hk : 1 ≤ k) : bits_Len64.f k 0 = some 0 := at_rounds (fun k => bits_Len64.mono _ k) hk len_zero1
end Go.Proofs.Ytogdelhofdelgaa.Len64
