/- Numbers as so many bytes of seven bits (layer 2): written and read, on lists of numbers. Plain facts, without the program. -/
import Derived.IntWalk
import Derived.Lib.Bytes
import Derived.Test.YtcbjbgleflbpmaaDoorPrint0
import Derived.Test.YtcbjbgleflbpmaaDoorPrint4
import Derived.Test.YtcbjbgleflbpmaaDoorPrint5
import Derived.Test.YtcbjbgleflbpmaaDoorPrint6
import Derived.Test.YtcbjbgleflbpmaaDoorPrint7
import Derived.Test.YtcbjbgleflbpmaaDoorPrint8
import Derived.Test.YtcbjbgleflbpmaaDoorPrint9
import Derived.Test.YtcbjbgleflbpmaaDoorPrint10
import Derived.Test.YtcbjbgleflbpmaaDoorPrint11
import Derived.Test.YtcbjbgleflbpmaaDoorPrint12
import Derived.Test.YtcbjbgleflbpmaaDoorPrint13
import Derived.Test.YtcbjbgleflbpmaaDoorPrint14
import Derived.Test.YtcbjbgleflbpmaaDoorPrint15
import Derived.Test.YtcbjbgleflbpmaaDoorPrint16
import Derived.Test.YtcbjbgleflbpmaaDoorPrint17
import Derived.Test.YtcbjbgleflbpmaaDoorPrint18
import Derived.Test.YtcbjbgleflbpmaaDoorPrint19
import Derived.Test.YtcbjbgleflbpmaaDoorPrint20
set_option linter.unusedVariables false
set_option linter.unusedSimpArgs false
namespace Go.Proofs.YtcbjbgleflbpmaaDoor.WireSpec
def By (l : List Nat) : Prop := ∀ x ∈ l, x < 256
theorem By.nil : By [] := fun x hx => by cases hx
theorem By.append {l m : List Nat} (h : By l) (h2 : By m) : By (l ++ m) := fun x hx => (List.mem_append.1 hx).elim (h x) (h2 x)
theorem By.cons {x : Nat} {l : List Nat} (h : x < 256) (h2 : By l) : By (x :: l) := fun y hy => (List.mem_cons.1 hy).elim (fun e => e ▸ h) (h2 y)
theorem By.drop {l : List Nat} (h : By l) (n : Nat) : By (l.drop n) := fun x hx => h x (List.mem_of_mem_drop hx)
theorem By.take {l : List Nat} (h : By l) (n : Nat) : By (l.take n) := fun x hx => h x (List.mem_of_mem_take hx)
theorem By.tail {x : Nat} {l : List Nat} (h : By (x :: l)) : By l := fun y hy => h y (by simp [hy])
/-- All but the last byte of a number, and all. -/
def vc (n : Nat) : List Nat := if n < 128 then [n + 128] else vc (n / 128) ++ [n % 128 + 128]
termination_by n
def vb (n : Nat) : List Nat := if n < 128 then [n] else vc (n / 128) ++ [n % 128]
theorem vc_small {n : Nat} (h : n < 128) : vc n = [n + 128] := by rw [vc, if_pos h]
theorem vc_step {n : Nat} (h : ¬ n < 128) : vc n = vc (n / 128) ++ [n % 128 + 128] := by rw [vc, if_neg h]
theorem vb_small {n : Nat} (h : n < 128) : vb n = [n] := by rw [vb, if_pos h]
theorem vb_step {n : Nat} (h : ¬ n < 128) : vb n = vc (n / 128) ++ [n % 128] := by rw [vb, if_neg h]
theorem vc_by (n : Nat) : By (vc n) := by
  induction n using Nat.strongRecOn with
  | _ n ih =>
    by_cases h : n < 128
    · rw [vc_small h]
      exact By.cons (by omega) By.nil
    · rw [vc_step h]
      exact (ih (n / 128) (by omega)).append (By.cons (by omega) By.nil)
theorem vb_by (n : Nat) : By (vb n) := by
  by_cases h : n < 128
  · rw [vb_small h]
    exact By.cons (by omega) By.nil
  · rw [vb_step h]
    exact (vc_by _).append (By.cons (by omega) By.nil)
theorem vc_pos (n : Nat) : 1 ≤ (vc n).length := by
  by_cases h : n < 128
  · rw [vc_small h]
    simp
  · rw [vc_step h, List.length_append, List.length_singleton]
    omega
theorem vc_len (n j : Nat) (h : n < 128 ^ (j + 1)) : (vc n).length ≤ j + 1 := by
  induction j generalizing n with
  | zero =>
    rw [vc_small (by simpa using h)]
    simp
  | succ j ih =>
    by_cases h2 : n < 128
    · rw [vc_small h2]
      simp
    · rw [vc_step h2, List.length_append, List.length_singleton]
      have := ih (n / 128) (by rw [Nat.pow_succ] at h; omega)
      omega
theorem vb_len (n j : Nat) (h : n < 128 ^ (j + 1)) : (vb n).length ≤ j + 1 := by
  by_cases h2 : n < 128
  · rw [vb_small h2]
    simp
  · rw [vb_step h2, List.length_append, List.length_singleton]
    cases j with
    | zero => exact absurd (by simpa using h) h2
    | succ j =>
      have := vc_len (n / 128) j (by rw [Nat.pow_succ] at h; omega)
      omega
theorem vb_len10 {n : Nat} (h : n < 18446744073709551616) : (vb n).length ≤ 10 := vb_len n 9 (Nat.lt_of_lt_of_le h (by decide))
/-- A number's reading: the number till here, how many bytes till here, what is left; the number, how many bytes in all, and what is wrong. -/
def dv : Nat → Nat → List Nat → Nat × Nat × Nat
  | _, _, [] => (0, 0, 3)
  | n, i, c :: l => if i = 0 ∧ c = 128 ∨ 144115188075855872 ≤ n then (0, 0, 4) else if c < 128 then (n * 128 + c, i + 1, 0) else dv (n * 128 + (c - 128)) (i + 1) l
theorem dv_nil (n i : Nat) : dv n i [] = (0, 0, 3) := rfl
theorem dv_bad {n i c : Nat} {l : List Nat} (h : i = 0 ∧ c = 128 ∨ 144115188075855872 ≤ n) : dv n i (c :: l) = (0, 0, 4) := by rw [dv, if_pos h]
theorem dv_end {n i c : Nat} {l : List Nat} (h : ¬ (i = 0 ∧ c = 128 ∨ 144115188075855872 ≤ n)) (h2 : c < 128) : dv n i (c :: l) = (n * 128 + c, i + 1, 0) := by rw [dv, if_neg h, if_pos h2]
theorem dv_more {n i c : Nat} {l : List Nat} (h : ¬ (i = 0 ∧ c = 128 ∨ 144115188075855872 ≤ n)) (h2 : ¬ c < 128) : dv n i (c :: l) = dv (n * 128 + (c - 128)) (i + 1) l := by rw [dv, if_neg h, if_neg h2]
theorem dv_vc (m : Nat) (h1 : 1 ≤ m) (h2 : m < 144115188075855872) (r : List Nat) : dv 0 0 (vc m ++ r) = dv m (vc m).length r := by
  induction m using Nat.strongRecOn generalizing r with
  | _ m ih =>
    by_cases h : m < 128
    · rw [vc_small h]
      rw [List.singleton_append, dv_more (by omega) (by omega), List.length_singleton, show 0 * 128 + (m + 128 - 128) = m by omega]
    · rw [vc_step h, List.append_assoc, ih (m / 128) (by omega) (by omega) (by omega)]
      have := vc_pos (m / 128)
      rw [List.singleton_append, dv_more (by omega) (by omega), List.length_append, List.length_singleton, show m / 128 * 128 + (m % 128 + 128 - 128) = m by omega]
theorem dv_vb (n : Nat) (h : n < 18446744073709551616) (r : List Nat) : dv 0 0 (vb n ++ r) = (n, (vb n).length, 0) := by
  by_cases h1 : n < 128
  · rw [vb_small h1]
    rw [List.singleton_append, dv_end (by omega) h1]
    simp
  · rw [vb_step h1, List.append_assoc, dv_vc _ (by omega) (by omega)]
    have := vc_pos (n / 128)
    rw [List.singleton_append, dv_end (by omega) (by omega), List.length_append, List.length_singleton, show n / 128 * 128 + n % 128 = n by omega]
theorem dv_bound (l : List Nat) : ∀ (m i n c : Nat), By l → dv m i l = (n, c, 0) → i < c ∧ c ≤ i + l.length ∧ n < 18446744073709551616 := by
  induction l with
  | nil => intro m i n c _ h; simp [dv_nil] at h
  | cons x l ih =>
    intro m i n c hl h
    have hx : x < 256 := hl x (by simp)
    by_cases hb : i = 0 ∧ x = 128 ∨ 144115188075855872 ≤ m
    · rw [dv_bad hb] at h
      simp at h
    by_cases h2 : x < 128
    · rw [dv_end hb h2] at h
      simp only [Prod.mk.injEq] at h
      obtain ⟨rfl, rfl, _⟩ := h
      rw [List.length_cons]
      omega
    · rw [dv_more hb h2] at h
      have := ih _ _ _ _ hl.tail h
      rw [List.length_cons]
      omega
/-- Signed numbers as unsigned ones. -/
def zz (x : Int) : Nat := (if x < 0 then -(2 * x) - 1 else 2 * x).toNat
def uz (n : Nat) : Int := if n % 2 = 1 then -((n / 2 : Nat) : Int) - 1 else ((n / 2 : Nat) : Int)
theorem uz_zz (x : Int) : uz (zz x) = x := by
  unfold uz zz
  split <;> split <;> omega
theorem zz_lt {x : Int} (h : -9223372036854775808 ≤ x) (h2 : x ≤ 9223372036854775807) : zz x < 18446744073709551616 := by
  unfold zz
  split <;> omega
end Go.Proofs.YtcbjbgleflbpmaaDoor.WireSpec
/- Numbers as digits, the greatest first, and their order as texts: plain facts. -/
namespace Go.Proofs.YtcbjbgleflbpmaaDoor.Digits
open Go Go.Lib
/-- The j+1 lowest digits of n in base B, the greatest first, each with what is put on it. -/
def G (B : Nat) (off : Nat → Nat) : Nat → Nat → List Nat
  | 0, n => [n % B + off 0]
  | j + 1, n => ((n / B ^ (j + 1)) % B + off (j + 1)) :: G B off j n
end Go.Proofs.YtcbjbgleflbpmaaDoor.Digits
/- math/bits' Len64, as printed: how many bits a number has. -/
namespace Go.Proofs.YtcbjbgleflbpmaaDoor.Len64
open Go Go.RowKit Go.Proofs.YtcbjbgleflbpmaaDoor.Print Go.Proofs.YtcbjbgleflbpmaaDoorW.PrintWords Go.Proofs.YtcbjbgleflbpmaaDoorW.PrintLast Go.Proofs.YtcbjbgleflbpmaaDoorW.PrintMore
theorem w64 {x : Int} (h : -9223372036854775808 ≤ x) (h2 : x ≤ 9223372036854775807) : wrap64 x = x := by unfold wrap64; omega
abbrev TB : ByteArray := (⟨#[0, 1, 2, 2, 3, 3, 3, 3, 4, 4, 4, 4, 4, 4, 4, 4, 5, 5, 5, 5, 5, 5, 5, 5, 5, 5, 5, 5, 5, 5, 5, 5, 6, 6, 6, 6, 6, 6, 6, 6, 6, 6, 6, 6, 6, 6, 6, 6, 6, 6, 6, 6, 6, 6, 6, 6, 6, 6, 6, 6, 6, 6, 6, 6, 7, 7, 7, 7, 7, 7, 7, 7, 7, 7, 7, 7, 7, 7, 7, 7, 7, 7, 7, 7, 7, 7, 7, 7, 7, 7, 7, 7, 7, 7, 7, 7, 7, 7, 7, 7, 7, 7, 7, 7, 7, 7, 7, 7, 7, 7, 7, 7, 7, 7, 7, 7, 7, 7, 7, 7, 7, 7, 7, 7, 7, 7, 7, 7, 8, 8, 8, 8, 8, 8, 8, 8, 8, 8, 8, 8, 8, 8, 8, 8, 8, 8, 8, 8, 8, 8, 8, 8, 8, 8, 8, 8, 8, 8, 8, 8, 8, 8, 8, 8, 8, 8, 8, 8, 8, 8, 8, 8, 8, 8, 8, 8, 8, 8, 8, 8, 8, 8, 8, 8, 8, 8, 8, 8, 8, 8, 8, 8, 8, 8, 8, 8, 8, 8, 8, 8, 8, 8, 8, 8, 8, 8, 8, 8, 8, 8, 8, 8, 8, 8, 8, 8, 8, 8, 8, 8, 8, 8, 8, 8, 8, 8, 8, 8, 8, 8, 8, 8, 8, 8, 8, 8, 8, 8, 8, 8, 8, 8, 8, 8, 8, 8, 8, 8, 8, 8, 8, 8, 8, 8, 8, 8]⟩ : ByteArray)
set_option maxRecDepth 100000 in
theorem tab : ∀ i : Fin 256, 0 < i.val → 1 ≤ bt TB (i.val : Int) ∧ bt TB (i.val : Int) ≤ 8 ∧ 2 ^ ((bt TB (i.val : Int)).toNat - 1) ≤ i.val ∧ i.val < 2 ^ (bt TB (i.val : Int)).toNat := by decide +kernel
set_option maxRecDepth 100000 in
theorem tabi {z : Int} (h0 : 0 < z) (h1 : z < 256) : ∃ n : Nat, bt TB z = n ∧ 1 ≤ n ∧ n ≤ 8 ∧ (2 ^ (n - 1) : Int) ≤ z ∧ z < 2 ^ (n - 1) * 2 := by
  obtain ⟨m, rfl⟩ : ∃ m : Nat, z = m := ⟨z.toNat, by omega⟩
  have h := tab ⟨m, by omega⟩ (by simp only; omega)
  simp only at h
  obtain ⟨n, hn⟩ : ∃ n : Nat, bt TB (m : Int) = n := ⟨(bt TB (m : Int)).toNat, by omega⟩
  rw [hn, Int.toNat_natCast] at h
  refine ⟨n, hn, by omega, by omega, ?_, ?_⟩
  · have : ((2 ^ (n - 1) : Nat) : Int) ≤ (m : Int) := by omega
    simpa using this
  · have e : 2 ^ n = 2 ^ (n - 1) * 2 := by rw [← Nat.pow_succ, show (n - 1).succ = n by omega]
    have : (m : Int) < ((2 ^ (n - 1) * 2 : Nat) : Int) := by omega
    simpa using this
set_option maxRecDepth 100000 in
theorem j0_eq (k : Nat) (x c : Int) : bits_Len64.j0 (k + 1) x c = if x ≥ 65536 then (if (x / 65536) ≥ 256 then (if 0 ≤ (((x / 65536) / 256) % 256) then (if (((x / 65536) / 256) % 256) < 256 then (some (wrap64 ((wrap64 ((wrap64 (c + 16)) + 8)) + (wrap64 (bt TB (((x / 65536) / 256) % 256)))))) else (none)) else (none)) else (if 0 ≤ ((x / 65536) % 256) then (if ((x / 65536) % 256) < 256 then (some (wrap64 ((wrap64 (c + 16)) + (wrap64 (bt TB ((x / 65536) % 256)))))) else (none)) else (none))) else (if x ≥ 256 then (if 0 ≤ ((x / 256) % 256) then (if ((x / 256) % 256) < 256 then (some (wrap64 ((wrap64 (c + 8)) + (wrap64 (bt TB ((x / 256) % 256)))))) else (none)) else (none)) else (if 0 ≤ ((x) % 256) then (if ((x) % 256) < 256 then (some (wrap64 (c + (wrap64 (bt TB ((x) % 256)))))) else (none)) else (none))) := rfl
set_option maxRecDepth 100000 in
theorem len_j0 {k : Nat} {x : Int} (c : Int) (c0 : 0 ≤ c) (c1 : c ≤ 32) (h0 : 0 < x) (h1 : x < 4294967296) : ∃ n : Nat, bits_Len64.j0 (k + 1) x c = some (c + n) ∧ 1 ≤ n ∧ n ≤ 32 ∧ (2 ^ (n - 1) : Int) ≤ x ∧ x < 2 ^ (n - 1) * 2 := by
  have go : ∀ (s : Nat) (z : Int), s ≤ 24 → 0 < z → z < 256 → (∀ P : Int, P ≤ z → P * 2 ^ s ≤ x) → (∀ P : Int, z < P → x < P * 2 ^ s) → (∀ n : Nat, bt TB z = n → n ≤ 8 → bits_Len64.j0 (k + 1) x c = some (c + s + n)) → ∃ n : Nat, bits_Len64.j0 (k + 1) x c = some (c + n) ∧ 1 ≤ n ∧ n ≤ 32 ∧ (2 ^ (n - 1) : Int) ≤ x ∧ x < 2 ^ (n - 1) * 2 := by
    intro s z hs z0 z1 a b e
    obtain ⟨n, hn, n1, n2, n3, n4⟩ := tabi z0 z1
    refine ⟨s + n, ?_, by omega, by omega, ?_, ?_⟩
    · rw [e n hn n2]
      congr 1
      omega
    · rw [show s + n - 1 = (n - 1) + s by omega, Int.pow_add]
      exact a _ n3
    · rw [show s + n - 1 = (n - 1) + s by omega, Int.pow_add, Int.mul_right_comm]
      exact b _ n4
  by_cases h2 : x ≥ 65536
  · by_cases h3 : x / 65536 ≥ 256
    · refine go 24 (x / 65536 / 256 % 256) (by decide) (by omega) (by omega) (fun P h => by rw [show (2 : Int) ^ 24 = 16777216 by decide]; omega) (fun P h => by rw [show (2 : Int) ^ 24 = 16777216 by decide]; omega) (fun n hn n8 => ?_)
      rw [j0_eq, if_pos h2, if_pos h3, if_pos (by omega), if_pos (by omega)]
      rw [hn, w64 (x := c + 16) (by omega) (by omega), w64 (x := c + 16 + 8) (by omega) (by omega), w64 (x := (n : Int)) (by omega) (by omega), w64 (by omega) (by omega)]
      congr 1
      omega
    · refine go 16 (x / 65536 % 256) (by decide) (by omega) (by omega) (fun P h => by rw [show (2 : Int) ^ 16 = 65536 by decide]; omega) (fun P h => by rw [show (2 : Int) ^ 16 = 65536 by decide]; omega) (fun n hn n8 => ?_)
      rw [j0_eq, if_pos h2, if_neg h3, if_pos (by omega), if_pos (by omega)]
      rw [hn, w64 (x := c + 16) (by omega) (by omega), w64 (x := (n : Int)) (by omega) (by omega), w64 (by omega) (by omega)]
      congr 1
  · by_cases h3 : x ≥ 256
    · refine go 8 (x / 256 % 256) (by decide) (by omega) (by omega) (fun P h => by rw [show (2 : Int) ^ 8 = 256 by decide]; omega) (fun P h => by rw [show (2 : Int) ^ 8 = 256 by decide]; omega) (fun n hn n8 => ?_)
      rw [j0_eq, if_neg h2, if_pos h3, if_pos (by omega), if_pos (by omega)]
      rw [hn, w64 (x := c + 8) (by omega) (by omega), w64 (x := (n : Int)) (by omega) (by omega), w64 (by omega) (by omega)]
      congr 1
    · refine go 0 (x % 256) (by decide) (by omega) (by omega) (fun P h => by rw [Int.pow_zero]; omega) (fun P h => by rw [Int.pow_zero]; omega) (fun n hn n8 => ?_)
      rw [j0_eq, if_neg h2, if_neg h3, if_pos (by omega), if_pos (by omega)]
      rw [hn, w64 (x := (n : Int)) (by omega) (by omega), w64 (by omega) (by omega)]
      congr 1
      omega
theorem len_eq {k : Nat} {x : Int} (h0 : 0 < x) (h1 : x < 18446744073709551616) : ∃ n : Nat, bits_Len64.f (k + 1) x = some (n : Int) ∧ 1 ≤ n ∧ n ≤ 64 ∧ (2 ^ (n - 1) : Int) ≤ x ∧ x < 2 ^ (n - 1) * 2 := by
  by_cases h2 : x ≥ 4294967296
  · obtain ⟨n, e, n1, n2, n3, n4⟩ := len_j0 (k := k) (x := x / 4294967296) 32 (by decide) (by decide) (by omega) (by omega)
    refine ⟨32 + n, ?_, by omega, by omega, ?_, ?_⟩
    · unfold bits_Len64.f
      rw [if_pos h2, e]
      congr 1
    · rw [show 32 + n - 1 = (n - 1) + 32 by omega, Int.pow_add, show (2 : Int) ^ 32 = 4294967296 by decide]
      omega
    · rw [show 32 + n - 1 = (n - 1) + 32 by omega, Int.pow_add, show (2 : Int) ^ 32 = 4294967296 by decide]
      omega
  · obtain ⟨n, e, n1, n2, n3, n4⟩ := len_j0 (k := k) (x := x) 0 (by decide) (by decide) h0 (by omega)
    refine ⟨n, ?_, n1, by omega, n3, n4⟩
    unfold bits_Len64.f
    rw [if_neg h2, e, Int.zero_add]
theorem len_zero1 : bits_Len64.f 1 0 = some 0 := by decide +kernel
theorem len_zero {k : Nat} (hk : 1 ≤ k) : bits_Len64.f k 0 = some 0 := at_rounds (fun k => bits_Len64.mono _ k) hk len_zero1
end Go.Proofs.YtcbjbgleflbpmaaDoor.Len64
/- Plain facts on numbers written as bytes (layer 2), as printed. -/
namespace Go.Proofs.YtcbjbgleflbpmaaDoor.Wire
open Go Go.RowKit Go.Proofs.YtcbjbgleflbpmaaDoor.Print Go.Proofs.YtcbjbgleflbpmaaDoorW.PrintWords Go.Proofs.YtcbjbgleflbpmaaDoorW.PrintLast Go.Proofs.YtcbjbgleflbpmaaDoorW.PrintMore Go.Proofs.YtcbjbgleflbpmaaDoor.Len64 Go.Proofs.YtcbjbgleflbpmaaDoor.Digits
theorem or128a : ∀ i : Fin 256, Go.bits .or .u8 128 (i.val : Int) = 128 + (i.val : Int) % 128 := by decide +kernel
theorem and127a : ∀ i : Fin 256, Go.bits .and .u8 (i.val : Int) 127 = (i.val : Int) % 128 := by decide +kernel
theorem or128 (t : Nat) : Go.bits .or .u8 128 ((t : Int) % 256) = ((t % 128 + 128 : Nat) : Int) := by
  have h := or128a ⟨t % 256, by omega⟩
  simp only at h
  rw [show ((t : Int) % 256) = ((t % 256 : Nat) : Int) by omega, h]
  omega
theorem and127 (t : Nat) : Go.bits .and .u8 ((t : Int) % 256) 127 = ((t % 128 : Nat) : Int) := by
  have h := and127a ⟨t % 256, by omega⟩
  simp only at h
  rw [show ((t : Int) % 256) = ((t % 256 : Nat) : Int) by omega, h]
  omega
/-- What is put on a group: that more come. -/
def off7 (j : Nat) : Nat := if j = 0 then 0 else 128
def cs (l : List Nat) : List Int := l.map fun a : Nat => (a : Int)
theorem shr7 (n j : Nat) (hj : j ≤ 9) : shr .u64 (n : Int) (7 * (j : Int)) = ((n / 128 ^ j : Nat) : Int) := by
  unfold shr
  rw [show (7 * (j : Int)).toNat = 7 * j by omega, show IntKind.bits .u64 = 64 from rfl, Nat.min_eq_left (by omega), Int.pow_mul, show (2 : Int) ^ 7 = 128 by decide]
  simp
theorem clone_eq (l : List Int) (h : l.length < 17592186044416) : slices_Clone_byte_byte.f l = some l := by unfold slices_Clone_byte_byte.f; rw [if_pos h]
theorem bytes_inj : ∀ (x y : List Nat), (∀ a ∈ x, a < 256) → (∀ a ∈ y, a < 256) → (strOfNums (cs x)).toList = (strOfNums (cs y)).toList → x = y := by
  intro x y hx hy h
  unfold cs at h
  rw [Go.Lib.strOfNums_toList, Go.Lib.strOfNums_toList] at h
  induction x generalizing y with
  | nil => cases y with
    | nil => rfl
    | cons b y => simp [Go.Lib.bytesOf] at h
  | cons a x ih =>
    cases y with
    | nil => simp [Go.Lib.bytesOf] at h
    | cons b y =>
      have h1 := hx a (by simp)
      have h2 := hy b (by simp)
      simp only [Go.Lib.bytesOf, List.map_cons, List.cons.injEq] at h
      have i := ih y (fun c hc => hx c (by simp [hc])) (fun c hc => hy c (by simp [hc])) h.2
      have e := UInt8.toNat_inj.2 h.1
      rw [Int.toNat_natCast, Int.toNat_natCast, UInt8.toNat_ofNat', UInt8.toNat_ofNat', Nat.mod_eq_of_lt h1, Nat.mod_eq_of_lt h2] at e
      rw [e, i]
end Go.Proofs.YtcbjbgleflbpmaaDoor.Wire
/- Numbers written as bytes, and read (layer 2), as printed: what each function answers, by WireSpec. -/
namespace Go.Proofs.YtcbjbgleflbpmaaDoor.Wire2
open Go Go.RowKit Go.Proofs.YtcbjbgleflbpmaaDoor.Print Go.Proofs.YtcbjbgleflbpmaaDoorW.PrintWords Go.Proofs.YtcbjbgleflbpmaaDoorW.PrintLast Go.Proofs.YtcbjbgleflbpmaaDoorW.PrintMore Go.Proofs.YtcbjbgleflbpmaaDoor.Len64 Go.Proofs.YtcbjbgleflbpmaaDoor.Digits Go.Proofs.YtcbjbgleflbpmaaDoor.Wire Go.Proofs.YtcbjbgleflbpmaaDoor.WireSpec
def C : Nat → Nat → List Nat
  | 0, m => [m % 128 + 128]
  | j + 1, m => (m / 128 ^ (j + 1) % 128 + 128) :: C j m
theorem C_snoc (j : Nat) : ∀ m, C (j + 1) m = C j (m / 128) ++ [m % 128 + 128] := by
  induction j with
  | zero => intro m; simp [C]
  | succ j ih =>
    intro m
    rw [C, ih m]
    show _ = ((m / 128) / 128 ^ (j + 1) % 128 + 128) :: C j (m / 128) ++ [m % 128 + 128]
    rw [Nat.div_div_eq_div_mul, Nat.mul_comm 128, ← Nat.pow_succ]
    rfl
theorem C_vc (j : Nat) : ∀ m, m < 128 ^ (j + 1) → (j = 0 ∨ 128 ^ j ≤ m) → C j m = vc m := by
  induction j with
  | zero =>
    intro m h _
    have h : m < 128 := by simpa using h
    rw [vc_small h, C, Nat.mod_eq_of_lt h]
  | succ j ih =>
    intro m h h2
    have h2 : 128 ^ (j + 1) ≤ m := by omega
    have h3 : 128 ^ 1 ≤ 128 ^ (j + 1) := Nat.pow_le_pow_right (by decide) (by omega)
    rw [C_snoc, vc_step (by omega), ih (m / 128) (by rw [Nat.pow_succ] at h; omega) (Or.inr (by rw [Nat.pow_succ] at h2; omega))]
theorem G_C (j : Nat) : ∀ n, G 128 off7 (j + 1) n = C j (n / 128) ++ [n % 128] := by
  induction j with
  | zero => intro n; simp [C, G, off7]
  | succ j ih =>
    intro n
    rw [G, ih n]
    show _ = ((n / 128) / 128 ^ (j + 1) % 128 + 128) :: C j (n / 128) ++ [n % 128]
    rw [Nat.div_div_eq_div_mul, Nat.mul_comm 128, ← Nat.pow_succ]
    rfl
theorem G_vb (j n : Nat) (h : n < 128 ^ (j + 1)) (h2 : j = 0 ∨ 128 ^ j ≤ n) : G 128 off7 j n = vb n := by
  cases j with
  | zero =>
    have h : n < 128 := by simpa using h
    rw [vb_small h, G, Nat.mod_eq_of_lt h]
    rfl
  | succ j =>
    have h2 : 128 ^ (j + 1) ≤ n := by omega
    have h3 : 128 ^ 1 ≤ 128 ^ (j + 1) := Nat.pow_le_pow_right (by decide) (by omega)
    rw [G_C, vb_step (by omega), C_vc j (n / 128) (by rw [Nat.pow_succ] at h; omega) ?_]
    by_cases e : j = 0
    · exact Or.inl e
    · exact Or.inr (by rw [Nat.pow_succ] at h2; omega)
theorem cs_append (l m : List Nat) : cs (l ++ m) = cs l ++ cs m := by unfold cs; rw [List.map_append]
theorem cs_len (l : List Nat) : (cs l).length = l.length := by unfold cs; rw [List.length_map]
theorem cs_drop (l : List Nat) (n : Nat) : (cs l).drop n = cs (l.drop n) := by unfold cs; rw [List.map_drop]
theorem cs_take (l : List Nat) (n : Nat) : (cs l).take n = cs (l.take n) := by unfold cs; rw [List.map_take]
theorem cs_one (n : Nat) : [(n : Int)] = cs [n] := rfl
theorem cs_rd (l : List Nat) (i : Nat) : rd (cs l) (i : Int) = ((l.getD i 0 : Nat) : Int) := by
  unfold rd cs
  rw [Int.toNat_natCast, List.getD_eq_getElem?_getD, List.getD_eq_getElem?_getD, List.getElem?_map]
  cases l[i]? <;> rfl
theorem same_eq (l m : List Nat) (hl : By l) (hm : By m) : palletref02_Same.f (cs l) (cs m) = some (decide (l = m)) := by
  unfold palletref02_Same.f
  congr 1
  rw [Bool.eq_iff_iff, beq_iff_eq, decide_eq_true_eq]
  exact ⟨fun h => bytes_inj l m hl hm h, fun h => by rw [h]⟩
theorem clone_cs (l : List Nat) (h : l.length < 17592186044416) : slices_Clone_byte_byte.f (cs l) = some (cs l) := clone_eq _ (by rw [cs_len]; exact h)
/-- A number behind a text, the program's way. -/
theorem put_l0' (n : Nat) : ∀ (j k : Nat) (x0 : List Int), j ≤ 9 → j < k → x0.length + j ≤ 140737488355000 → wire_put.l0 k x0 (n : Int) (j : Int) = some (x0 ++ cs (G 128 off7 j n))
  | 0, k, x0, hj, hk, hx => by
    obtain ⟨k, rfl⟩ : ∃ m, k = m + 1 := ⟨k - 1, by omega⟩
    simp only [wire_put.l0]
    rw [if_neg (by omega), if_pos (by omega), and127]
    rfl
  | j + 1, k, x0, hj, hk, hx => by
    obtain ⟨k, rfl⟩ : ∃ m, k = m + 1 := ⟨k - 1, by omega⟩
    have ih := put_l0' n j k (x0 ++ [(((n / 128 ^ (j + 1)) % 128 + 128 : Nat) : Int)]) (by omega) (by omega)
    simp only [wire_put.l0]
    rw [if_pos (by omega), w64 (x := 7 * ((j + 1 : Nat) : Int)) (by omega) (by omega), if_pos (by omega), if_pos (by omega), shr7 n (j + 1) hj, or128, w64 (by omega) (by omega), show ((j + 1 : Nat) : Int) - 1 = (j : Int) by omega]
    rw [ih (by rw [List.length_append, List.length_singleton]; omega), List.append_assoc]
    rfl
theorem put_eq' (n : Nat) (hn : n < 18446744073709551616) {k : Nat} (hk : 40 ≤ k) (x0 : List Int) (hx : x0.length ≤ 140737488354900) : wire_put.f k x0 (n : Int) = some (x0 ++ cs (vb n)) := by
  obtain ⟨k, rfl⟩ : ∃ m, k = m + 1 := ⟨k - 1, by omega⟩
  by_cases h0 : n = 0
  · subst h0
    unfold wire_put.f
    rw [show ((0 : Nat) : Int) = 0 from rfl, len_zero (by omega), Option.bind_some, show wrap64 (mx 1 (wrap64 (Int.tdiv (wrap64 (0 + 6)) 7)) - 1) = ((0 : Nat) : Int) by decide +kernel, show (0 : Int) = ((0 : Nat) : Int) from rfl, put_l0' 0 0 (k + 1) x0 (by decide) (by omega) (by omega), G_vb 0 0 (by decide) (Or.inl rfl)]
  · obtain ⟨L, e, l1, l2, l3, l4⟩ := len_eq (k := k) (x := (n : Int)) (by omega) (by omega)
    have p1 : 2 ^ (L - 1) ≤ n := by
      have : ((2 ^ (L - 1) : Nat) : Int) ≤ n := by simpa using l3
      omega
    have p2 : n < 2 ^ L := by
      have e2 : 2 ^ L = 2 ^ (L - 1) * 2 := by rw [← Nat.pow_succ, show (L - 1).succ = L by omega]
      have : (n : Int) < ((2 ^ (L - 1) * 2 : Nat) : Int) := by simpa using l4
      omega
    have e3 : wrap64 (mx 1 (wrap64 (Int.tdiv (wrap64 ((L : Int) + 6)) 7)) - 1) = (((L + 6) / 7 - 1 : Nat) : Int) := by
      rw [w64 (x := (L : Int) + 6) (by omega) (by omega), Int.tdiv_eq_ediv_of_nonneg (by omega), w64 (x := ((L : Int) + 6) / 7) (by omega) (by omega)]
      unfold mx
      split <;> (rw [w64 (by omega) (by omega)]; omega)
    unfold wire_put.f
    rw [e, Option.bind_some, e3, put_l0' n _ (k + 1) x0 (by omega) (by omega) (by omega), G_vb]
    · have : 2 ^ L ≤ 128 ^ ((L + 6) / 7 - 1 + 1) := by
        rw [show 128 = 2 ^ 7 by decide, ← Nat.pow_mul]
        exact Nat.pow_le_pow_right (by decide) (by omega)
      omega
    · have : 128 ^ ((L + 6) / 7 - 1) ≤ 2 ^ (L - 1) := by
        rw [show 128 = 2 ^ 7 by decide, ← Nat.pow_mul]
        exact Nat.pow_le_pow_right (by decide) (by omega)
      omega
/-- Many numbers, one behind the other. -/
def vbs (l : List Nat) : List Nat := (l.map vb).flatten
theorem vbs_by (l : List Nat) : By (vbs l) := by
  intro x hx
  unfold vbs at hx
  rw [List.mem_flatten] at hx
  obtain ⟨m, hm, hx⟩ := hx
  obtain ⟨n, _, rfl⟩ := List.mem_map.1 hm
  exact vb_by n x hx
theorem vbs_cons (n : Nat) (l : List Nat) : vbs (n :: l) = vb n ++ vbs l := rfl
theorem vbs_len (l : List Nat) (h : ∀ n ∈ l, n < 18446744073709551616) : (vbs l).length ≤ 10 * l.length := by
  induction l with
  | nil => simp [vbs]
  | cons n l ih =>
    rw [vbs_cons, List.length_append, List.length_cons]
    have := ih fun m hm => h m (by simp [hm])
    have := vb_len10 (h n (by simp))
    omega
theorem drop_cons (xs : List Nat) (i : Nat) (h : i < xs.length) : xs.drop i = xs.getD i 0 :: xs.drop (i + 1) := by
  rw [List.drop_eq_getElem_cons h, List.getD_eq_getElem?_getD, List.getElem?_eq_getElem h]
  rfl
theorem getD_mem (xs : List Nat) (i : Nat) (h : i < xs.length) : xs.getD i 0 ∈ xs := by
  rw [List.getD_eq_getElem?_getD, List.getElem?_eq_getElem h]
  exact List.getElem_mem h
theorem Vary_l0 (xs : List Nat) (hx : ∀ n ∈ xs, n < 18446744073709551616) (hl : xs.length ≤ 1000000000000) (d : Nat) : ∀ (k i : Nat) (x0 : List Int), i ≤ xs.length → xs.length - i = d → d + 40 ≤ k → x0.length + 10 * d ≤ 140737488354800 →
    wire_Vary.l0 k x0 (cs xs) (xs.length : Int) (i : Int) = some (x0 ++ cs (vbs (xs.drop i))) := by
  induction d with
  | zero =>
    intro k i x0 hi hd hk h0
    obtain ⟨k, rfl⟩ : ∃ m, k = m + 1 := ⟨k - 1, by omega⟩
    simp only [wire_Vary.l0]
    rw [if_neg (by omega), List.drop_of_length_le (by omega)]
    simp [vbs, cs]
  | succ d ih =>
    intro k i x0 hi hd hk h0
    obtain ⟨k, rfl⟩ : ∃ m, k = m + 1 := ⟨k - 1, by omega⟩
    have hlt : i < xs.length := by omega
    have hm := hx _ (getD_mem xs i hlt)
    have h10 := vb_len10 hm
    simp only [wire_Vary.l0]
    rw [if_pos (by omega), if_pos (by omega), cs_len, if_pos (by omega), cs_rd, put_eq' _ hm (by omega) _ (by omega), Option.bind_some, w64 (by omega) (by omega), show (i : Int) + 1 = ((i + 1 : Nat) : Int) by omega, ih k (i + 1) _ (by omega) (by omega) (by omega) (by rw [List.length_append, cs_len]; omega), List.append_assoc, drop_cons xs i hlt, vbs_cons, cs_append]
theorem Vary_eq {k : Nat} (b xs : List Nat) (hx : ∀ n ∈ xs, n < 18446744073709551616) (hl : xs.length ≤ 1000000000000) (hb : b.length ≤ 10000000000000) (hk : xs.length + 50 ≤ k) : wire_Vary.f k (cs b) (cs xs) = some (cs (b ++ vbs xs)) := by
  unfold wire_Vary.f
  rw [clone_cs _ (by omega), Option.bind_some, cs_len]
  have := Vary_l0 xs hx hl xs.length k 0 (cs b) (by omega) (by omega) (by omega) (by rw [cs_len]; omega)
  rw [show ((0 : Nat) : Int) = 0 from rfl, List.drop_zero] at this
  rw [this, cs_append]
/-- Reading one. -/
def res (a : Int) (d : Nat × Nat × Nat) : Int × Int × Int := if d.2.2 = 0 then ((d.1 : Int), a + d.2.1, 0) else (0, 0, (d.2.2 : Int))
theorem and127' (c : Nat) (h : c < 256) : Go.bits .and .u8 (c : Int) 127 = ((c % 128 : Nat) : Int) := and127a ⟨c, h⟩
theorem and128a : ∀ i : Fin 256, Go.bits .and .u8 (i.val : Int) 128 = (if i.val < 128 then 0 else 128) := by decide +kernel
theorem and128 (c : Nat) (h : c < 256) : Go.bits .and .u8 (c : Int) 128 = (if c < 128 then 0 else 128) := and128a ⟨c, h⟩
theorem u64_in {x : Int} (h : 0 ≤ x) (h2 : x < 18446744073709551616) : IntKind.u64.wrap x = x := by
  simp only [IntKind.wrap, IntKind.bits, IntKind.signed]
  simp
  omega
theorem or7 (n c : Nat) (hn : n < 144115188075855872) (hc : c < 128) : Go.bits .or .u64 (IntKind.u64.wrap ((n : Int) * 128)) (IntKind.u64.wrap (c : Int)) = ((n * 128 + c : Nat) : Int) := by
  rw [u64_in (by omega) (by omega), u64_in (by omega) (by omega), show (n : Int) * 128 = ((n * 128 : Nat) : Int) by omega]
  show IntKind.u64.wrap (((BitVec.ofInt 64 ((n * 128 : Nat) : Int)) ||| (BitVec.ofInt 64 (c : Int))).toNat : Int) = _
  rw [BitVec.ofInt_natCast, BitVec.ofInt_natCast, BitVec.toNat_or, BitVec.toNat_ofNat, BitVec.toNat_ofNat, Nat.mod_eq_of_lt (by omega), Nat.mod_eq_of_lt (by omega)]
  have e := Nat.shiftLeft_add_eq_or_of_lt (i := 7) (show c < 2 ^ 7 by omega) n
  rw [Nat.shiftLeft_eq] at e
  rw [show n * 128 = n * 2 ^ 7 by omega, ← e, u64_in (by omega) (by omega)]
theorem len57 {k : Nat} (hk : 2 ≤ k) (n : Nat) (hn : n < 18446744073709551616) : ∃ L : Int, bits_Len64.f k (n : Int) = some L ∧ (decide (L > 57) = decide (144115188075855872 ≤ n)) := by
  obtain ⟨k, rfl⟩ : ∃ m, k = m + 1 := ⟨k - 1, by omega⟩
  by_cases h0 : n = 0
  · subst h0
    exact ⟨0, len_zero (by omega), by decide⟩
  · obtain ⟨L, e, l1, l2, l3, l4⟩ := len_eq (k := k) (x := (n : Int)) (by omega) (by omega)
    refine ⟨L, e, ?_⟩
    rw [decide_eq_decide]
    constructor
    · intro h
      have : (2 : Int) ^ 57 ≤ 2 ^ (L - 1) := by
        have := Nat.pow_le_pow_right (n := 2) (by decide) (show 57 ≤ L - 1 by omega)
        exact_mod_cast this
      have e57 : (2 : Int) ^ 57 = 144115188075855872 := by decide
      omega
    · intro h
      by_cases c : 57 < L
      · omega
      · have : (2 : Int) ^ (L - 1) ≤ 2 ^ 56 := by
          have := Nat.pow_le_pow_right (n := 2) (by decide) (show L - 1 ≤ 56 by omega)
          exact_mod_cast this
        have e56 : (2 : Int) ^ 56 = 72057594037927936 := by decide
        omega
theorem TakeVary_l0 (a : Int) (l : List Nat) (hl : By l) (hn : l.length ≤ 1000000000000) (ha : -1000000000000 ≤ a ∧ a ≤ 4000000000000000000) (d : Nat) : ∀ (k i n : Nat), i ≤ l.length → l.length - i = d → 2 * d + 10 ≤ k → n < 18446744073709551616 →
    wire_TakeVary.l0 k a (n : Int) (cs l) (l.length : Int) (i : Int) = some (res a (dv n i (l.drop i))) := by
  induction d with
  | zero =>
    intro k i n hi hd hk h0
    obtain ⟨k, rfl⟩ : ∃ m, k = m + 1 := ⟨k - 1, by omega⟩
    simp only [wire_TakeVary.l0]
    rw [if_neg (by omega), List.drop_of_length_le (by omega)]
    rfl
  | succ d ih =>
    intro k i n hi hd hk h0
    obtain ⟨k, rfl⟩ : ∃ m, k = m + 2 := ⟨k - 2, by omega⟩
    have hlt : i < l.length := by omega
    have hc : l.getD i 0 < 256 := hl _ (getD_mem l i hlt)
    obtain ⟨L, eL, dL⟩ := len57 (k := k + 1) (by omega) n h0
    rw [drop_cons l i hlt]
    simp only [wire_TakeVary.l0]
    rw [if_pos (by omega), if_pos (by omega), cs_len, if_pos (by omega), cs_rd]
    generalize hcc : l.getD i 0 = c at *
    have key : ∀ bad : Bool, bad = decide (i = 0 ∧ c = 128 ∨ 144115188075855872 ≤ n) → wire_TakeVary.j1 (k + 1) a n i c (cs l) (l.length) i bad = some (res a (dv n i (c :: l.drop (i + 1)))) := by
      intro bad hb
      simp only [wire_TakeVary.j1]
      by_cases hB : i = 0 ∧ c = 128 ∨ 144115188075855872 ≤ n
      · rw [hb, decide_eq_true hB, if_pos rfl, dv_bad hB]
        rfl
      · rw [hb, decide_eq_false hB, if_neg (by decide), and128 c hc, and127' c hc, or7 n _ (by omega) (by omega)]
        by_cases h2 : c < 128
        · rw [if_pos h2, if_pos rfl, dv_end hB h2, w64 (x := a + (i : Int)) (by omega) (by omega), w64 (by omega) (by omega), Nat.mod_eq_of_lt h2]
          unfold res
          rw [if_pos rfl]
          simp only [Option.some.injEq, Prod.mk.injEq]
          exact ⟨trivial, by omega, trivial⟩
        · rw [if_neg h2, if_neg (by decide), dv_more hB h2, w64 (by omega) (by omega), show (i : Int) + 1 = ((i + 1 : Nat) : Int) by omega, show c % 128 = c - 128 by omega, ih k (i + 1) _ (by omega) (by omega) (by omega) (by omega)]
    by_cases hi0 : i = 0
    · rw [if_pos (by omega)]
      by_cases h128 : c = 128
      · rw [if_pos (by omega)]
        exact key true (by rw [eq_comm, decide_eq_true_eq]; exact Or.inl ⟨hi0, h128⟩)
      · rw [if_neg (by omega), eL, Option.bind_some]
        refine key _ ?_
        rw [dL, decide_eq_decide]
        omega
    · rw [if_neg (by omega), eL, Option.bind_some]
      refine key _ ?_
      rw [dL, decide_eq_decide]
      omega
theorem TakeVary_eq {k : Nat} (l : List Nat) (hl : By l) (hn : l.length ≤ 1000000000000) (a : Nat) (hk : 2 * l.length + 20 ≤ k) : wire_TakeVary.f k (cs l) (a : Int) = some (res a (dv 0 0 (l.drop a))) := by
  unfold wire_TakeVary.f
  rw [if_neg (by omega), cs_len]
  have hm : mn (a : Int) (l.length : Int) = ((min a l.length : Nat) : Int) := by
    unfold mn
    split <;> omega
  rw [hm, if_pos (by omega), if_pos (by omega), Int.toNat_natCast, cs_drop, cs_len]
  by_cases h : a ≤ l.length
  · have := TakeVary_l0 a (l.drop (min a l.length)) (hl.drop _) (by rw [List.length_drop]; omega) (by omega) (l.drop (min a l.length)).length k 0 0 (by omega) (by omega) (by rw [List.length_drop]; omega) (by decide)
    rw [show ((0 : Nat) : Int) = 0 from rfl, List.drop_zero] at this
    rw [this, Nat.min_eq_left h]
  · rw [Nat.min_eq_right (by omega), List.drop_of_length_le (Nat.le_refl _), List.drop_of_length_le (by omega)]
    obtain ⟨k, rfl⟩ : ∃ m, k = m + 1 := ⟨k - 1, by omega⟩
    simp only [wire_TakeVary.l0]
    rw [if_neg (by simp)]
    rfl
end Go.Proofs.YtcbjbgleflbpmaaDoor.Wire2
/- Signed numbers, numbers of a width, records (layer 2), as printed: what each function answers. -/
namespace Go.Proofs.YtcbjbgleflbpmaaDoor.Wire3
open Go Go.RowKit Go.Proofs.YtcbjbgleflbpmaaDoor.Print Go.Proofs.YtcbjbgleflbpmaaDoorW.PrintWords Go.Proofs.YtcbjbgleflbpmaaDoorW.PrintLast Go.Proofs.YtcbjbgleflbpmaaDoorW.PrintMore Go.Proofs.YtcbjbgleflbpmaaDoor.Len64 Go.Proofs.YtcbjbgleflbpmaaDoor.Digits Go.Proofs.YtcbjbgleflbpmaaDoor.Wire Go.Proofs.YtcbjbgleflbpmaaDoor.WireSpec Go.Proofs.YtcbjbgleflbpmaaDoor.Wire2
theorem u64_mod (x : Int) : IntKind.u64.wrap x = x % 18446744073709551616 := by
  simp only [IntKind.wrap, IntKind.bits, IntKind.signed]
  simp
theorem xor_zero (x : Int) (h : 0 ≤ x) (h2 : x < 18446744073709551616) : Go.bits .xor .u64 x 0 = x := by
  show IntKind.u64.wrap (((BitVec.ofInt 64 x) ^^^ (BitVec.ofInt 64 0)).toNat : Int) = x
  rw [show BitVec.ofInt 64 0 = 0#64 from rfl, BitVec.xor_zero, BitVec.toNat_ofInt, u64_in (by omega) (by omega)]
  omega
theorem xor_ones (x : Int) (h : 0 ≤ x) (h2 : x < 18446744073709551616) : Go.bits .xor .u64 x 18446744073709551615 = 18446744073709551615 - x := by
  show IntKind.u64.wrap (((BitVec.ofInt 64 x) ^^^ (BitVec.ofInt 64 18446744073709551615)).toNat : Int) = _
  rw [show BitVec.ofInt 64 18446744073709551615 = BitVec.allOnes 64 by decide, BitVec.xor_allOnes, BitVec.toNat_not, BitVec.toNat_ofInt, u64_in (by omega) (by omega)]
  omega
theorem zz_eq {x : Int} (h : -9223372036854775808 ≤ x) (h2 : x ≤ 9223372036854775807) : Go.bits .xor .u64 (IntKind.u64.wrap (wrap64 (x * 2))) (IntKind.u64.wrap (x / 9223372036854775808)) = ((zz x : Nat) : Int) := by
  have e : IntKind.u64.wrap (wrap64 (x * 2)) = (2 * x) % 18446744073709551616 := by
    rw [u64_mod]
    unfold wrap64
    omega
  rw [e]
  unfold zz
  by_cases c : x < 0
  · rw [show x / 9223372036854775808 = -1 by omega, show IntKind.u64.wrap (-1) = 18446744073709551615 by decide, xor_ones _ (by omega) (by omega), if_pos c]
    omega
  · rw [show x / 9223372036854775808 = 0 by omega, show IntKind.u64.wrap 0 = 0 by decide, xor_zero _ (by omega) (by omega), if_neg c]
    omega
def ws (l : List Int) : Prop := ∀ x ∈ l, -9223372036854775808 ≤ x ∧ x ≤ 9223372036854775807
theorem idrop (xs : List Int) (i : Nat) (h : i < xs.length) : xs.drop i = xs.getD i 0 :: xs.drop (i + 1) := by
  rw [List.drop_eq_getElem_cons h, List.getD_eq_getElem?_getD, List.getElem?_eq_getElem h]
  rfl
theorem imem (xs : List Int) (i : Nat) (h : i < xs.length) : xs.getD i 0 ∈ xs := by
  rw [List.getD_eq_getElem?_getD, List.getElem?_eq_getElem h]
  exact List.getElem_mem h
theorem rdn (xs : List Int) (j : Nat) : rd xs (j : Int) = xs.getD j 0 := by simp [rd]
theorem Sign_l0 (xs : List Int) (hx : ws xs) (hl : xs.length ≤ 1000000000000) (d : Nat) : ∀ (k i : Nat) (x0 : List Int), i ≤ xs.length → xs.length - i = d → d + 40 ≤ k → x0.length + 10 * d ≤ 140737488354800 →
    wire_Sign.l0 k x0 xs (xs.length : Int) (i : Int) = some (x0 ++ cs (vbs ((xs.drop i).map zz))) := by
  induction d with
  | zero =>
    intro k i x0 hi hd hk h0
    obtain ⟨k, rfl⟩ : ∃ m, k = m + 1 := ⟨k - 1, by omega⟩
    simp only [wire_Sign.l0]
    rw [if_neg (by omega), List.drop_of_length_le (by omega)]
    simp [vbs, cs]
  | succ d ih =>
    intro k i x0 hi hd hk h0
    obtain ⟨k, rfl⟩ : ∃ m, k = m + 1 := ⟨k - 1, by omega⟩
    have hlt : i < xs.length := by omega
    have hm := hx _ (imem xs i hlt)
    have h10 := vb_len10 (zz_lt hm.1 hm.2)
    simp only [wire_Sign.l0]
    rw [if_pos (by omega), if_pos (by omega), if_pos (by omega), rdn, zz_eq hm.1 hm.2, put_eq' _ (zz_lt hm.1 hm.2) (by omega) _ (by omega), Option.bind_some, w64 (by omega) (by omega), show (i : Int) + 1 = ((i + 1 : Nat) : Int) by omega, ih k (i + 1) _ (by omega) (by omega) (by omega) (by rw [List.length_append, cs_len]; omega), List.append_assoc, idrop xs i hlt, List.map_cons, vbs_cons, cs_append]
theorem Sign_eq {k : Nat} (b : List Nat) (xs : List Int) (hx : ws xs) (hl : xs.length ≤ 1000000000000) (hb : b.length ≤ 10000000000000) (hk : xs.length + 50 ≤ k) : wire_Sign.f k (cs b) xs = some (cs (b ++ vbs (xs.map zz))) := by
  unfold wire_Sign.f
  rw [clone_cs _ (by omega), Option.bind_some]
  have := Sign_l0 xs hx hl xs.length k 0 (cs b) (by omega) (by omega) (by omega) (by rw [cs_len]; omega)
  rw [show ((0 : Nat) : Int) = 0 from rfl, List.drop_zero] at this
  rw [this, cs_append]
def ress (a : Int) (d : Nat × Nat × Nat) : Int × Int × Int := if d.2.2 = 0 then (uz d.1, a + d.2.1, 0) else (0, 0, (d.2.2 : Int))
theorem and1 (n : Nat) (h : n < 18446744073709551616) : Go.bits .and .u64 (n : Int) 1 = ((n % 2 : Nat) : Int) := by
  show IntKind.u64.wrap (((BitVec.ofInt 64 (n : Int)) &&& (BitVec.ofInt 64 1)).toNat : Int) = _
  rw [BitVec.toNat_and, show (BitVec.ofInt 64 1).toNat = 2 ^ 1 - 1 by decide, Nat.and_two_pow_sub_one_eq_mod, BitVec.ofInt_natCast, BitVec.toNat_ofNat, Nat.mod_eq_of_lt h, u64_in (by omega) (by omega)]
theorem uz_eq (n : Nat) (h : n < 18446744073709551616) : Go.bits .xor .i64 (wrap64 ((n : Int) / 2)) (wrap64 (-(wrap64 (Go.bits .and .u64 (n : Int) 1)))) = uz n := by
  rw [and1 n h, w64 (x := (n : Int) / 2) (by omega) (by omega), w64 (x := ((n % 2 : Nat) : Int)) (by omega) (by omega), w64 (by omega) (by omega)]
  unfold uz
  by_cases c : n % 2 = 1
  · rw [if_pos c, c]
    show IntKind.i64.wrap (((BitVec.ofInt 64 ((n : Int) / 2)) ^^^ (BitVec.ofInt 64 (-((1 : Nat) : Int)))).toNat : Int) = _
    rw [show BitVec.ofInt 64 (-((1 : Nat) : Int)) = BitVec.allOnes 64 by decide, BitVec.xor_allOnes, BitVec.toNat_not, BitVec.toNat_ofInt]
    simp only [IntKind.wrap, IntKind.bits, IntKind.signed]
    simp
    omega
  · rw [if_neg c, show n % 2 = 0 by omega]
    show IntKind.i64.wrap (((BitVec.ofInt 64 ((n : Int) / 2)) ^^^ (BitVec.ofInt 64 (-((0 : Nat) : Int)))).toNat : Int) = _
    rw [show BitVec.ofInt 64 (-((0 : Nat) : Int)) = 0#64 by decide, BitVec.xor_zero, BitVec.toNat_ofInt]
    simp only [IntKind.wrap, IntKind.bits, IntKind.signed]
    simp
    omega
theorem TakeSign_eq {k : Nat} (l : List Nat) (hl : By l) (hn : l.length ≤ 1000000000000) (a : Nat) (hk : 2 * l.length + 20 ≤ k) : wire_TakeSign.f k (cs l) (a : Int) = some (ress a (dv 0 0 (l.drop a))) := by
  unfold wire_TakeSign.f
  rw [TakeVary_eq l hl hn a hk, Option.bind_some]
  rcases hd : dv 0 0 (l.drop a) with ⟨n, c, e⟩
  unfold res ress
  by_cases h : e = 0
  · subst h
    have hb := (dv_bound (l.drop a) 0 0 n c (hl.drop a) hd).2.2
    simp only [if_true]
    rw [uz_eq _ hb]
  · simp only
    rw [if_neg h, if_neg h]
    simp only
    rw [if_neg (by omega)]
/-- A record's bytes. -/
def rb (kind : Nat) (body : List Nat) : List Nat := kind :: (vb body.length ++ body)
theorem rb_by {kind : Nat} {body : List Nat} (h : kind < 256) (hb : By body) : By (rb kind body) := By.cons h ((vb_by _).append hb)
theorem Record_eq {k : Nat} (b : List Nat) (kind : Nat) (body : List Nat) (hb : b.length ≤ 10000000000000) (hk : 50 ≤ k) :
    wire_Record.f k (cs b) (kind : Int) (cs body) = some (if 1048576 < body.length then ([], 6) else (cs (b ++ rb kind body), 0)) := by
  unfold wire_Record.f
  rw [cs_len]
  by_cases c : 1048576 < body.length
  · rw [if_pos (by omega), if_pos c]
  · have h10 := vb_len10 (n := body.length) (by omega)
    rw [if_neg (by omega), if_neg c, clone_cs _ (by omega), Option.bind_some, cs_len, if_pos (by omega), u64_in (by omega) (by omega), cs_one, ← cs_append, put_eq' _ (by omega) (by omega) _ (by rw [cs_len, List.length_append, List.length_singleton]; omega), Option.bind_some, ← cs_append, cs_len, List.length_append, List.length_append, List.length_singleton, if_pos (by omega), ← cs_append]
    unfold rb
    simp
end Go.Proofs.YtcbjbgleflbpmaaDoor.Wire3
/- Numbers of a width, and records (layer 2), as printed: what each function answers. -/
namespace Go.Proofs.YtcbjbgleflbpmaaDoor.Wire4
open Go Go.RowKit Go.Proofs.YtcbjbgleflbpmaaDoor.Print Go.Proofs.YtcbjbgleflbpmaaDoorW.PrintWords Go.Proofs.YtcbjbgleflbpmaaDoorW.PrintLast Go.Proofs.YtcbjbgleflbpmaaDoorW.PrintMore Go.Proofs.YtcbjbgleflbpmaaDoor.Len64 Go.Proofs.YtcbjbgleflbpmaaDoor.Digits Go.Proofs.YtcbjbgleflbpmaaDoor.Wire Go.Proofs.YtcbjbgleflbpmaaDoor.WireSpec Go.Proofs.YtcbjbgleflbpmaaDoor.Wire2 Go.Proofs.YtcbjbgleflbpmaaDoor.Wire3
/-- A number of a width may be written. -/
def fxOk (w : Int) (n : Nat) : Prop := 1 ≤ w ∧ w ≤ 8 ∧ n < 256 ^ w.toNat
instance (w : Int) (n : Nat) : Decidable (fxOk w n) := by unfold fxOk; infer_instance
end Go.Proofs.YtcbjbgleflbpmaaDoor.Wire4
/- Records (layer 2) on lists of numbers: one's measures, and all. Plain facts, without the program. -/
namespace Go.Proofs.YtcbjbgleflbpmaaDoor.Recs
open Go.Proofs.YtcbjbgleflbpmaaDoor.WireSpec
/-- A record at a text's beginning: its head's length, its body's, and what is wrong. -/
def sp1 (t : List Nat) : Nat × Nat × Nat :=
  match t with
  | [] => (0, 0, 3)
  | _ :: r => if (dv 0 0 r).2.2 ≠ 0 then (0, 0, (dv 0 0 r).2.2) else if 1048576 < (dv 0 0 r).1 then (0, 0, 6) else if r.length - (dv 0 0 r).2.1 < (dv 0 0 r).1 then (0, 0, 3) else (1 + (dv 0 0 r).2.1, (dv 0 0 r).1, 0)
theorem sp1_ok {t : List Nat} (ht : By t) {h n : Nat} (e : sp1 t = (h, n, 0)) : ∃ kd r, t = kd :: r ∧ dv 0 0 r = (n, h - 1, 0) ∧ 2 ≤ h ∧ n ≤ 1048576 ∧ h + n ≤ t.length := by
  cases t with
  | nil => simp [sp1] at e
  | cons kd r =>
    refine ⟨kd, r, rfl, ?_⟩
    rcases hd : dv 0 0 r with ⟨a, c, x⟩
    simp only [sp1, hd] at e
    by_cases h1 : x ≠ 0
    · rw [if_pos h1] at e
      simp only [Prod.mk.injEq] at e
      omega
    rw [if_neg h1] at e
    have h1 : x = 0 := by omega
    subst h1
    by_cases h2 : 1048576 < a
    · rw [if_pos h2] at e
      simp at e
    rw [if_neg h2] at e
    by_cases h3 : r.length - c < a
    · rw [if_pos h3] at e
      simp at e
    rw [if_neg h3] at e
    simp only [Prod.mk.injEq] at e
    obtain ⟨rfl, rfl, _⟩ := e
    have := dv_bound r 0 0 a c ht.tail hd
    refine ⟨by rw [show 1 + c - 1 = c by omega], by omega, by omega, ?_⟩
    rw [List.length_cons]
    omega
end Go.Proofs.YtcbjbgleflbpmaaDoor.Recs
/- Records (layer 2), as printed: what each function answers. -/
namespace Go.Proofs.YtcbjbgleflbpmaaDoor.Wire5
open Go Go.RowKit Go.Proofs.YtcbjbgleflbpmaaDoor.Print Go.Proofs.YtcbjbgleflbpmaaDoorW.PrintWords Go.Proofs.YtcbjbgleflbpmaaDoorW.PrintLast Go.Proofs.YtcbjbgleflbpmaaDoorW.PrintMore Go.Proofs.YtcbjbgleflbpmaaDoor.Len64 Go.Proofs.YtcbjbgleflbpmaaDoor.Digits Go.Proofs.YtcbjbgleflbpmaaDoor.Wire Go.Proofs.YtcbjbgleflbpmaaDoor.WireSpec Go.Proofs.YtcbjbgleflbpmaaDoor.Wire2 Go.Proofs.YtcbjbgleflbpmaaDoor.Wire3 Go.Proofs.YtcbjbgleflbpmaaDoor.Wire4 Go.Proofs.YtcbjbgleflbpmaaDoor.Recs
def sres (a : Int) (s : Nat × Nat × Nat) : Int × Int × Int := if s.2.2 = 0 then (a + s.1, a + s.1 + s.2.1, 0) else (0, 0, (s.2.2 : Int))
theorem span_eq {k : Nat} (l : List Nat) (hl : By l) (hn : l.length ≤ 100000000) (a : Nat) (hk : 2 * l.length + 30 ≤ k) : wire_span.f k (cs l) (a : Int) = some (sres a (sp1 (l.drop a))) := by
  unfold wire_span.f
  rw [if_neg (by omega), cs_len]
  by_cases h : (a : Int) ≥ (l.length : Int)
  · rw [if_pos h, List.drop_of_length_le (by omega)]
    rfl
  rw [if_neg h, w64 (by omega) (by omega), show (a : Int) + 1 = ((a + 1 : Nat) : Int) by omega, TakeVary_eq l hl (by omega) (a + 1) (by omega), Option.bind_some, drop_cons l a (by omega)]
  simp only [sp1]
  rcases hd : dv 0 0 (l.drop (a + 1)) with ⟨n, c, x⟩
  have hlen : (l.drop (a + 1)).length = l.length - (a + 1) := List.length_drop
  unfold res
  by_cases h1 : x = 0
  · subst h1
    have hb := dv_bound _ 0 0 n c (hl.drop _) hd
    simp only [if_true]
    rw [if_neg (show ¬ (0 : Nat) ≠ 0 by omega)]
    by_cases h2 : 1048576 < n
    · rw [if_pos (by omega), if_pos h2]
      rfl
    rw [if_neg (by omega), if_neg h2, w64 (x := (n : Int)) (by omega) (by omega), w64 (x := (l.length : Int) - _) (by omega) (by omega), hlen]
    by_cases h3 : l.length - (a + 1) - c < n
    · rw [if_pos (by omega), if_pos h3]
      rfl
    · rw [if_neg (by omega), if_neg h3, w64 (by omega) (by omega)]
      unfold sres
      rw [if_pos rfl]
      have e1 : ((a + 1 : Nat) : Int) + (c : Int) = (a : Int) + ((1 + c : Nat) : Int) := by omega
      rw [e1]
  · simp only
    rw [if_neg h1]
    simp only
    rw [if_neg (by omega), if_pos h1]
    unfold sres
    rw [if_neg h1]
def tres (l : List Nat) (a : Nat) : Int × List Int × Int × Int := if (sp1 (l.drop a)).2.2 = 0 then (((l.getD a 0 : Nat) : Int), cs ((l.drop (a + (sp1 (l.drop a)).1)).take (sp1 (l.drop a)).2.1), ((a + ((sp1 (l.drop a)).1 + (sp1 (l.drop a)).2.1) : Nat) : Int), 0) else (0, [], 0, ((sp1 (l.drop a)).2.2 : Int))
theorem TakeRecord_eq {k : Nat} (l : List Nat) (hl : By l) (hn : l.length ≤ 100000000) (a : Nat) (hk : 2 * l.length + 30 ≤ k) : wire_TakeRecord.f k (cs l) (a : Int) = some (tres l a) := by
  unfold wire_TakeRecord.f
  rw [span_eq l hl hn a hk, Option.bind_some]
  unfold tres sres
  rcases hs : sp1 (l.drop a) with ⟨u, n, y⟩
  by_cases h1 : y = 0
  · subst h1
    obtain ⟨kd, r, _, _, h3, h4, h5⟩ := sp1_ok (hl.drop a) hs
    rw [List.length_drop] at h5
    simp only [if_true]
    rw [if_pos (by omega), cs_len, if_pos (by omega), if_pos (by omega), if_pos (by omega), if_pos (by omega), show ((a : Int) + (u : Int) + (n : Int)) = ((a + (u + n) : Nat) : Int) by omega, show ((a : Int) + (u : Int)) = ((a + u : Nat) : Int) by omega, Int.toNat_natCast, Int.toNat_natCast, cs_take, cs_drop, clone_cs _ (by rw [List.length_drop, List.length_take]; omega), Option.bind_some, cs_rd]
    rw [List.drop_take, show a + (u + n) - (a + u) = n by omega]
  · simp only
    rw [if_neg h1, if_neg h1]
    simp only
    rw [if_neg (by omega)]
/-- What is written is read. -/
theorem sp1_rb (kind : Nat) (body : List Nat) (hb : body.length ≤ 1048576) (u : List Nat) : sp1 (rb kind body ++ u) = (1 + (vb body.length).length, body.length, 0) := by
  unfold rb
  rw [List.cons_append, List.append_assoc]
  simp only [sp1]
  rw [dv_vb body.length (by omega)]
  simp only
  rw [if_neg (by omega), if_neg (by omega), if_neg (by rw [List.length_append, List.length_append]; omega)]
theorem rb_len (kind : Nat) (body : List Nat) : (rb kind body).length = 1 + (vb body.length).length + body.length := by
  unfold rb
  rw [List.length_cons, List.length_append]
  omega
end Go.Proofs.YtcbjbgleflbpmaaDoor.Wire5
/- The document's reading of a number (layer 2), as printed: the same answer as the code's. -/
namespace Go.Proofs.YtcbjbgleflbpmaaDoor.TakeRef
open Go Go.RowKit Go.Proofs.YtcbjbgleflbpmaaDoor.Print Go.Proofs.YtcbjbgleflbpmaaDoorW.PrintWords Go.Proofs.YtcbjbgleflbpmaaDoorW.PrintLast Go.Proofs.YtcbjbgleflbpmaaDoorW.PrintMore Go.Proofs.YtcbjbgleflbpmaaDoor.Wire Go.Proofs.YtcbjbgleflbpmaaDoor.WireSpec Go.Proofs.YtcbjbgleflbpmaaDoor.Wire2 Go.Proofs.YtcbjbgleflbpmaaDoor.Wire3 Go.Proofs.YtcbjbgleflbpmaaDoor.Wire4
theorem w64 {x : Int} (h : -9223372036854775808 ≤ x) (h2 : x ≤ 9223372036854775807) : wrap64 x = x := by unfold wrap64; omega
theorem getD_by {l : List Nat} (h : By l) (i : Nat) : l.getD i 0 < 256 := by
  by_cases hk : i < l.length
  · rw [List.getD_eq_getElem?_getD, List.getElem?_eq_getElem hk]
    exact h _ (List.getElem_mem hk)
  · rw [List.getD_eq_getElem?_getD, List.getElem?_eq_none (by omega)]
    decide
end Go.Proofs.YtcbjbgleflbpmaaDoor.TakeRef
/- The two sums' registers as numbers (layer 3): one step, many steps, what a turned bit does. Plain facts. -/
namespace Go.Proofs.YtcbjbgleflbpmaaDoor.Crc
def st (c : Nat) : Nat := (c <<< 1) ^^^ (if c.testBit 23 then 0x1864cfb else 0)
def rt (c : Nat) : Nat := (c >>> 1) ^^^ (if c.testBit 0 then 0xedb88320 else 0)
theorem ite_xor (p q : Bool) (P : Nat) : (if (p ^^ q) = true then P else 0) = (if p = true then P else 0) ^^^ (if q = true then P else 0) := by cases p <;> cases q <;> simp
theorem xor4 (a b c d : Nat) : (a ^^^ b) ^^^ (c ^^^ d) = (a ^^^ c) ^^^ (b ^^^ d) := by
  rw [Nat.xor_assoc, Nat.xor_assoc, ← Nat.xor_assoc b c d, Nat.xor_comm b c, Nat.xor_assoc c b d]
theorem rt_xor (a b : Nat) : rt (a ^^^ b) = rt a ^^^ rt b := by
  unfold rt
  rw [Nat.shiftRight_xor_distrib, Nat.testBit_xor, ite_xor, xor4]
theorem bits_lt {c n i : Nat} (h : c < 2 ^ n) (hi : n ≤ i) : c.testBit i = false := Nat.testBit_lt_two_pow (Nat.lt_of_lt_of_le h (Nat.pow_le_pow_right (by decide) hi))
theorem rt_lt {c : Nat} (h : c < 2 ^ 32) : rt c < 2 ^ 32 := by
  unfold rt
  refine Nat.xor_lt_two_pow ?_ ?_
  · rw [Nat.shiftRight_eq_div_pow]
    omega
  · split <;> decide
/-- So many steps. -/
def it (f : Nat → Nat) : Nat → Nat → Nat
  | 0, c => c
  | n + 1, c => it f n (f c)
section
variable {f : Nat → Nat} {B : Nat} (lin : ∀ a b, f (a ^^^ b) = f a ^^^ f b) (lt : ∀ c, c < 2 ^ B → f c < 2 ^ B) (nz : ∀ c, c < 2 ^ B → f c = 0 → c = 0)
theorem it_add (m n c : Nat) : it f (m + n) c = it f n (it f m c) := by
  induction m generalizing c with
  | zero => rw [Nat.zero_add]; rfl
  | succ m ih => rw [Nat.add_right_comm]; exact ih (f c)
include lin in
theorem it_xor (n a b : Nat) : it f n (a ^^^ b) = it f n a ^^^ it f n b := by
  induction n generalizing a b with
  | zero => rfl
  | succ n ih => show it f n (f (a ^^^ b)) = _; rw [lin, ih]; rfl
include lt in
theorem it_lt (n : Nat) {c : Nat} (h : c < 2 ^ B) : it f n c < 2 ^ B := by
  induction n generalizing c with
  | zero => exact h
  | succ n ih => exact ih (lt c h)
/-- A register behind a text; g puts a byte on it. -/
def reg (f g : Nat → Nat) (l : List Nat) (c : Nat) : Nat := l.foldl (fun c x => it f 8 (c ^^^ g x)) c
theorem reg_cons (g : Nat → Nat) (x : Nat) (l : List Nat) (c : Nat) : reg f g (x :: l) c = reg f g l (it f 8 (c ^^^ g x)) := rfl
include lt in
theorem reg_lt (g : Nat → Nat) (l : List Nat) (hg : ∀ x ∈ l, g x < 2 ^ B) {c : Nat} (h : c < 2 ^ B) : reg f g l c < 2 ^ B := by
  induction l generalizing c with
  | nil => exact h
  | cons x l ih =>
    rw [reg_cons]
    exact ih (fun y hy => hg y (by simp [hy])) (it_lt lt 8 (Nat.xor_lt_two_pow h (hg x (by simp))))
end
theorem it_rt_small : ∀ (n c : Nat), it rt n (c <<< n) = c
  | 0, c => by rw [Nat.shiftLeft_zero]; rfl
  | n + 1, c => by
    have e : rt (c <<< (n + 1)) = c <<< n := by
      unfold rt
      rw [Nat.testBit_shiftLeft]
      simp
      rw [Nat.shiftLeft_eq, Nat.shiftLeft_eq, Nat.shiftRight_eq_div_pow, Nat.pow_succ, ← Nat.mul_assoc, Nat.pow_one, Nat.mul_div_cancel _ (by decide)]
    show it rt n (rt (c <<< (n + 1))) = c
    rw [e, it_rt_small n c]
def g24 (x : Nat) : Nat := x <<< 16
def g32 (x : Nat) : Nat := x
/-- The two registers behind a text, raw. -/
def r24 (l : List Nat) : Nat := reg st g24 l 0xb704ce
def r32 (l : List Nat) : Nat := reg rt g32 l 0xffffffff
def By (l : List Nat) : Prop := ∀ x ∈ l, x < 256
theorem xor_add (a b k : Nat) (h : b < 2 ^ k) : (a <<< k) ^^^ b = a * 2 ^ k + b := by
  apply Nat.eq_of_testBit_eq
  intro i
  rw [Nat.testBit_xor, Nat.testBit_shiftLeft, Nat.mul_comm, Nat.testBit_two_pow_mul_add a h]
  by_cases c : i < k
  · rw [if_pos c]
    simp [show ¬ i ≥ k by omega]
  · rw [if_neg c, bits_lt h (by omega)]
    simp [show i ≥ k by omega]
end Go.Proofs.YtcbjbgleflbpmaaDoor.Crc
/- Sums and what is turned in a text (layer 3): a few bits beside one another always show. Plain facts. -/
namespace Go.Proofs.YtcbjbgleflbpmaaDoor.Crc
end Go.Proofs.YtcbjbgleflbpmaaDoor.Crc
/- Sums, seals, turned bits (layer 3), as printed: what each function answers. -/
namespace Go.Proofs.YtcbjbgleflbpmaaDoor.CrcFn
open Go Go.RowKit Go.Proofs.YtcbjbgleflbpmaaDoor.Print Go.Proofs.YtcbjbgleflbpmaaDoorW.PrintWords Go.Proofs.YtcbjbgleflbpmaaDoorW.PrintLast Go.Proofs.YtcbjbgleflbpmaaDoorW.PrintMore Go.Proofs.YtcbjbgleflbpmaaDoor.Crc
theorem w64 {x : Int} (h : -9223372036854775808 ≤ x) (h2 : x ≤ 9223372036854775807) : wrap64 x = x := by unfold wrap64; omega
def cs (l : List Nat) : List Int := l.map fun a : Nat => (a : Int)
theorem cs_append (l m : List Nat) : cs (l ++ m) = cs l ++ cs m := by unfold cs; rw [List.map_append]
theorem cs_len (l : List Nat) : (cs l).length = l.length := by unfold cs; rw [List.length_map]
theorem cs_drop (l : List Nat) (n : Nat) : (cs l).drop n = cs (l.drop n) := by unfold cs; rw [List.map_drop]
theorem cs_take (l : List Nat) (n : Nat) : (cs l).take n = cs (l.take n) := by unfold cs; rw [List.map_take]
theorem cs_rd (l : List Nat) (i : Nat) : rd (cs l) (i : Int) = ((l.getD i 0 : Nat) : Int) := by
  unfold rd cs
  rw [Int.toNat_natCast, List.getD_eq_getElem?_getD, List.getD_eq_getElem?_getD, List.getElem?_map]
  cases l[i]? <;> rfl
theorem nums_inj {l m : List Nat} (hl : By l) (hm : By m) (h : (strOfNums (cs l)).toList = (strOfNums (cs m)).toList) : l = m := by
  unfold cs at h
  rw [Go.Lib.strOfNums_toList, Go.Lib.strOfNums_toList] at h
  induction l generalizing m with
  | nil => cases m with
    | nil => rfl
    | cons b m => simp [Go.Lib.bytesOf] at h
  | cons a l ih =>
    cases m with
    | nil => simp [Go.Lib.bytesOf] at h
    | cons b m =>
      simp only [Go.Lib.bytesOf, List.map_cons, List.cons.injEq] at h
      have h1 := hl a (by simp)
      have h2 := hm b (by simp)
      have i := ih (fun c hc => hl c (by simp [hc])) (fun c hc => hm c (by simp [hc])) h.2
      have e := UInt8.toNat_inj.2 h.1
      rw [Int.toNat_natCast, Int.toNat_natCast, UInt8.toNat_ofNat', UInt8.toNat_ofNat', Nat.mod_eq_of_lt h1, Nat.mod_eq_of_lt h2] at e
      rw [e, i]
theorem text_eq {l m : List Nat} (hl : By l) (hm : By m) : ((strOfNums (cs l)).toList == (strOfNums (cs m)).toList) = decide (l = m) := by
  rw [Bool.eq_iff_iff, beq_iff_eq, decide_eq_true_eq]
  exact ⟨fun h => nums_inj hl hm h, fun h => by rw [h]⟩
/-! ### Numbers of 32 bits, bit by bit -/
theorem uw32 (x : Int) : IntKind.u32.wrap x = x % 4294967296 := by
  simp only [IntKind.wrap, IntKind.bits, IntKind.signed]
  simp
theorem xor32 {a b : Nat} (ha : a < 2 ^ 32) (hb : b < 2 ^ 32) : Go.bits .xor .u32 (a : Int) (b : Int) = ((a ^^^ b : Nat) : Int) := by
  show IntKind.u32.wrap (((BitVec.ofInt 32 (a : Int)) ^^^ (BitVec.ofInt 32 (b : Int))).toNat : Int) = _
  rw [BitVec.ofInt_natCast, BitVec.ofInt_natCast, BitVec.toNat_xor, BitVec.toNat_ofNat, BitVec.toNat_ofNat, Nat.mod_eq_of_lt ha, Nat.mod_eq_of_lt hb, uw32]
  have := Nat.xor_lt_two_pow ha hb
  omega
theorem and32 {a b : Nat} (ha : a < 2 ^ 32) (hb : b < 2 ^ 32) : Go.bits .and .u32 (a : Int) (b : Int) = ((a &&& b : Nat) : Int) := by
  show IntKind.u32.wrap (((BitVec.ofInt 32 (a : Int)) &&& (BitVec.ofInt 32 (b : Int))).toNat : Int) = _
  rw [BitVec.ofInt_natCast, BitVec.ofInt_natCast, BitVec.toNat_and, BitVec.toNat_ofNat, BitVec.toNat_ofNat, Nat.mod_eq_of_lt ha, Nat.mod_eq_of_lt hb, uw32]
  have : a &&& b ≤ a := Nat.and_le_left
  omega
theorem xor8 {a b : Nat} (ha : a < 256) (hb : b < 256) : Go.bits .xor .u8 (a : Int) (b : Int) = ((a ^^^ b : Nat) : Int) := by
  show IntKind.u8.wrap (((BitVec.ofInt 8 (a : Int)) ^^^ (BitVec.ofInt 8 (b : Int))).toNat : Int) = _
  rw [BitVec.ofInt_natCast, BitVec.ofInt_natCast, BitVec.toNat_xor, BitVec.toNat_ofNat, BitVec.toNat_ofNat, Nat.mod_eq_of_lt ha, Nat.mod_eq_of_lt hb]
  have := Nat.xor_lt_two_pow (n := 8) ha hb
  simp only [IntKind.wrap, IntKind.bits, IntKind.signed]
  simp
  omega
theorem and_pow (x i : Nat) : x &&& 2 ^ i = if x.testBit i = true then 2 ^ i else 0 := by
  apply Nat.eq_of_testBit_eq
  intro j
  rw [Nat.testBit_and, Nat.testBit_two_pow]
  by_cases e : i = j
  · subst e
    cases h : x.testBit i <;> simp
  · cases h : x.testBit i <;> simp [e]
theorem it_succ (f : Nat → Nat) (n c : Nat) : it f (n + 1) c = f (it f n c) := it_add n 1 c
theorem s32_eq {c : Nat} (h : c < 2 ^ 32) : crc_s32 (c : Int) = ((rt c : Nat) : Int) := by
  unfold crc_s32 rt
  have e0 : (c : Int) / (2 : Int) = ((c >>> 1 : Nat) : Int) := by
    rw [Nat.shiftRight_eq_div_pow]
    omega
  rw [show (1 : Int) = ((2 ^ 0 : Nat) : Int) from rfl, and32 h (by decide), and_pow, e0]
  have h1 : c >>> 1 < 2 ^ 32 := by rw [Nat.shiftRight_eq_div_pow]; omega
  cases hb : c.testBit 0
  · rw [if_neg (by decide), if_neg (by decide), show (3988292384 * ((0 : Nat) : Int)) % 4294967296 = ((0 : Nat) : Int) by decide, xor32 h1 (by decide)]
  · rw [if_pos rfl, if_pos rfl, show (3988292384 * ((2 ^ 0 : Nat) : Int)) % 4294967296 = ((0xedb88320 : Nat) : Int) by decide, xor32 h1 (by decide)]
theorem it32_eq (n : Nat) {c : Nat} (h : c < 2 ^ 32) : crc_it crc_s32 n (c : Int) = ((it rt n c : Nat) : Int) := by
  induction n with
  | zero => rfl
  | succ n ih =>
    rw [crc_it, ih, it_succ]
    exact s32_eq (it_lt (fun c => rt_lt) n h)
theorem e32_eq {i : Nat} (h : i < 256) : crc_e32 i = ((it rt 8 i : Nat) : Int) := by
  unfold crc_e32
  rw [show (i : Int) % 4294967296 = (i : Int) by omega]
  exact it32_eq 8 (by omega)
theorem split_at' (c k : Nat) : c = (c / 2 ^ k) <<< k ^^^ c % 2 ^ k := by
  rw [xor_add _ _ k (Nat.mod_lt _ (Nat.pow_pos (by decide)))]
  exact (Nat.div_add_mod' c (2 ^ k)).symm
theorem b32_eq {c y : Nat} (hc : c < 2 ^ 32) (hy : y < 256) : crc_b32 (c : Int) (y : Int) = ((it rt 8 (c ^^^ g32 y) : Nat) : Int) := by
  unfold crc_b32
  have hx : c % 256 ^^^ y < 2 ^ 8 := Nat.xor_lt_two_pow (by omega) hy
  rw [show (c : Int) % 256 = ((c % 256 : Nat) : Int) by omega, xor8 (by omega) hy, Int.toNat_natCast, e32_eq hx, show (c : Int) / 256 = ((c / 256 : Nat) : Int) by omega, xor32 (by omega) (it_lt (fun c => rt_lt) 8 (by omega))]
  congr 1
  have e : c ^^^ g32 y = (c / 256) <<< 8 ^^^ (c % 256 ^^^ y) := by
    conv => lhs; rw [split_at' c 8]
    unfold g32
    rw [Nat.xor_assoc]
  rw [e, it_xor rt_xor 8 ((c / 256) <<< 8), it_rt_small]
theorem fold32 (l : List Nat) (hl : By l) : ∀ c : Nat, c < 2 ^ 32 → (cs l).foldl crc_b32 (c : Int) = ((reg rt g32 l c : Nat) : Int) := by
  induction l with
  | nil => intro c _; rfl
  | cons x l ih =>
    intro c hc
    have hx := hl x (by simp)
    show (cs l).foldl crc_b32 (crc_b32 (c : Int) (x : Int)) = _
    rw [b32_eq hc hx, ih (fun y hy => hl y (by simp [hy])) _ (it_lt (fun c => rt_lt) 8 (Nat.xor_lt_two_pow hc (show g32 x < 2 ^ 32 from Nat.lt_trans hx (by decide))))]
    rfl
/-- The sum of 32 bits. -/
def t32 (l : List Nat) : Nat := 0xffffffff ^^^ r32 l
theorem Sum32_eq (l : List Nat) (hl : By l) (hn : l.length ≤ 140737488355328) : crc_Sum32.f (cs l) = some (t32 l : Int) := by
  unfold crc_Sum32.f
  rw [if_pos (by rw [cs_len]; exact hn), show (4294967295 : Int) = ((0xffffffff : Nat) : Int) from rfl, fold32 l hl _ (by decide), xor32 (by decide) (reg_lt (fun c => rt_lt) g32 l (fun x hx => Nat.lt_trans (hl x hx) (by decide)) (by decide))]
  rfl
end Go.Proofs.YtcbjbgleflbpmaaDoor.CrcFn
/- Seals, opened texts, turned bits, and the document's sums (layer 3), as printed. -/
namespace Go.Proofs.YtcbjbgleflbpmaaDoor.CrcFn
open Go Go.RowKit Go.Proofs.YtcbjbgleflbpmaaDoor.Print Go.Proofs.YtcbjbgleflbpmaaDoorW.PrintWords Go.Proofs.YtcbjbgleflbpmaaDoorW.PrintLast Go.Proofs.YtcbjbgleflbpmaaDoorW.PrintMore Go.Proofs.YtcbjbgleflbpmaaDoor.Crc
theorem By.append {l m : List Nat} (h : By l) (h2 : By m) : By (l ++ m) := fun x hx => (List.mem_append.1 hx).elim (h x) (h2 x)
theorem By.take {l : List Nat} (h : By l) (n : Nat) : By (l.take n) := fun x hx => h x (List.mem_of_mem_take hx)
theorem By.drop {l : List Nat} (h : By l) (n : Nat) : By (l.drop n) := fun x hx => h x (List.mem_of_mem_drop hx)
theorem By.nil : By [] := fun x hx => by cases hx
/-- A sum's bytes. -/
def b3 (v : Nat) : List Nat := [v / 65536 % 256, v / 256 % 256, v % 256]
def b4 (v : Nat) : List Nat := [v % 256, v / 256 % 256, v / 65536 % 256, v / 16777216 % 256]
theorem b4_by (v : Nat) : By (b4 v) := by
  intro x hx
  simp [b4] at hx
  omega
/-- A text is sealed just if its sum is nought, or the one that all sealed texts have. -/
def good24 (l : List Nat) : Prop := b3 (r24 (l.take (l.length - 3))) = l.drop (l.length - 3)
instance (l : List Nat) : Decidable (good24 l) := by unfold good24; infer_instance
def good32 (l : List Nat) : Prop := b4 (0xffffffff ^^^ r32 (l.take (l.length - 4))) = l.drop (l.length - 4)
instance (l : List Nat) : Decidable (good32 l) := by unfold good32; infer_instance
theorem sealed32 {l : List Nat} (hl : By l) : good32 (l ++ b4 (0xffffffff ^^^ r32 l)) := by
  unfold good32
  have e : (l ++ b4 (0xffffffff ^^^ r32 l)).length - 4 = l.length := by simp [b4]
  rw [e, List.take_left, List.drop_left]
def op32 (l : List Nat) : List Int × Int := if l.length < 4 then ([], 3) else if 1048580 < l.length then ([], 6) else if good32 l then (cs (l.take (l.length - 4)), 0) else ([], 5)
theorem clone_eq (l : List Nat) (h : l.length < 17592186044416) : slices_Clone_byte_byte.f (cs l) = some (cs l) := by unfold slices_Clone_byte_byte.f; rw [if_pos (by rw [cs_len]; exact h)]
theorem tail32_eq (l : List Nat) (hl : By l) (hn : l.length ≤ 140737488355328) : crc_tail32.f (cs l) = some (cs (b4 (0xffffffff ^^^ r32 l))) := by
  unfold crc_tail32.f
  rw [Sum32_eq l hl hn, Option.bind_some]
  rfl
theorem Seal32_eq (l : List Nat) (hl : By l) (hn : l.length ≤ 10000000000) : crc_Seal32.f (cs l) = some (if 1048576 < l.length then ([], 6) else (cs (l ++ b4 (0xffffffff ^^^ r32 l)), 0)) := by
  unfold crc_Seal32.f crc_seal_at_crc_tail32.f
  rw [cs_len]
  by_cases h : 1048576 < l.length
  · rw [if_pos (by omega), if_pos h]
    rfl
  · rw [if_neg (by omega), if_neg h, clone_eq l (by omega), Option.bind_some, tail32_eq l hl (by omega), Option.bind_some, cs_len, cs_len, if_pos (by simp [b4]; omega), ← cs_append]
    rfl
theorem Open32_eq (l : List Nat) (hl : By l) (hn : l.length ≤ 10000000000) : crc_Open32.f (cs l) = some (op32 l) := by
  unfold crc_Open32.f crc_open_at_crc_tail32.f op32
  rw [cs_len, w64 (by omega) (by omega)]
  by_cases h1 : l.length < 4
  · rw [if_pos (by omega), if_pos h1]
    rfl
  rw [if_neg (by omega), if_neg h1]
  by_cases h2 : 1048580 < l.length
  · rw [if_pos (by omega), if_pos h2]
    rfl
  rw [if_neg (by omega), if_neg h2, if_pos (by omega), if_pos (by omega), show ((l.length : Int) - 4).toNat = l.length - 4 by omega, cs_take, cs_drop, tail32_eq _ (By.take hl _) (by rw [List.length_take]; omega), Option.bind_some]
  unfold bytes_Equal.f
  rw [Option.bind_some, text_eq (b4_by _) (By.drop hl _)]
  by_cases g : good32 l
  · have g' : b4 (0xffffffff ^^^ r32 (l.take (l.length - 4))) = l.drop (l.length - 4) := g
    rw [if_pos g, decide_eq_true g', if_pos rfl, clone_eq _ (by rw [List.length_take]; omega)]
    rfl
  · have g' : ¬ b4 (0xffffffff ^^^ r32 (l.take (l.length - 4))) = l.drop (l.length - 4) := g
    rw [if_neg g, decide_eq_false g', if_neg (by decide)]
    rfl
end Go.Proofs.YtcbjbgleflbpmaaDoor.CrcFn
/- The document's sealed texts and opened texts (layer 3), and the printed functions' own, as printed: one and the same answer. -/
namespace Go.Proofs.YtcbjbgleflbpmaaDoor.CrcFn
open Go Go.RowKit Go.Proofs.YtcbjbgleflbpmaaDoor.Print Go.Proofs.YtcbjbgleflbpmaaDoorW.PrintWords Go.Proofs.YtcbjbgleflbpmaaDoorW.PrintLast Go.Proofs.YtcbjbgleflbpmaaDoorW.PrintMore Go.Proofs.YtcbjbgleflbpmaaDoor.Crc
def sl32 (l : List Nat) : List Int × Int := if 1048576 < l.length then ([], 6) else (cs (l ++ b4 (0xffffffff ^^^ r32 l)), 0)
theorem nums_iff {l m : List Nat} (hl : By l) (hm : By m) : (strOfNums (cs l)).toList = (strOfNums (cs m)).toList ↔ l = m := ⟨fun h => nums_inj hl hm h, fun h => by rw [h]⟩
theorem Seal32_sl (l : List Nat) (hl : By l) (hn : l.length ≤ 10000000000) : crc_Seal32.f (cs l) = some (sl32 l) := Seal32_eq l hl hn
theorem Same_eq {l m : List Nat} (hl : By l) (hm : By m) : palletref02_Same.f (cs l) (cs m) = some (decide (l = m)) := by
  unfold palletref02_Same.f
  rw [text_eq hl hm]
theorem i64_le {a : Int} (h : (Lit.int .i64 a).wf = true) : -9223372036854775808 ≤ a ∧ a ≤ 9223372036854775807 := by
  simpa [Lit.wf, IntKind.min, IntKind.max, IntKind.signed, IntKind.bits] using h
end Go.Proofs.YtcbjbgleflbpmaaDoor.CrcFn
/- Plain facts on how two lists of events dpart (layer 23), as printed. -/
namespace Go.Proofs.YtcbjbgleflbpmaaDoor.Diff
open Go.RowKit Go.Proofs.YtcbjbgleflbpmaaDoor.Print Go.Proofs.YtcbjbgleflbpmaaDoorW.PrintWords Go.Proofs.YtcbjbgleflbpmaaDoorW.PrintLast Go.Proofs.YtcbjbgleflbpmaaDoorW.PrintMore
theorem w64 {x : Int} (h : -9223372036854775808 ≤ x) (h2 : x ≤ 9223372036854775807) : wrap64 x = x := by unfold wrap64; omega
abbrev E := S30
def z : E := ⟨0, 0, 0, 0, 0⟩
theorem rd_eq (xs : List E) (j : Nat) : rd_T30 xs (j : Int) = xs.getD j z := by
  unfold rd_T30
  rw [Int.toNat_natCast]
  rfl
/-- Two events are the same, field by field. -/
def beqE (x y : E) : Bool := x.f0 == y.f0 && (x.f1 == y.f1 && (x.f2 == y.f2 && (x.f3 == y.f3 && (x.f4 == y.f4))))
theorem beqE_iff {x y : E} : beqE x y = true ↔ x = y := by
  obtain ⟨a, b, c, d, e⟩ := x
  obtain ⟨a', b', c', d', e'⟩ := y
  simp [beqE]
instance : DecidableEq E := fun x y => decidable_of_iff _ beqE_iff
theorem beqE_eq (x y : E) : beqE x y = decide (x = y) := by
  by_cases h : x = y
  · rw [decide_eq_true h, beqE_iff.2 h]
  · rw [decide_eq_false h]
    cases hb : beqE x y
    · rfl
    · exact absurd (beqE_iff.1 hb) h
/-- How many events are the same. -/
def pre : List E → List E → Nat
  | a :: x, b :: y => if a = b then pre x y + 1 else 0
  | _, _ => 0
theorem pre_left : ∀ a b, pre a b ≤ a.length
  | [], _ => by simp [pre]
  | _ :: _, [] => by simp [pre]
  | a :: x, b :: y => by
    have := pre_left x y
    simp only [pre, List.length_cons]
    split <;> omega
theorem pre_comm : ∀ a b, pre a b = pre b a
  | [], [] => rfl
  | [], _ :: _ => by simp [pre]
  | _ :: _, [] => by simp [pre]
  | a :: x, b :: y => by
    simp only [pre]
    by_cases h : a = b
    · rw [if_pos h, if_pos h.symm, pre_comm x y]
    · rw [if_neg h, if_neg (fun q => h q.symm)]
theorem pre_right (a b : List E) : pre a b ≤ b.length := by rw [pre_comm]; exact pre_left b a
theorem pre_get : ∀ (a b : List E) (i : Nat), i < pre a b → a.getD i z = b.getD i z
  | [], _, _, h => by simp [pre] at h
  | _ :: _, [], _, h => by simp [pre] at h
  | a :: x, b :: y, i, h => by
    simp only [pre] at h
    split at h
    · rename_i he
      subst he
      cases i with
      | zero => rfl
      | succ i =>
        have := pre_get x y i (by omega)
        simpa using this
    · omega
theorem pre_ne : ∀ (a b : List E), pre a b < a.length → pre a b < b.length → a.getD (pre a b) z ≠ b.getD (pre a b) z
  | [], _, h, _ => by simp at h
  | _ :: _, [], _, h => by simp at h
  | a :: x, b :: y, h1, h2 => by
    by_cases he : a = b
    · have e : pre (a :: x) (b :: y) = pre x y + 1 := by simp [pre, he]
      rw [e] at h1 h2 ⊢
      have := pre_ne x y (by simp at h1; omega) (by simp at h2; omega)
      simpa using this
    · have e : pre (a :: x) (b :: y) = 0 := by simp [pre, he]
      rw [e]
      simpa using he
theorem prefix_l0 (a b : List E) (ha : a.length ≤ 4611686018427387904) (d : Nat) : ∀ (k i : Nat), i ≤ pre a b → pre a b - i = d → 2 * d + 2 ≤ k → diff_Prefix.l0 k a b (i : Int) = some (pre a b : Int) := by
  have hl := pre_left a b
  have hr := pre_right a b
  induction d with
  | zero =>
    intro k i hi hd hk
    obtain ⟨k, rfl⟩ : ∃ m, k = m + 2 := ⟨k - 2, by omega⟩
    obtain rfl : i = pre a b := by omega
    simp only [diff_Prefix.l0]
    by_cases h1 : pre a b < a.length
    · rw [if_pos (by omega)]
      by_cases h2 : pre a b < b.length
      · rw [if_pos (by omega), if_pos (by omega), rd_eq, rd_eq]
        have hb : beqE (a.getD (pre a b) z) (b.getD (pre a b) z) = false := by rw [beqE_eq, decide_eq_false (pre_ne a b h1 h2)]
        unfold beqE at hb
        rw [hb]
        simp
      · rw [if_neg (by omega)]
    · rw [if_neg (by omega)]
  | succ d ih =>
    intro k i hi hd hk
    obtain ⟨k, rfl⟩ : ∃ m, k = m + 2 := ⟨k - 2, by omega⟩
    simp only [diff_Prefix.l0]
    rw [if_pos (by omega), if_pos (by omega), if_pos (by omega), rd_eq, rd_eq]
    have hb : beqE (a.getD i z) (b.getD i z) = true := beqE_iff.2 (pre_get a b i (by omega))
    unfold beqE at hb
    rw [hb]
    simp only [if_true]
    rw [w64 (by omega) (by omega), show (i : Int) + 1 = ((i + 1 : Nat) : Int) by omega]
    exact ih (k + 1) (i + 1) (by omega) (by omega) (by omega)
theorem prefix_eq {k : Nat} (a b : List E) (ha : a.length ≤ 4611686018427387904) (hk : 2 * a.length + 2 ≤ k) : diff_Prefix.f k a b = some (pre a b : Int) := by
  have hl := pre_left a b
  unfold diff_Prefix.f
  exact prefix_l0 a b ha (pre a b) k 0 (by omega) (by omega) (by omega)
/-- A diff out of its parts. -/
def tup (n how : Int) (x y : E) : Int × Int × Int × Int × Int × Int × Int × Int × Int × Int × Int × Int := (n, how, x.f0, x.f1, x.f2, x.f3, x.f4, y.f0, y.f1, y.f2, y.f3, y.f4)
def dpart (a b : List E) : Int × Int × Int × Int × Int × Int × Int × Int × Int × Int × Int × Int :=
  if pre a b = a.length then (if pre a b = b.length then tup (pre a b) 0 z z else tup (pre a b) 2 z (b.getD (pre a b) z))
  else if pre a b = b.length then tup (pre a b) 3 (a.getD (pre a b) z) z else tup (pre a b) 1 (a.getD (pre a b) z) (b.getD (pre a b) z)
theorem events_eq {k : Nat} (a b : List E) (ha : a.length ≤ 4611686018427387904) (hk : 2 * a.length + 2 ≤ k) : diff_Events.f k a b = some (dpart a b) := by
  have hl := pre_left a b
  have hr := pre_right a b
  unfold diff_Events.f dpart
  rw [prefix_eq a b ha hk]
  obtain ⟨k, rfl⟩ : ∃ m, k = m + 1 := ⟨k - 1, by omega⟩
  simp only [Option.bind_some]
  generalize pre a b = n at *
  by_cases h1 : n = a.length
  · rw [if_pos h1, show ((n : Int) == (a.length : Int)) = true by rw [beq_iff_eq]; omega]
    by_cases h2 : n = b.length
    · rw [if_pos h2, show ((n : Int) == (b.length : Int)) = true by rw [beq_iff_eq]; omega, if_pos (by rfl)]
      rfl
    · rw [if_neg h2, show ((n : Int) == (b.length : Int)) = false by rw [beq_eq_false_iff_ne]; omega, if_neg (by decide), if_pos (by rfl), if_pos (by omega), if_pos (by omega), rd_eq]
      rfl
  · rw [if_neg h1, show ((n : Int) == (a.length : Int)) = false by rw [beq_eq_false_iff_ne]; omega]
    by_cases h2 : n = b.length
    · rw [if_pos h2, show ((n : Int) == (b.length : Int)) = true by rw [beq_iff_eq]; omega, if_neg (by decide), if_neg (by decide), if_neg (by decide)]
      simp only [diff_Events.j0]
      rw [if_pos (by omega), if_pos (by omega), if_neg (by decide), rd_eq]
      rfl
    · rw [if_neg h2, show ((n : Int) == (b.length : Int)) = false by rw [beq_eq_false_iff_ne]; omega, if_neg (by decide), if_neg (by decide), if_pos (by rfl), if_pos (by omega), if_pos (by omega)]
      simp only [diff_Events.j0]
      rw [if_pos (by omega), if_pos (by omega), if_pos trivial, rd_eq, rd_eq]
      rfl
end Go.Proofs.YtcbjbgleflbpmaaDoor.Diff
/- The chapter's example of layer 23 holds. -/
namespace Go.Proofs.YtcbjbgleflbpmaaDoor.Diff
open Go.Proofs.YtcbjbgleflbpmaaDoor.Print Go.Proofs.YtcbjbgleflbpmaaDoorW.PrintWords
theorem live23_30 : palletlaw23_live.f 30 = some true := by decide +kernel
theorem live23 {k : Nat} (hk : 30 ≤ k) : palletlaw23_live.f k = some true := at_rounds (fun k => palletlaw23_live.mono k) hk live23_30
end Go.Proofs.YtcbjbgleflbpmaaDoor.Diff
/- What the document says of two lists of events (layer 23), as printed. -/
namespace Go.Proofs.YtcbjbgleflbpmaaDoor.Diff
open Go.RowKit Go.Proofs.YtcbjbgleflbpmaaDoor.Print Go.Proofs.YtcbjbgleflbpmaaDoorW.PrintWords Go.Proofs.YtcbjbgleflbpmaaDoorW.PrintLast Go.Proofs.YtcbjbgleflbpmaaDoorW.PrintMore
theorem drop_cons {xs : List E} {i : Nat} (h : i < xs.length) : xs.drop i = xs.getD i z :: xs.drop (i + 1) := by
  rw [List.drop_eq_getElem_cons h, List.getD_eq_getElem?_getD, List.getElem?_eq_getElem h]
  rfl
theorem same_l0 (a b : List E) (hab : a.length = b.length) (ha : a.length ≤ 4611686018427387904) (d : Nat) : ∀ (k i : Nat), i ≤ a.length → a.length - i = d → d < k → palletref19_Same.l0 k a b (a.length : Int) (i : Int) = some (decide (a.drop i = b.drop i)) := by
  induction d with
  | zero =>
    intro k i hi hd hk
    obtain ⟨k, rfl⟩ : ∃ m, k = m + 1 := ⟨k - 1, by omega⟩
    simp only [palletref19_Same.l0]
    rw [if_neg (by omega), List.drop_of_length_le (by omega), List.drop_of_length_le (by omega)]
    simp
  | succ d ih =>
    intro k i hi hd hk
    obtain ⟨k, rfl⟩ : ∃ m, k = m + 1 := ⟨k - 1, by omega⟩
    simp only [palletref19_Same.l0]
    rw [if_pos (by omega), if_pos (by omega), if_pos (by omega), if_pos (by omega), rd_eq, rd_eq, drop_cons (xs := a) (by omega), drop_cons (xs := b) (by omega)]
    generalize a.getD i z = x
    generalize b.getD i z = y
    have hb := beqE_eq x y
    by_cases h : x = y
    · subst h
      rw [if_neg (by simp), w64 (by omega) (by omega), show (i : Int) + 1 = ((i + 1 : Nat) : Int) by omega, ih k (i + 1) (by omega) (by omega) (by omega)]
      simp
    · rw [decide_eq_false h] at hb
      rw [if_pos (by unfold beqE at hb; simp at hb ⊢; by_cases e0 : x.f0 = y.f0 <;> by_cases e1 : x.f1 = y.f1 <;> by_cases e2 : x.f2 = y.f2 <;> by_cases e3 : x.f3 = y.f3 <;> simp_all), decide_eq_false (fun q => h (List.cons.inj q).1)]
theorem same_eq {k : Nat} (a b : List E) (ha : a.length ≤ 4611686018427387904) (hk : a.length < k) : palletref19_Same.f k a b = some (decide (a = b)) := by
  unfold palletref19_Same.f
  by_cases h : a.length = b.length
  · rw [if_pos (by omega)]
    have := same_l0 a b h ha a.length k 0 (by omega) (by omega) hk
    simpa using this
  · rw [if_neg (by omega), decide_eq_false (fun q => h (by rw [q]))]
theorem take_same (a b : List E) {n : Nat} (h1 : n ≤ a.length) (h2 : n ≤ b.length) : a.take n = b.take n ↔ n ≤ pre a b := by
  constructor
  · intro h
    by_cases q : n ≤ pre a b
    · exact q
    · exfalso
      refine pre_ne a b (by omega) (by omega) ?_
      have e1 : (a.take n).getD (pre a b) z = a.getD (pre a b) z := by rw [List.getD_eq_getElem?_getD, List.getD_eq_getElem?_getD, List.getElem?_take_of_lt (by omega)]
      have e2 : (b.take n).getD (pre a b) z = b.getD (pre a b) z := by rw [List.getD_eq_getElem?_getD, List.getD_eq_getElem?_getD, List.getElem?_take_of_lt (by omega)]
      rw [← e1, ← e2, h]
  · intro h
    apply List.ext_getElem?
    intro i
    by_cases hi : i < n
    · rw [List.getElem?_take_of_lt hi, List.getElem?_take_of_lt hi]
      have := pre_get a b i (by omega)
      rw [List.getD_eq_getElem?_getD, List.getD_eq_getElem?_getD, List.getElem?_eq_getElem (by omega), List.getElem?_eq_getElem (by omega)] at this
      rw [List.getElem?_eq_getElem (by omega), List.getElem?_eq_getElem (by omega)]
      simpa using this
    · rw [List.getElem?_eq_none (by rw [List.length_take]; omega), List.getElem?_eq_none (by rw [List.length_take]; omega)]
end Go.Proofs.YtcbjbgleflbpmaaDoor.Diff
/- Events read, and logs (layer 19), as printed: the code's answer and the document's are one plain function's. Conditions: bytes; rounds enough. -/
namespace Go.Proofs.YtcbjbgleflbpmaaDoor.Ev19
open Go Go.RowKit Go.Proofs.YtcbjbgleflbpmaaDoor.Print Go.Proofs.YtcbjbgleflbpmaaDoorW.PrintWords Go.Proofs.YtcbjbgleflbpmaaDoorW.PrintLast Go.Proofs.YtcbjbgleflbpmaaDoorW.PrintMore Go.Proofs.YtcbjbgleflbpmaaDoor.Wire Go.Proofs.YtcbjbgleflbpmaaDoor.WireSpec Go.Proofs.YtcbjbgleflbpmaaDoor.Wire2 Go.Proofs.YtcbjbgleflbpmaaDoor.Wire3 Go.Proofs.YtcbjbgleflbpmaaDoor.Wire4 Go.Proofs.YtcbjbgleflbpmaaDoor.Wire5 Go.Proofs.YtcbjbgleflbpmaaDoor.Recs Go.Proofs.YtcbjbgleflbpmaaDoor.TakeRef
theorem i64 {x : Int} (h : -9223372036854775808 ≤ x) (h2 : x ≤ 9223372036854775807) : wrap64 x = x := by unfold wrap64; omega
abbrev E := S30
def z : E := ⟨0, 0, 0, 0, 0⟩
theorem rd_eq (xs : List E) (j : Nat) : rd_T30 xs (j : Int) = xs.getD j z := by
  unfold rd_T30
  rw [Int.toNat_natCast]
  rfl
/-- An event that may be. -/
def okE (x : E) : Prop := 0 ≤ x.f0 ∧ x.f0 ≤ 1152921504606846976 ∧ 1 ≤ x.f1 ∧ x.f1 ≤ 14 ∧ 0 ≤ x.f2 ∧ x.f2 ≤ 255
instance (x : E) : Decidable (okE x) := by unfold okE; infer_instance
theorem may_eq {k : Nat} (hk : 3 ≤ k) (x : Int) : pico_May.f k [x] = some (decide (-1152921504606846976 ≤ x ∧ x ≤ 1152921504606846976)) := by
  obtain ⟨k, rfl⟩ : ∃ m, k = m + 3 := ⟨k - 3, by omega⟩
  unfold pico_May.f slices_ContainsFunc_int64_int64_at_pico_May_1.f slices_IndexFunc_int64_int64_at_pico_May_1.f
  simp only [slices_IndexFunc_int64_int64_at_pico_May_1.l0, pico_May_1.f, rd, List.length_cons, List.length_nil, Int.toNat_zero, List.getD_cons_zero]
  rw [i64 (by omega) (by omega)]
  by_cases h1 : x > 1152921504606846976
  · have hR : decide (-1152921504606846976 ≤ x ∧ x ≤ 1152921504606846976) = false := decide_eq_false (by omega)
    rw [hR]
    simp [h1]
  · by_cases h2 : x < -1152921504606846976
    · have hR : decide (-1152921504606846976 ≤ x ∧ x ≤ 1152921504606846976) = false := decide_eq_false (by omega)
      rw [hR]
      simp [h1, h2]
    · have hR : decide (-1152921504606846976 ≤ x ∧ x ≤ 1152921504606846976) = true := decide_eq_true (by omega)
      rw [hR]
      simp [h1, h2]
theorem off_eq {k : Nat} (hk : 3 ≤ k) (a b c d e : Int) : event_off.f k a b c d e = some (decide (¬ okE ⟨a, b, c, d, e⟩)) := by
  unfold event_off.f
  rw [may_eq hk, Option.bind_some]
  by_cases h0 : a < 0
  · rw [if_pos h0, decide_eq_true (by unfold okE; simp only; omega)]
  rw [if_neg h0]
  by_cases h1 : a ≤ 1152921504606846976
  · rw [decide_eq_true (by omega), if_pos rfl]
    by_cases h2 : b < 1
    · rw [if_pos h2, decide_eq_true (by unfold okE; simp only; omega)]
    rw [if_neg h2]
    by_cases h3 : b > 14
    · rw [if_pos h3, decide_eq_true (by unfold okE; simp only; omega)]
    rw [if_neg h3]
    by_cases h4 : c < 0
    · rw [if_pos h4, decide_eq_true (by unfold okE; simp only; omega)]
    rw [if_neg h4]
    by_cases h5 : c > 255
    · rw [decide_eq_true h5, decide_eq_true (by unfold okE; simp only; omega)]
    · rw [decide_eq_false h5, decide_eq_false (by unfold okE; simp only; omega)]
  · rw [decide_eq_false (by omega), if_neg (by decide), decide_eq_true (by unfold okE; simp only; omega)]
/-- Four numbers, one behind the other, and nothing more. -/
def fp (b : List Nat) : Option (Nat × Nat × Int × Int) :=
  if (dv 0 0 b).2.2 = 0 then
    if (dv 0 0 (b.drop (dv 0 0 b).2.1)).2.2 = 0 then
      if (dv 0 0 (b.drop ((dv 0 0 b).2.1 + (dv 0 0 (b.drop (dv 0 0 b).2.1)).2.1))).2.2 = 0 then
        if (dv 0 0 (b.drop ((dv 0 0 b).2.1 + (dv 0 0 (b.drop (dv 0 0 b).2.1)).2.1 + (dv 0 0 (b.drop ((dv 0 0 b).2.1 + (dv 0 0 (b.drop (dv 0 0 b).2.1)).2.1))).2.1))).2.2 = 0 then
          if (dv 0 0 b).2.1 + (dv 0 0 (b.drop (dv 0 0 b).2.1)).2.1 + (dv 0 0 (b.drop ((dv 0 0 b).2.1 + (dv 0 0 (b.drop (dv 0 0 b).2.1)).2.1))).2.1 + (dv 0 0 (b.drop ((dv 0 0 b).2.1 + (dv 0 0 (b.drop (dv 0 0 b).2.1)).2.1 + (dv 0 0 (b.drop ((dv 0 0 b).2.1 + (dv 0 0 (b.drop (dv 0 0 b).2.1)).2.1))).2.1))).2.1 = b.length then
            some ((dv 0 0 b).1, (dv 0 0 (b.drop (dv 0 0 b).2.1)).1, uz (dv 0 0 (b.drop ((dv 0 0 b).2.1 + (dv 0 0 (b.drop (dv 0 0 b).2.1)).2.1))).1, uz (dv 0 0 (b.drop ((dv 0 0 b).2.1 + (dv 0 0 (b.drop (dv 0 0 b).2.1)).2.1 + (dv 0 0 (b.drop ((dv 0 0 b).2.1 + (dv 0 0 (b.drop (dv 0 0 b).2.1)).2.1))).2.1))).1)
          else none
        else none
      else none
    else none
  else none
/-- The event that a record's kind and body are. -/
def eb (kd : Nat) (b : List Nat) : Option E := (fp b).bind fun q => if q.1 ≤ 1152921504606846976 ∧ q.2.1 ≤ 255 ∧ 1 ≤ kd ∧ kd ≤ 14 then some ⟨q.1, kd, q.2.1, q.2.2.1, q.2.2.2⟩ else none
/-- What stands at a place: what is wrong, or the event, and where its record ends. -/
def re (l : List Nat) (a : Nat) : Nat × E × Nat :=
  if (sp1 (l.drop a)).2.2 = 0 then
    match eb (l.getD a 0) ((l.drop (a + (sp1 (l.drop a)).1)).take (sp1 (l.drop a)).2.1) with
    | some x => (0, x, a + ((sp1 (l.drop a)).1 + (sp1 (l.drop a)).2.1))
    | none => (4, z, 0)
  else ((sp1 (l.drop a)).2.2, z, 0)
def tup (r : Nat × E × Nat) : Int × Int × Int × Int × Int × Int × Int := (r.2.1.f0, r.2.1.f1, r.2.1.f2, r.2.1.f3, r.2.1.f4, (r.2.2 : Int), (r.1 : Int))
theorem re_ok {l : List Nat} (hl : By l) {a : Nat} (h : (re l a).1 = 0) : a < (re l a).2.2 ∧ (re l a).2.2 ≤ l.length ∧ okE (re l a).2.1 := by
  unfold re at h ⊢
  rcases hs : sp1 (l.drop a) with ⟨u, n, y⟩
  rw [hs] at h
  simp only at h ⊢
  by_cases h1 : y = 0
  · subst h1
    obtain ⟨kd, r, _, _, h3, h4, h5⟩ := sp1_ok (hl.drop a) hs
    rw [List.length_drop] at h5
    simp only [if_true] at h ⊢
    cases he : eb (l.getD a 0) ((l.drop (a + u)).take n) with
    | none => rw [he] at h; simp at h
    | some x =>
      simp only
      refine ⟨by omega, by omega, ?_⟩
      unfold eb at he
      obtain ⟨q, hq, he⟩ := Option.bind_eq_some_iff.1 he
      by_cases c : q.1 ≤ 1152921504606846976 ∧ q.2.1 ≤ 255 ∧ 1 ≤ l.getD a 0 ∧ l.getD a 0 ≤ 14
      · rw [if_pos c] at he
        obtain rfl := Option.some.inj he
        unfold okE
        simp only
        omega
      · rw [if_neg c] at he
        cases he
  · rw [if_neg h1] at h
    exact absurd h h1
theorem bodyR {k : Nat} (b : List Nat) (hb : By b) (hn : b.length ≤ 100000000) (hk : 2 * b.length + 30 ≤ k) (kd : Nat) (hkd : kd < 256) (e : Int) :
    ((event_Read_1.f k (cs b) 0 0).bind fun a => (event_Read_1.f k (cs b) a.2.2 a.2.1).bind fun b_ => (event_Read_2.f k (cs b) b_.2.2 b_.2.1).bind fun c => (event_Read_2.f k (cs b) c.2.2 c.2.1).bind fun d => if d.2.2 = 0 ∧ d.2.1 = ((cs b).length : Int) ∧ a.1 ≤ 1152921504606846976 ∧ b_.1 ≤ 255 then ((event_off.f k (wrap64 a.1) (wrap64 (kd : Int)) (wrap64 b_.1) c.1 d.1).bind fun q => some (if q = true then ((0, 0, 0, 0, 0, 0, 4) : Int × Int × Int × Int × Int × Int × Int) else (wrap64 a.1, wrap64 (kd : Int), wrap64 b_.1, c.1, d.1, e, 0))) else some (0, 0, 0, 0, 0, 0, 4))
    = some (match eb kd b with | some x => (x.f0, x.f1, x.f2, x.f3, x.f4, e, 0) | none => (0, 0, 0, 0, 0, 0, 4)) := by
  have hB := fun p n c => dv_bound (b.drop p) 0 0 n c (hb.drop p)
  have V := fun p => TakeVary_eq (k := k) b hb (by omega) p (by omega)
  have S := fun p => TakeSign_eq (k := k) b hb (by omega) p (by omega)
  unfold eb fp
  have v0 := V 0
  rw [List.drop_zero] at v0
  have hB0 := fun n c => dv_bound b 0 0 n c hb
  rw [show event_Read_1.f k (cs b) 0 0 = some (res (0 : Nat) (dv 0 0 b)) by unfold event_Read_1.f; rw [if_pos rfl]; exact v0, Option.bind_some]
  rcases h1 : dv 0 0 b with ⟨n1, c1, e1⟩
  rw [h1] at hB0
  have hB0 := hB0 n1 c1
  unfold res
  by_cases q1 : e1 = 0
  case neg =>
    simp only
    rw [if_neg q1, if_neg q1]
    simp only [Option.bind_none]
    have e0 : ¬ ((e1 : Int) = 0) := by omega
    unfold event_Read_1.f event_Read_2.f
    simp only [if_neg e0, Option.bind_some]
    rw [if_neg (fun q => e0 q.1)]
  subst q1
  obtain ⟨p1, p2, p3⟩ := hB0 rfl
  simp only [if_true]
  have e1 : event_Read_1.f k (cs b) 0 ((0 : Nat) + (c1 : Nat) : Int) = some (res (c1 : Nat) (dv 0 0 (b.drop c1))) := by
    unfold event_Read_1.f
    rw [if_pos rfl, show (((0 : Nat) : Int) + (c1 : Int)) = ((c1 : Nat) : Int) by omega]
    exact V c1
  rw [e1, Option.bind_some]
  have hB1 := hB c1
  rcases h2 : dv 0 0 (b.drop c1) with ⟨n2, c2, e2⟩
  rw [h2] at hB1
  have hB1 := hB1 n2 c2
  rw [List.length_drop] at hB1
  unfold res
  by_cases q2 : e2 = 0
  case neg =>
    simp only
    rw [if_neg q2, if_neg q2]
    simp only [Option.bind_none]
    have e0 : ¬ ((e2 : Int) = 0) := by omega
    unfold event_Read_2.f
    simp only [if_neg e0, Option.bind_some]
    rw [if_neg (fun q => e0 q.1)]
  subst q2
  obtain ⟨p4, p5, p6⟩ := hB1 rfl
  simp only [if_true]
  have e2 : event_Read_2.f k (cs b) 0 ((c1 : Nat) + (c2 : Nat) : Int) = some (ress ((c1 + c2 : Nat) : Int) (dv 0 0 (b.drop (c1 + c2)))) := by
    unfold event_Read_2.f
    rw [if_pos rfl, show (((c1 : Nat) : Int) + (c2 : Int)) = ((c1 + c2 : Nat) : Int) by omega]
    exact S (c1 + c2)
  rw [e2, Option.bind_some]
  have hB2 := hB (c1 + c2)
  rcases h3 : dv 0 0 (b.drop (c1 + c2)) with ⟨n3, c3, e3⟩
  rw [h3] at hB2
  have hB2 := hB2 n3 c3
  rw [List.length_drop] at hB2
  unfold ress
  by_cases q3 : e3 = 0
  case neg =>
    simp only
    rw [if_neg q3, if_neg q3]
    simp only [Option.bind_none]
    have e0 : ¬ ((e3 : Int) = 0) := by omega
    unfold event_Read_2.f
    simp only [if_neg e0, Option.bind_some]
    rw [if_neg (fun q => e0 q.1)]
  subst q3
  obtain ⟨p7, p8, p9⟩ := hB2 rfl
  simp only [if_true]
  have e3 : event_Read_2.f k (cs b) 0 (((c1 + c2 : Nat) : Int) + (c3 : Nat) : Int) = some (ress ((c1 + c2 + c3 : Nat) : Int) (dv 0 0 (b.drop (c1 + c2 + c3)))) := by
    unfold event_Read_2.f
    rw [if_pos rfl, show (((c1 + c2 : Nat) : Int) + (c3 : Int)) = ((c1 + c2 + c3 : Nat) : Int) by omega]
    exact S (c1 + c2 + c3)
  rw [e3, Option.bind_some]
  have hB3 := hB (c1 + c2 + c3)
  rcases h4 : dv 0 0 (b.drop (c1 + c2 + c3)) with ⟨n4, c4, e4⟩
  rw [h4] at hB3
  have hB3 := hB3 n4 c4
  rw [List.length_drop] at hB3
  unfold ress
  by_cases q4 : e4 = 0
  case neg =>
    simp only
    rw [if_neg q4, if_neg q4]
    simp only [Option.bind_none]
    have e0 : ¬ ((e4 : Int) = 0) := by omega
    rw [if_neg (fun q => e0 q.1)]
  subst q4
  obtain ⟨p10, p11, p12⟩ := hB3 rfl
  simp only [if_true, cs_len]
  by_cases q5 : c1 + c2 + c3 + c4 = b.length
  case neg =>
    rw [if_neg q5, if_neg (by omega)]
    rfl
  rw [if_pos q5, Option.bind_some]
  dsimp only
  by_cases q6 : n1 ≤ 1152921504606846976 ∧ n2 ≤ 255
  case neg =>
    rw [if_neg (by omega), if_neg (by omega)]
  have hc : True ∧ ((c1 + c2 + c3 : Nat) : Int) + (c4 : Int) = (b.length : Int) ∧ (n1 : Int) ≤ 1152921504606846976 ∧ (n2 : Int) ≤ 255 := ⟨trivial, by omega, by omega, by omega⟩
  rw [if_pos hc, i64 (by omega) (by omega), i64 (by omega) (by omega), i64 (by omega) (by omega), off_eq (by omega), Option.bind_some]
  by_cases q7 : 1 ≤ kd ∧ kd ≤ 14
  · rw [decide_eq_false (by unfold okE; simp only; omega), if_neg (by decide), if_pos (by omega)]
  · rw [decide_eq_true (by unfold okE; simp only; omega), if_pos rfl, if_neg (by omega)]
theorem Read_eq {k : Nat} (l : List Nat) (hl : By l) (hn : l.length ≤ 100000000) (a : Nat) (hk : 2 * l.length + 30 ≤ k) : event_Read.f k (cs l) (a : Int) = some (tup (re l a)) := by
  unfold event_Read.f
  rw [TakeRecord_eq l hl hn a hk, Option.bind_some]
  unfold tres re tup
  rcases hs : sp1 (l.drop a) with ⟨u, n, y⟩
  by_cases h1 : y = 0
  · subst h1
    simp only [if_true]
    have hlen : ((l.drop (a + u)).take n).length ≤ l.length := by rw [List.length_take, List.length_drop]; omega
    rw [bodyR _ ((hl.drop _).take _) (by omega) (by omega) _ (getD_by hl a)]
    cases eb (l.getD a 0) ((l.drop (a + u)).take n) <;> rfl
  · simp only
    rw [if_neg h1, if_neg h1]
    simp only
    rw [if_neg (by omega)]
    rfl
end Go.Proofs.YtcbjbgleflbpmaaDoor.Ev19
/- Logs read (layer 19), as printed: the code's answer and the document's are one plain function's. Conditions: bytes; rounds enough. -/
namespace Go.Proofs.YtcbjbgleflbpmaaDoor.Ev19
open Go Go.RowKit Go.Proofs.YtcbjbgleflbpmaaDoor.Print Go.Proofs.YtcbjbgleflbpmaaDoorW.PrintWords Go.Proofs.YtcbjbgleflbpmaaDoorW.PrintLast Go.Proofs.YtcbjbgleflbpmaaDoorW.PrintMore Go.Proofs.YtcbjbgleflbpmaaDoor.Wire Go.Proofs.YtcbjbgleflbpmaaDoor.WireSpec Go.Proofs.YtcbjbgleflbpmaaDoor.Wire2 Go.Proofs.YtcbjbgleflbpmaaDoor.Wire3 Go.Proofs.YtcbjbgleflbpmaaDoor.Wire4 Go.Proofs.YtcbjbgleflbpmaaDoor.Wire5 Go.Proofs.YtcbjbgleflbpmaaDoor.Recs Go.Proofs.YtcbjbgleflbpmaaDoor.TakeRef
/-- The events that stand from a place on, so many, behind others. -/
def dl (l : List Nat) : Nat → Nat → List E → List E × Int × Int
  | 0, a, xs => if a < l.length then ([], (a : Int), 4) else (xs, 0, 0)
  | n + 1, a, xs => if (re l a).1 = 0 then (if 0 < xs.length ∧ (re l a).2.1.f0 < (xs.getD (xs.length - 1) z).f0 then ([], (a : Int), 4) else dl l n (re l a).2.2 (xs ++ [(re l a).2.1])) else ([], (a : Int), ((re l a).1 : Int))
theorem u64' {x : Nat} (h : x < 18446744073709551616) : IntKind.u64.wrap (x : Int) = (x : Int) := u64_in (by omega) (by omega)
theorem dl_eq (l : List Nat) (hl : By l) (hn : l.length ≤ 1048580) (m : Nat) (hm : m ≤ 20000) (d : Nat) : ∀ (k a i : Nat) (xs : List E), a ≤ l.length → m - i = d → i ≤ m → xs.length = i → 2 * d + 2 * l.length + 40 ≤ k →
    event_Decode.l0 k (cs l) (a : Int) xs (m : Int) (i : Int) = some (dl l d a xs) := by
  induction d with
  | zero =>
    intro k a i xs ha hd hi hx hk
    obtain ⟨k, rfl⟩ : ∃ m, k = m + 1 := ⟨k - 1, by omega⟩
    rw [event_Decode.l0, if_neg (by omega), cs_len, dl]
    by_cases h : a < l.length
    · rw [if_pos (by omega), if_pos h]
    · rw [if_neg (by omega), if_neg h]
  | succ d ih =>
    intro k a i xs ha hd hi hx hk
    obtain ⟨k, rfl⟩ : ∃ m, k = m + 2 := ⟨k - 2, by omega⟩
    rw [event_Decode.l0, if_pos (by omega), Read_eq l hl (by omega) a (by omega), Option.bind_some, dl]
    unfold tup
    dsimp only
    by_cases h0 : (re l a).1 = 0
    · have ok := re_ok hl h0
      rw [if_pos (by omega), if_pos h0]
      have step : ∀ q : Bool, event_Decode.j3 (k + 1) (cs l) (a : Int) xs ((re l a).2.2 : Int) ((re l a).1 : Int) (m : Int) (i : Int) q (re l a).2.1.f0 (re l a).2.1.f1 (re l a).2.1.f2 (re l a).2.1.f3 (re l a).2.1.f4 = some (if q = true then ([], (a : Int), 4) else dl l d (re l a).2.2 (xs ++ [(re l a).2.1])) := by
        intro q
        rw [event_Decode.j3]
        cases q with
        | true => rw [if_pos rfl, if_neg (by decide), if_pos rfl]
        | false =>
          have e1 : IntKind.u64.wrap ((i : Int) + 1) = ((i + 1 : Nat) : Int) := by
            rw [show (i : Int) + 1 = ((i + 1 : Nat) : Int) by omega]
            exact u64' (by omega)
          rw [if_neg (by decide), if_pos (by omega), if_pos (by omega), e1, if_neg (by decide)]
          exact ih k (re l a).2.2 (i + 1) _ ok.2.1 (by omega) (by omega) (by rw [List.length_append, List.length_singleton]; omega) (by omega)
      by_cases h1 : 0 < xs.length
      · rw [if_pos (by omega), i64 (by omega) (by omega), if_pos (by omega), if_pos (by omega), step, show (xs.length : Int) - 1 = ((xs.length - 1 : Nat) : Int) by omega, rd_eq]
        by_cases h2 : (re l a).2.1.f0 < (xs.getD (xs.length - 1) z).f0
        · rw [decide_eq_true h2, if_pos rfl, if_pos ⟨h1, h2⟩]
        · rw [decide_eq_false h2, if_neg (by decide), if_neg (fun q => h2 q.2)]
      · rw [if_neg (by omega), step, if_neg (by decide), if_neg (fun q => h1 q.1)]
    · rw [if_neg (by omega), if_neg h0, event_Decode.j3, if_neg (by decide), if_neg (by omega)]
/-- A log's bytes, its sum taken off. -/
def dcb (m : List Nat) : List E × Int × Int :=
  if m.take 5 = [80, 76, 84, 76, 1] then
    if (dv 0 0 (m.drop 5)).2.2 = 0 then
      if 20000 < (dv 0 0 (m.drop 5)).1 then ([], 5, 4) else dl m (dv 0 0 (m.drop 5)).1 (5 + (dv 0 0 (m.drop 5)).2.1) []
    else ([], 5, ((dv 0 0 (m.drop 5)).2.2 : Int))
  else ([], 0, 4)
/-- A log. -/
def dc (l : List Nat) : List E × Int × Int := if l.length < 4 then ([], 0, 3) else if 1048580 < l.length then ([], 0, 6) else if CrcFn.good32 l then dcb (l.take (l.length - 4)) else ([], 0, 5)
theorem hd_cs : ([80, 76, 84, 76, 1] : List Int) = cs [80, 76, 84, 76, 1] := rfl
theorem hd_by : By [80, 76, 84, 76, 1] := by unfold By; decide
theorem prefix_head (m : List Nat) (hm : By m) : bytes_HasPrefix.f (cs m) [80, 76, 84, 76, 1] = some (decide (m.take 5 = [80, 76, 84, 76, 1])) := by
  unfold bytes_HasPrefix.f bytes_Equal.f
  rw [cs_len, show ([80, 76, 84, 76, 1] : List Int).length = 5 from rfl]
  by_cases h : 5 ≤ m.length
  · rw [if_pos h, hd_cs, cs_take]
    have q := CrcFn.nums_iff (l := m.take 5) (m := [80, 76, 84, 76, 1]) (hm.take 5) hd_by
    by_cases c : m.take 5 = [80, 76, 84, 76, 1]
    · rw [decide_eq_true c, c]
      simp
    · rw [decide_eq_false c]
      congr 1
      rw [beq_eq_false_iff_ne]
      exact fun e => c (q.1 e)
  · rw [if_neg h, decide_eq_false]
    intro e
    have := congrArg List.length e
    rw [List.length_take] at this
    simp at this
    omega
theorem end5 {m : List Nat} (hm : By m) (h5 : 5 ≤ m.length) (h : (dv 0 0 (m.drop 5)).2.2 = 0) : 5 + (dv 0 0 (m.drop 5)).2.1 ≤ m.length := by
  have := dv_bound (m.drop 5) 0 0 (dv 0 0 (m.drop 5)).1 (dv 0 0 (m.drop 5)).2.1 (hm.drop 5) (Prod.ext rfl (Prod.ext rfl h))
  rw [List.length_drop] at this
  omega
theorem len5 {m : List Nat} (h : m.take 5 = [80, 76, 84, 76, 1]) : 5 ≤ m.length := by
  have := congrArg List.length h
  rw [List.length_take] at this
  simp at this
  omega
theorem Decode_eq {k : Nat} (l : List Nat) (hl : By l) (hn : l.length ≤ 10000000000) (hk : 11000000 ≤ k) : event_Decode.f k (cs l) = some (dc l) := by
  unfold event_Decode.f
  rw [show cs l = CrcFn.cs l from rfl, CrcFn.Open32_eq l hl hn, Option.bind_some]
  unfold CrcFn.op32 dc
  by_cases h1 : l.length < 4
  · rw [if_pos h1, if_pos h1]
    rfl
  rw [if_neg h1, if_neg h1]
  by_cases h2 : 1048580 < l.length
  · rw [if_pos h2, if_pos h2]
    rfl
  rw [if_neg h2, if_neg h2]
  by_cases h3 : CrcFn.good32 l
  case neg =>
    rw [if_neg h3, if_neg h3]
    rfl
  rw [if_pos h3, if_pos h3]
  have hm : By (l.take (l.length - 4)) := hl.take _
  have hml : (l.take (l.length - 4)).length ≤ 1048576 := by rw [List.length_take]; omega
  generalize l.take (l.length - 4) = m at *
  dsimp only
  rw [if_pos rfl, show CrcFn.cs m = cs m from rfl]
  unfold event_head.f
  rw [Option.bind_some, Option.bind_some, prefix_head m hm, Option.bind_some]
  unfold dcb
  by_cases h4 : m.take 5 = [80, 76, 84, 76, 1]
  case neg =>
    rw [decide_eq_false h4, if_neg (by decide), if_neg h4]
  have h5 := len5 h4
  rw [decide_eq_true h4, if_pos rfl, if_pos h4, show (([80, 76, 84, 76, 1] : List Int).length : Int) = ((5 : Nat) : Int) from rfl, TakeVary_eq m hm (by omega) 5 (by omega), Option.bind_some]
  obtain ⟨k, rfl⟩ : ∃ m, k = m + 2 := ⟨k - 2, by omega⟩
  have hb := end5 hm h5
  rcases hv : dv 0 0 (m.drop 5) with ⟨n, c, e⟩
  rw [hv] at hb
  unfold res
  by_cases h6 : e = 0
  case neg =>
    rw [if_neg h6]
    dsimp only
    rw [if_neg (by omega), event_Decode.j0, if_neg (by decide), event_Decode.j1, if_neg (by omega), if_neg h6]
    rfl
  subst h6
  have hb := hb rfl
  rw [if_pos rfl]
  dsimp only
  rw [if_pos rfl, event_Decode.j0]
  by_cases h7 : 20000 < n
  · rw [decide_eq_true (by omega), if_pos rfl, event_Decode.j1, if_neg (by decide), if_pos rfl, if_pos h7]
    rfl
  · rw [decide_eq_false (by omega), if_neg (by decide), event_Decode.j1, if_pos rfl, if_pos rfl, if_neg h7, show ((5 : Nat) : Int) + (c : Int) = ((5 + c : Nat) : Int) by omega]
    exact dl_eq m hm (by omega) n (by omega) n k (5 + c) 0 [] hb (by omega) (by omega) rfl (by omega)
end Go.Proofs.YtcbjbgleflbpmaaDoor.Ev19
/- Events written, and logs (layer 19), as printed: records, whether events may be, a log's bytes: the code's answer and the document's. Conditions: numbers of their kinds; rounds enough. -/
namespace Go.Proofs.YtcbjbgleflbpmaaDoor.Ev19
open Go Go.RowKit Go.Proofs.YtcbjbgleflbpmaaDoor.Print Go.Proofs.YtcbjbgleflbpmaaDoorW.PrintWords Go.Proofs.YtcbjbgleflbpmaaDoorW.PrintLast Go.Proofs.YtcbjbgleflbpmaaDoorW.PrintMore Go.Proofs.YtcbjbgleflbpmaaDoor.Wire Go.Proofs.YtcbjbgleflbpmaaDoor.WireSpec Go.Proofs.YtcbjbgleflbpmaaDoor.Wire2 Go.Proofs.YtcbjbgleflbpmaaDoor.Wire3 Go.Proofs.YtcbjbgleflbpmaaDoor.Wire4 Go.Proofs.YtcbjbgleflbpmaaDoor.Wire5 Go.Proofs.YtcbjbgleflbpmaaDoor.Recs Go.Proofs.YtcbjbgleflbpmaaDoor.TakeRef
/-- An event's numbers are of their kinds. -/
def wE (x : E) : Prop := -9223372036854775808 ≤ x.f3 ∧ x.f3 ≤ 9223372036854775807 ∧ -9223372036854775808 ≤ x.f4 ∧ x.f4 ≤ 9223372036854775807
/-- A record's body, and a record. -/
def bd (x : E) : List Nat := vbs [x.f0.toNat, x.f2.toNat] ++ vbs [zz x.f3, zz x.f4]
def rec1 (x : E) : List Nat := rb x.f1.toNat (bd x)
theorem bd_by (x : E) : By (bd x) := (vbs_by _).append (vbs_by _)
theorem bd_len {x : E} (h : okE x) (h2 : wE x) : (bd x).length ≤ 40 := by
  unfold okE at h
  unfold wE at h2
  have h1 := vbs_len [x.f0.toNat, x.f2.toNat] (by intro n hn; simp at hn; omega)
  have h3 := vbs_len [zz x.f3, zz x.f4] (by
    intro n hn
    have q1 := zz_lt (x := x.f3) (by omega) (by omega)
    have q2 := zz_lt (x := x.f4) (by omega) (by omega)
    simp at hn
    omega)
  unfold bd
  rw [List.length_append]
  simp only [List.length_cons, List.length_nil] at h1 h3
  omega
theorem rec_by {x : E} (h : okE x) : By (rec1 x) := by
  unfold okE at h
  exact rb_by (by omega) (bd_by x)
theorem rec_len {x : E} (h : okE x) (h2 : wE x) : 2 ≤ (rec1 x).length ∧ (rec1 x).length ≤ 42 := by
  have h1 := bd_len h h2
  unfold rec1
  rw [rb_len, vb_small (by omega)]
  simp only [List.length_cons, List.length_nil]
  omega
theorem two_cs {a b : Int} (ha : 0 ≤ a) (hb : 0 ≤ b) (ha2 : a < 18446744073709551616) (hb2 : b < 18446744073709551616) : ([IntKind.u64.wrap a, IntKind.u64.wrap b] : List Int) = cs [a.toNat, b.toNat] := by
  rw [u64_in ha ha2, u64_in hb hb2]
  unfold cs
  simp only [List.map_cons, List.map_nil]
  rw [show ((a.toNat : Nat) : Int) = a by omega, show ((b.toNat : Nat) : Int) = b by omega]
theorem Vary_nil {k : Nat} (xs : List Nat) (hx : ∀ n ∈ xs, n < 18446744073709551616) (hl : xs.length ≤ 1000000000000) (hk : xs.length + 50 ≤ k) : wire_Vary.f k [] (cs xs) = some (cs (vbs xs)) := Vary_eq [] xs hx hl (by simp) hk
theorem Record_nil {k : Nat} (kind : Nat) (body : List Nat) (hk : 50 ≤ k) : wire_Record.f k [] (kind : Int) (cs body) = some (if 1048576 < body.length then ([], 6) else (cs (rb kind body), 0)) := Record_eq [] kind body (by simp) hk
theorem put_eqE {k : Nat} (hk : 100 ≤ k) (x : E) (h : okE x) (h2 : wE x) : event_put.f k [] x.f0 x.f1 x.f2 x.f3 x.f4 = some (cs (rec1 x), 0) := by
  have hl := bd_len h h2
  unfold okE at h
  have h2' := h2
  unfold wE at h2
  unfold event_put.f
  rw [two_cs (by omega) (by omega) (by omega) (by omega), Vary_nil _ (by intro n hn; simp at hn; omega) (by simp) (by simp; omega), Option.bind_some, Sign_eq _ [x.f3, x.f4] (by intro y hy; simp at hy; omega) (by simp) (by have := vbs_len [x.f0.toNat, x.f2.toNat] (by intro n hn; simp at hn; omega); simp only [List.length_cons, List.length_nil] at this; omega) (by simp; omega), Option.bind_some, show x.f1 % 256 = ((x.f1.toNat : Nat) : Int) by omega]
  have e : vbs [x.f0.toNat, x.f2.toNat] ++ vbs (List.map zz [x.f3, x.f4]) = bd x := rfl
  rw [e, Record_nil _ _ (by omega), Option.bind_some, if_neg (by omega)]
  rfl
/-- Events, each no earlier than the one ahead. -/
def srt : List E → Bool
  | a :: b :: r => decide (a.f0 ≤ b.f0) && srt (b :: r)
  | _ => true
def okL (l : List E) : Bool := decide (l.length ≤ 20000) && (l.all (fun x => decide (okE x)) && srt l)
theorem edrop {l : List E} {i : Nat} (h : i < l.length) : l.drop i = l.getD i z :: l.drop (i + 1) := by
  rw [List.drop_eq_getElem_cons h, List.getD_eq_getElem?_getD, List.getElem?_eq_getElem h]
  rfl
theorem emem {l : List E} {i : Nat} (h : i < l.length) : l.getD i z ∈ l := by
  rw [List.getD_eq_getElem?_getD, List.getElem?_eq_getElem h]
  exact List.getElem_mem h
theorem idx_l0 (l : List E) (hn : l.length ≤ 1000000000) (d : Nat) : ∀ (k i : Nat), i ≤ l.length → l.length - i = d → d + 5 ≤ k → ∃ r, slices_IndexFunc_api_Event_api_Event_at_event_off.l0 k l (l.length : Int) (i : Int) = some r ∧ (decide (r ≥ 0) = !((l.drop i).all (fun x => decide (okE x)))) := by
  induction d with
  | zero =>
    intro k i hi hd hk
    obtain ⟨k, rfl⟩ : ∃ m, k = m + 1 := ⟨k - 1, by omega⟩
    rw [slices_IndexFunc_api_Event_api_Event_at_event_off.l0, if_neg (by omega), List.drop_of_length_le (by omega)]
    exact ⟨_, rfl, rfl⟩
  | succ d ih =>
    intro k i hi hd hk
    obtain ⟨k, rfl⟩ : ∃ m, k = m + 1 := ⟨k - 1, by omega⟩
    rw [slices_IndexFunc_api_Event_api_Event_at_event_off.l0, if_pos (by omega), if_pos (by omega), if_pos (by omega), rd_eq, off_eq (by omega), Option.bind_some, edrop (l := l) (by omega), List.all_cons]
    by_cases h : okE (l.getD i z)
    · have h' : okE ⟨(l.getD i z).f0, (l.getD i z).f1, (l.getD i z).f2, (l.getD i z).f3, (l.getD i z).f4⟩ := h
      rw [decide_eq_false (fun q => q h'), if_neg (by decide), i64 (by omega) (by omega), show (i : Int) + 1 = ((i + 1 : Nat) : Int) by omega, decide_eq_true h]
      exact ih k (i + 1) (by omega) (by omega) (by omega)
    · have h' : ¬ okE ⟨(l.getD i z).f0, (l.getD i z).f1, (l.getD i z).f2, (l.getD i z).f3, (l.getD i z).f4⟩ := h
      rw [decide_eq_true h', if_pos rfl, decide_eq_false h]
      exact ⟨_, rfl, by simp⟩
theorem chk_l0 (l : List E) (hn : l.length ≤ 1000000000) (d : Nat) : ∀ (k i : Nat), 1 ≤ i → i ≤ l.length → l.length - i = d → d + 2 ≤ k → event_Check.l0 k l (i : Int) = some (if srt (l.drop (i - 1)) = true then 0 else 1) := by
  induction d with
  | zero =>
    intro k i h1 hi hd hk
    obtain ⟨k, rfl⟩ : ∃ m, k = m + 1 := ⟨k - 1, by omega⟩
    rw [event_Check.l0, if_neg (by omega), edrop (l := l) (i := i - 1) (by omega), List.drop_of_length_le (by omega)]
    rfl
  | succ d ih =>
    intro k i h1 hi hd hk
    obtain ⟨k, rfl⟩ : ∃ m, k = m + 1 := ⟨k - 1, by omega⟩
    rw [event_Check.l0, if_pos (by omega), if_pos (by omega), i64 (by omega) (by omega), if_pos (by omega), if_pos (by omega), show (i : Int) - 1 = ((i - 1 : Nat) : Int) by omega, rd_eq, rd_eq, edrop (l := l) (i := i - 1) (by omega), show i - 1 + 1 = i by omega, edrop (l := l) (i := i) (by omega), srt]
    by_cases h : (l.getD i z).f0 < (l.getD (i - 1) z).f0
    · rw [if_pos h, decide_eq_false (by omega)]
      rfl
    · rw [if_neg h, decide_eq_true (by omega), Bool.true_and, i64 (by omega) (by omega), show (i : Int) + 1 = ((i + 1 : Nat) : Int) by omega, ih k (i + 1) (by omega) (by omega) (by omega) (by omega), show i + 1 - 1 = i by omega, edrop (l := l) (i := i) (by omega)]
theorem Check_eq {k : Nat} (l : List E) (hn : l.length ≤ 1000000000) (hk : 1000000000 < k ∨ l.length + 10 ≤ k) : event_Check.f k l = some (if okL l = true then 0 else 1) := by
  obtain ⟨k, rfl⟩ : ∃ m, k = m + 1 := ⟨k - 1, by omega⟩
  unfold event_Check.f okL
  by_cases h1 : l.length ≤ 20000
  · rw [if_neg (by omega), decide_eq_true h1, Bool.true_and]
    obtain ⟨r, e1, e2⟩ := idx_l0 l hn l.length (k + 1) 0 (by omega) (by omega) (by omega)
    rw [List.drop_zero] at e2
    unfold slices_ContainsFunc_api_Event_api_Event_at_event_off.f slices_IndexFunc_api_Event_api_Event_at_event_off.f
    rw [show (0 : Int) = ((0 : Nat) : Int) from rfl, e1, Option.bind_some, Option.bind_some, show decide (r ≥ ((0 : Nat) : Int)) = decide (r ≥ 0) from rfl, e2, event_Check.j0]
    cases h2 : l.all (fun x => decide (okE x)) with
    | false => rfl
    | true =>
      rw [Bool.not_true, if_neg (by decide), Bool.true_and]
      by_cases h3 : l.length = 0
      · have := List.eq_nil_of_length_eq_zero h3
        subst this
        obtain ⟨k, rfl⟩ : ∃ m, k = m + 1 := ⟨k - 1, by omega⟩
        rw [event_Check.l0, if_neg (by decide)]
        rfl
      · have := chk_l0 l hn (l.length - 1) k 1 (by omega) (by omega) rfl (by omega)
        rw [Nat.sub_self, List.drop_zero] at this
        exact this
  · rw [if_pos (by omega), decide_eq_false h1, event_Check.j0, if_pos rfl]
    rfl
/-- Records, one behind the other; a log ahead of its sum; a log. -/
def flat (l : List E) : List Nat := (l.map rec1).flatten
def lbody (l : List E) : List Nat := [80, 76, 84, 76, 1] ++ vb l.length ++ flat l
def enc (l : List E) : List Nat := lbody l ++ CrcFn.b4 (0xffffffff ^^^ Crc.r32 (lbody l))
theorem flat_cons (x : E) (l : List E) : flat (x :: l) = rec1 x ++ flat l := rfl
def Ws (l : List E) : Prop := ∀ x ∈ l, wE x
def Oks (l : List E) : Prop := ∀ x ∈ l, okE x
theorem okL_iff {l : List E} : okL l = true ↔ l.length ≤ 20000 ∧ Oks l ∧ srt l = true := by
  unfold okL Oks
  simp
theorem flat_by {l : List E} (h : Oks l) : By (flat l) := by
  induction l with
  | nil => exact By.nil
  | cons x l ih => exact (rec_by (h x (by simp))).append (ih (fun y hy => h y (by simp [hy])))
theorem flat_len {l : List E} (h : Oks l) (h2 : Ws l) : (flat l).length ≤ 42 * l.length := by
  induction l with
  | nil => simp [flat]
  | cons x l ih =>
    have h1 := rec_len (h x (by simp)) (h2 x (by simp))
    have h3 := ih (fun y hy => h y (by simp [hy])) (fun y hy => h2 y (by simp [hy]))
    rw [flat_cons, List.length_append, List.length_cons]
    omega
theorem lbody_by {l : List E} (h : Oks l) : By (lbody l) := (hd_by.append (vb_by _)).append (flat_by h)
theorem lbody_len {l : List E} (h : Oks l) (h2 : Ws l) (hn : l.length ≤ 20000) : (lbody l).length ≤ 1000000 := by
  have h1 := flat_len h h2
  have h3 := vb_len10 (n := l.length) (by omega)
  unfold lbody
  rw [List.length_append, List.length_append]
  simp only [List.length_cons, List.length_nil]
  omega
theorem enc_by {l : List E} (h : Oks l) : By (enc l) := (lbody_by h).append (CrcFn.b4_by _)
theorem enc_len (l : List E) : (enc l).length = (lbody l).length + 4 := by
  unfold enc
  rw [List.length_append]
  rfl
theorem enc_l0 (l : List E) (ho : Oks l) (hw : Ws l) (hn : l.length ≤ 20000) (d : Nat) : ∀ (k i : Nat) (acc : List Nat), By acc → acc.length + 42 * d ≤ 1000000 → i ≤ l.length → l.length - i = d → d + 120 ≤ k →
    event_Encode.l0 k (cs acc) l (l.length : Int) (i : Int) = some (CrcFn.sl32 (acc ++ flat (l.drop i))) := by
  induction d with
  | zero =>
    intro k i acc ha hal hi hd hk
    obtain ⟨k, rfl⟩ : ∃ m, k = m + 1 := ⟨k - 1, by omega⟩
    rw [event_Encode.l0, if_neg (by omega), List.drop_of_length_le (by omega)]
    have : acc ++ flat [] = acc := List.append_nil _
    rw [this]
    exact CrcFn.Seal32_sl acc ha (by omega)
  | succ d ih =>
    intro k i acc ha hal hi hd hk
    obtain ⟨k, rfl⟩ : ∃ m, k = m + 1 := ⟨k - 1, by omega⟩
    have h1 := ho _ (emem (l := l) (i := i) (by omega))
    have h2 := hw _ (emem (l := l) (i := i) (by omega))
    have h3 := rec_len h1 h2
    rw [event_Encode.l0, if_pos (by omega), if_pos (by omega), if_pos (by omega), rd_eq, put_eqE (by omega) _ h1 h2, Option.bind_some, if_pos rfl]
    dsimp only
    rw [cs_len, cs_len, if_pos (by omega), if_pos (by omega), ← cs_append, i64 (by omega) (by omega), show (i : Int) + 1 = ((i + 1 : Nat) : Int) by omega, ih k (i + 1) _ (ha.append (rec_by h1)) (by rw [List.length_append]; omega) (by omega) (by omega) (by omega), edrop (l := l) (i := i) (by omega), flat_cons, List.append_assoc]
theorem sl_ok {m : List Nat} (h : m.length ≤ 1048576) : CrcFn.sl32 m = (cs (m ++ CrcFn.b4 (0xffffffff ^^^ Crc.r32 m)), 0) := by
  unfold CrcFn.sl32
  rw [if_neg (by omega)]
  rfl
theorem Encode_eq {k : Nat} (l : List E) (hw : Ws l) (hn : l.length ≤ 1000000000) (hk : 1000000000 < k ∨ l.length + 200 ≤ k) : event_Encode.f k l = some (if okL l = true then (cs (enc l), 0) else ([], 1)) := by
  unfold event_Encode.f
  rw [Check_eq l hn (by omega), Option.bind_some]
  by_cases h : okL l = true
  · obtain ⟨h1, h2, h3⟩ := okL_iff.1 h
    rw [if_pos h, if_pos rfl, if_pos h]
    unfold event_head.f
    rw [Option.bind_some, u64' (by omega), hd_cs, cs_one, Vary_eq _ _ (by intro n hn; simp at hn; omega) (by simp) (by simp) (by simp; omega), Option.bind_some, show vbs [l.length] = vb l.length by simp [vbs]]
    have h4 := vb_len10 (n := l.length) (by omega)
    have hl : ([80, 76, 84, 76, 1] ++ vb l.length : List Nat).length = 5 + (vb l.length).length := by rw [List.length_append]; rfl
    rw [cs_len, if_pos (by omega), if_pos (by omega)]
    have := enc_l0 l h2 hw h1 l.length k 0 ([80, 76, 84, 76, 1] ++ vb l.length) (hd_by.append (vb_by _)) (by omega) (by omega) (by omega) (by omega)
    rw [List.drop_zero] at this
    rw [show (0 : Int) = ((0 : Nat) : Int) from rfl, this]
    have q := lbody_len h2 hw h1
    unfold lbody at q
    rw [sl_ok (by omega)]
    rfl
  · rw [if_neg h, if_neg (by decide), if_neg h]
end Go.Proofs.YtcbjbgleflbpmaaDoor.Ev19
/- What is encoded is decoded, and what is decoded is encoded as it stood (layer 19): plain facts on lists of numbers. -/
namespace Go.Proofs.YtcbjbgleflbpmaaDoor.Ev19
open Go Go.RowKit Go.Proofs.YtcbjbgleflbpmaaDoor.Print Go.Proofs.YtcbjbgleflbpmaaDoorW.PrintWords Go.Proofs.YtcbjbgleflbpmaaDoorW.PrintLast Go.Proofs.YtcbjbgleflbpmaaDoorW.PrintMore Go.Proofs.YtcbjbgleflbpmaaDoor.Wire Go.Proofs.YtcbjbgleflbpmaaDoor.WireSpec Go.Proofs.YtcbjbgleflbpmaaDoor.Wire2 Go.Proofs.YtcbjbgleflbpmaaDoor.Wire3 Go.Proofs.YtcbjbgleflbpmaaDoor.Wire4 Go.Proofs.YtcbjbgleflbpmaaDoor.Wire5 Go.Proofs.YtcbjbgleflbpmaaDoor.Recs Go.Proofs.YtcbjbgleflbpmaaDoor.TakeRef
theorem bd_parts (x : E) : bd x = vb x.f0.toNat ++ (vb x.f2.toNat ++ (vb (zz x.f3) ++ vb (zz x.f4))) := by
  unfold bd vbs
  simp
theorem fp_bd {x : E} (h : okE x) (h2 : wE x) : fp (bd x) = some (x.f0.toNat, x.f2.toNat, x.f3, x.f4) := by
  unfold okE at h
  unfold wE at h2
  have q3 := zz_lt (x := x.f3) (by omega) (by omega)
  have q4 := zz_lt (x := x.f4) (by omega) (by omega)
  rw [bd_parts]
  have u3 := uz_zz x.f3
  have u4 := uz_zz x.f4
  have ha : x.f0.toNat < 18446744073709551616 := by omega
  have hb : x.f2.toNat < 18446744073709551616 := by omega
  generalize x.f0.toNat = a at *
  generalize x.f2.toNat = b at *
  generalize zz x.f3 = c at *
  generalize zz x.f4 = d at *
  have d1 := dv_vb a ha (vb b ++ (vb c ++ vb d))
  have d2 := dv_vb b hb (vb c ++ vb d)
  have d3 := dv_vb c q3 (vb d)
  have d4 := dv_vb d q4 []
  rw [List.append_nil] at d4
  have p1 : (vb a ++ (vb b ++ (vb c ++ vb d))).drop (vb a).length = vb b ++ (vb c ++ vb d) := List.drop_left
  have p2 : (vb a ++ (vb b ++ (vb c ++ vb d))).drop ((vb a).length + (vb b).length) = vb c ++ vb d := by rw [← List.drop_drop, p1, List.drop_left]
  have p3 : (vb a ++ (vb b ++ (vb c ++ vb d))).drop ((vb a).length + (vb b).length + (vb c).length) = vb d := by rw [← List.drop_drop, p2, List.drop_left]
  unfold fp
  rw [d1]
  dsimp only
  rw [p1, d2]
  dsimp only
  rw [p2, d3]
  dsimp only
  rw [p3, d4]
  dsimp only
  rw [if_pos rfl, if_pos rfl, if_pos rfl, if_pos rfl, if_pos (by simp only [List.length_append]; omega), u3, u4]
theorem getD_of_drop {m : List Nat} {a c : Nat} {r : List Nat} (h : m.drop a = c :: r) : m.getD a 0 = c := by
  have : (m.drop a).getD 0 0 = c := by rw [h]; rfl
  rw [List.getD_eq_getElem?_getD, List.getElem?_drop] at this
  rw [List.getD_eq_getElem?_getD]
  exact this
theorem re_rec {m : List Nat} {a : Nat} {x : E} {u : List Nat} (h : okE x) (h2 : wE x) (hd : m.drop a = rec1 x ++ u) : re m a = (0, x, a + (rec1 x).length) := by
  have hl := bd_len h h2
  have hs := sp1_rb x.f1.toNat (bd x) (by omega) u
  unfold re
  rw [hd]
  unfold rec1
  rw [hs]
  dsimp only
  rw [if_pos rfl]
  have hk : m.getD a 0 = x.f1.toNat := getD_of_drop (r := vb (bd x).length ++ bd x ++ u) hd
  have hb : (m.drop (a + (1 + (vb (bd x).length).length))).take (bd x).length = bd x := by
    have e : rec1 x ++ u = (x.f1.toNat :: vb (bd x).length) ++ (bd x ++ u) := by
      unfold rec1 rb
      simp
    rw [← List.drop_drop, hd, e, show 1 + (vb (bd x).length).length = (x.f1.toNat :: vb (bd x).length).length by rw [List.length_cons]; omega, List.drop_left, List.take_left]
  rw [hk, hb]
  have he : eb x.f1.toNat (bd x) = some x := by
    unfold eb
    rw [fp_bd h h2, Option.bind_some]
    unfold okE at h
    dsimp only
    rw [if_pos (by omega)]
    obtain ⟨a0, a1, a2, a3, a4⟩ := x
    simp only at h ⊢
    congr 2 <;> omega
  rw [he, rb_len]
/-- The events behind others are no earlier. -/
def chain (xs l : List E) : Prop := srt l = true ∧ (0 < xs.length → 0 < l.length → (xs.getD (xs.length - 1) z).f0 ≤ (l.getD 0 z).f0)
theorem last_snoc (xs : List E) (x : E) : (xs ++ [x]).getD ((xs ++ [x]).length - 1) z = x := by
  rw [List.length_append, List.length_singleton, Nat.add_sub_cancel, List.getD_eq_getElem?_getD, List.getElem?_append_right (Nat.le_refl _), Nat.sub_self]
  rfl
theorem srt_tail {x : E} {l : List E} (h : srt (x :: l) = true) : srt l = true ∧ (0 < l.length → x.f0 ≤ (l.getD 0 z).f0) := by
  cases l with
  | nil => exact ⟨rfl, fun q => absurd q (by simp)⟩
  | cons y r =>
    rw [srt, Bool.and_eq_true] at h
    exact ⟨h.2, fun _ => of_decide_eq_true h.1⟩
theorem dl_flat (m : List Nat) : ∀ (l : List E) (a : Nat) (xs : List E), a ≤ m.length → m.drop a = flat l → Oks l → Ws l → chain xs l → dl m l.length a xs = (xs ++ l, 0, 0)
  | [], a, xs, ha, hd, ho, hw, hc => by
    have : a = m.length := by
      have := congrArg List.length hd
      rw [List.length_drop] at this
      simp [flat] at this
      omega
    rw [List.length_nil, dl, if_neg (by omega), List.append_nil]
  | x :: l, a, xs, ha, hd, ho, hw, hc => by
    have h1 := ho x (by simp)
    have h2 := hw x (by simp)
    rw [flat_cons] at hd
    have hr := re_rec h1 h2 hd
    have hlen : a + (rec1 x).length ≤ m.length := by
      have := congrArg List.length hd
      rw [List.length_drop, List.length_append] at this
      have q := rec_len h1 h2
      omega
    rw [List.length_cons, dl, hr]
    dsimp only
    rw [if_pos rfl, if_neg (by
      intro q
      have := hc.2 q.1 (by simp)
      have e : ((x :: l).getD 0 z) = x := rfl
      rw [e] at this
      omega)]
    have ht := srt_tail hc.1
    rw [dl_flat m l (a + (rec1 x).length) (xs ++ [x]) hlen (by rw [← List.drop_drop, hd, List.drop_left]) (fun y hy => ho y (by simp [hy])) (fun y hy => hw y (by simp [hy])) ⟨ht.1, fun _ q => by rw [last_snoc]; exact ht.2 q⟩, List.append_assoc]
    rfl
theorem dcb_lbody {l : List E} (ho : okL l = true) (hw : Ws l) : dcb (lbody l) = (l, 0, 0) := by
  obtain ⟨h1, h2, h3⟩ := okL_iff.1 ho
  have e0 : lbody l = [80, 76, 84, 76, 1] ++ (vb l.length ++ flat l) := by unfold lbody; rw [List.append_assoc]
  have e5 : (lbody l).drop 5 = vb l.length ++ flat l := by rw [e0]; rfl
  have et : (lbody l).take 5 = [80, 76, 84, 76, 1] := by rw [e0]; rfl
  unfold dcb
  rw [if_pos et, e5, dv_vb _ (by omega)]
  dsimp only
  rw [if_pos rfl, if_neg (by omega)]
  have := dl_flat (lbody l) l (5 + (vb l.length).length) [] (by rw [e0, List.length_append, List.length_append]; simp only [List.length_cons, List.length_nil]; omega) (by rw [← List.drop_drop, e5, List.drop_left]) h2 hw ⟨h3, fun q => absurd q (by simp)⟩
  rw [this]
  rfl
theorem enc_take (l : List E) : (enc l).take ((enc l).length - 4) = lbody l := by
  rw [enc_len, Nat.add_sub_cancel]
  unfold enc
  exact List.take_left
theorem dc_enc {l : List E} (ho : okL l = true) (hw : Ws l) : dc (enc l) = (l, 0, 0) := by
  obtain ⟨h1, h2, h3⟩ := okL_iff.1 ho
  have hl := lbody_len h2 hw h1
  have he := enc_len l
  unfold dc
  rw [if_neg (by omega), if_neg (by omega), if_pos (show CrcFn.good32 (enc l) from CrcFn.sealed32 (lbody_by h2)), enc_take, dcb_lbody ho hw]
theorem enc_inj {a b : List E} (ha : okL a = true) (hb : okL b = true) (wa : Ws a) (wb : Ws b) (h : enc a = enc b) : a = b := by
  have h1 := dc_enc ha wa
  rw [h, dc_enc hb wb] at h1
  exact (Prod.mk.inj h1).1.symm
end Go.Proofs.YtcbjbgleflbpmaaDoor.Ev19
/- The chapter's example, and whether two lists of events are the same (layer 19), as printed. -/
namespace Go.Proofs.YtcbjbgleflbpmaaDoor.Ev19
open Go Go.RowKit Go.Proofs.YtcbjbgleflbpmaaDoor.Print Go.Proofs.YtcbjbgleflbpmaaDoorW.PrintWords Go.Proofs.YtcbjbgleflbpmaaDoorW.PrintLast Go.Proofs.YtcbjbgleflbpmaaDoorW.PrintMore Go.Proofs.YtcbjbgleflbpmaaDoor.Wire Go.Proofs.YtcbjbgleflbpmaaDoor.WireSpec Go.Proofs.YtcbjbgleflbpmaaDoor.Wire2 Go.Proofs.YtcbjbgleflbpmaaDoor.Wire3 Go.Proofs.YtcbjbgleflbpmaaDoor.Wire4 Go.Proofs.YtcbjbgleflbpmaaDoor.Wire5 Go.Proofs.YtcbjbgleflbpmaaDoor.Recs Go.Proofs.YtcbjbgleflbpmaaDoor.TakeRef
instance : DecidableEq E := fun x y => decidable_of_iff _ Diff.beqE_iff
/-- The law's premise on a list of events. -/
theorem ws_of {l : List E} (h : ∀ y ∈ l, ((Lit.int .i64 y.f0).wf = true) ∧ (((Lit.int .i64 y.f1).wf = true) ∧ (((Lit.int .i64 y.f2).wf = true) ∧ (((Lit.int .i64 y.f3).wf = true) ∧ (((Lit.int .i64 y.f4).wf = true)))))) : Ws l := by
  intro x hx
  obtain ⟨_, _, _, h3, h4⟩ := h x hx
  have q3 := CrcFn.i64_le h3
  have q4 := CrcFn.i64_le h4
  exact ⟨q3.1, q3.2, q4.1, q4.2⟩
end Go.Proofs.YtcbjbgleflbpmaaDoor.Ev19
