/- Numbers as so many bytes of seven bits (layer 2): written and read, on lists of numbers. Plain facts, without the program. -/
import Derived.IntWalk
import Derived.Lib.Bytes
import Derived.Test.YtcbjbgleflbpmaaPrint0
import Derived.Test.YtcbjbgleflbpmaaPrint7
import Derived.Test.YtcbjbgleflbpmaaPrint9
import Derived.Test.YtcbjbgleflbpmaaPrint10
import Derived.Test.YtcbjbgleflbpmaaPrint11
import Derived.Test.YtcbjbgleflbpmaaPrint16
set_option linter.unusedVariables false
set_option linter.unusedSimpArgs false
namespace Go.Proofs.Ytcbjbgleflbpmaa.WireSpec
def By (l : List Nat) : Prop := ∀ x ∈ l, x < 256
theorem By.nil : By [] := fun x hx => by cases hx
theorem By.append {l m : List Nat} (h : By l) (h2 : By m) : By (l ++ m) := fun x hx => (List.mem_append.1 hx).elim (h x) (h2 x)
theorem By.cons {x : Nat} {l : List Nat} (h : x < 256) (h2 : By l) : By (x :: l) := fun y hy => (List.mem_cons.1 hy).elim (fun e => e ▸ h) (h2 y)
theorem By.drop {l : List Nat} (h : By l) (n : Nat) : By (l.drop n) := fun x hx => h x (List.mem_of_mem_drop hx)
theorem By.take {l : List Nat} (h : By l) (n : Nat) : By (l.take n) := fun x hx => h x (List.mem_of_mem_take hx)
theorem By.tail {x : Nat} {l : List Nat} (h : By (x :: l)) : By l := fun y hy => h y (by simp [hy])
/-- All but the last byte of a number, and all. -/
def vc (n : Nat) : List Nat := if n < 128 then [n + 128] else vc (n / 128) ++ [n % 128 + 128]
termination_by n
def vb (n : Nat) : List Nat := if n < 128 then [n] else vc (n / 128) ++ [n % 128]
theorem vc_small {n : Nat} (h : n < 128) : vc n = [n + 128] := by rw [vc, if_pos h]
theorem vc_step {n : Nat} (h : ¬ n < 128) : vc n = vc (n / 128) ++ [n % 128 + 128] := by rw [vc, if_neg h]
theorem vb_small {n : Nat} (h : n < 128) : vb n = [n] := by rw [vb, if_pos h]
theorem vb_step {n : Nat} (h : ¬ n < 128) : vb n = vc (n / 128) ++ [n % 128] := by rw [vb, if_neg h]
theorem vc_by (n : Nat) : By (vc n) := by
  induction n using Nat.strongRecOn with
  | _ n ih =>
    by_cases h : n < 128
    · rw [vc_small h]
      exact By.cons (by omega) By.nil
    · rw [vc_step h]
      exact (ih (n / 128) (by omega)).append (By.cons (by omega) By.nil)
theorem vb_by (n : Nat) : By (vb n) := by
  by_cases h : n < 128
  · rw [vb_small h]
    exact By.cons (by omega) By.nil
  · rw [vb_step h]
    exact (vc_by _).append (By.cons (by omega) By.nil)
theorem vc_pos (n : Nat) : 1 ≤ (vc n).length := by
  by_cases h : n < 128
  · rw [vc_small h]
    simp
  · rw [vc_step h, List.length_append, List.length_singleton]
    omega
theorem vb_pos (n : Nat) : 1 ≤ (vb n).length := by
  by_cases h : n < 128
  · rw [vb_small h]
    simp
  · rw [vb_step h, List.length_append, List.length_singleton]
    omega
theorem vc_len (n j : Nat) (h : n < 128 ^ (j + 1)) : (vc n).length ≤ j + 1 := by
  induction j generalizing n with
  | zero =>
    rw [vc_small (by simpa using h)]
    simp
  | succ j ih =>
    by_cases h2 : n < 128
    · rw [vc_small h2]
      simp
    · rw [vc_step h2, List.length_append, List.length_singleton]
      have := ih (n / 128) (by rw [Nat.pow_succ] at h; omega)
      omega
theorem vb_len (n j : Nat) (h : n < 128 ^ (j + 1)) : (vb n).length ≤ j + 1 := by
  by_cases h2 : n < 128
  · rw [vb_small h2]
    simp
  · rw [vb_step h2, List.length_append, List.length_singleton]
    cases j with
    | zero => exact absurd (by simpa using h) h2
    | succ j =>
      have := vc_len (n / 128) j (by rw [Nat.pow_succ] at h; omega)
      omega
theorem vb_len10 {n : Nat} (h : n < 18446744073709551616) : (vb n).length ≤ 10 := vb_len n 9 (Nat.lt_of_lt_of_le h (by decide))
/-- A number's reading: the number till here, how many bytes till here, what is left; the number, how many bytes in all, and what is wrong. -/
def dv : Nat → Nat → List Nat → Nat × Nat × Nat
  | _, _, [] => (0, 0, 3)
  | n, i, c :: l => if i = 0 ∧ c = 128 ∨ 144115188075855872 ≤ n then (0, 0, 4) else if c < 128 then (n * 128 + c, i + 1, 0) else dv (n * 128 + (c - 128)) (i + 1) l
theorem dv_nil (n i : Nat) : dv n i [] = (0, 0, 3) := rfl
theorem dv_bad {n i c : Nat} {l : List Nat} (h : i = 0 ∧ c = 128 ∨ 144115188075855872 ≤ n) : dv n i (c :: l) = (0, 0, 4) := by rw [dv, if_pos h]
theorem dv_end {n i c : Nat} {l : List Nat} (h : ¬ (i = 0 ∧ c = 128 ∨ 144115188075855872 ≤ n)) (h2 : c < 128) : dv n i (c :: l) = (n * 128 + c, i + 1, 0) := by rw [dv, if_neg h, if_pos h2]
theorem dv_more {n i c : Nat} {l : List Nat} (h : ¬ (i = 0 ∧ c = 128 ∨ 144115188075855872 ≤ n)) (h2 : ¬ c < 128) : dv n i (c :: l) = dv (n * 128 + (c - 128)) (i + 1) l := by rw [dv, if_neg h, if_neg h2]
theorem dv_vc (m : Nat) (h1 : 1 ≤ m) (h2 : m < 144115188075855872) (r : List Nat) : dv 0 0 (vc m ++ r) = dv m (vc m).length r := by
  induction m using Nat.strongRecOn generalizing r with
  | _ m ih =>
    by_cases h : m < 128
    · rw [vc_small h]
      rw [List.singleton_append, dv_more (by omega) (by omega), List.length_singleton, show 0 * 128 + (m + 128 - 128) = m by omega]
    · rw [vc_step h, List.append_assoc, ih (m / 128) (by omega) (by omega) (by omega)]
      have := vc_pos (m / 128)
      rw [List.singleton_append, dv_more (by omega) (by omega), List.length_append, List.length_singleton, show m / 128 * 128 + (m % 128 + 128 - 128) = m by omega]
theorem dv_vb (n : Nat) (h : n < 18446744073709551616) (r : List Nat) : dv 0 0 (vb n ++ r) = (n, (vb n).length, 0) := by
  by_cases h1 : n < 128
  · rw [vb_small h1]
    rw [List.singleton_append, dv_end (by omega) h1]
    simp
  · rw [vb_step h1, List.append_assoc, dv_vc _ (by omega) (by omega)]
    have := vc_pos (n / 128)
    rw [List.singleton_append, dv_end (by omega) (by omega), List.length_append, List.length_singleton, show n / 128 * 128 + n % 128 = n by omega]
theorem dv_back1 (l : List Nat) (hl : By l) : ∀ (m i n c : Nat), 1 ≤ m → 1 ≤ i → dv m i l = (n, c, 0) → vc m ++ l.take (c - i) = vb n ∧ i < c ∧ c - i ≤ l.length ∧ n < 18446744073709551616 := by
  induction l with
  | nil =>
    intro m i n c hm hi h
    rw [dv_nil] at h
    simp at h
  | cons x l ih =>
    intro m i n c hm hi h
    have hx : x < 256 := hl x (by simp)
    by_cases hb : i = 0 ∧ x = 128 ∨ 144115188075855872 ≤ m
    · rw [dv_bad hb] at h
      simp at h
    by_cases h2 : x < 128
    · rw [dv_end hb h2] at h
      simp only [Prod.mk.injEq] at h
      obtain ⟨rfl, rfl, _⟩ := h
      rw [show i + 1 - i = 1 by omega, vb_step (by omega), show (m * 128 + x) / 128 = m by omega, show (m * 128 + x) % 128 = x by omega]
      refine ⟨by simp, by omega, by simp, by omega⟩
    · rw [dv_more hb h2] at h
      obtain ⟨e, h3, h4, h5⟩ := ih hl.tail _ _ _ _ (by omega) (by omega) h
      rw [vc_step (by omega), show (m * 128 + (x - 128)) / 128 = m by omega, show (m * 128 + (x - 128)) % 128 + 128 = x by omega] at e
      refine ⟨?_, by omega, by rw [List.length_cons]; omega, h5⟩
      rw [show c - i = (c - (i + 1)) + 1 by omega, List.take_succ_cons, ← e]
      simp
theorem dv_back (l : List Nat) (hl : By l) (n c : Nat) (h : dv 0 0 l = (n, c, 0)) : l.take c = vb n ∧ 1 ≤ c ∧ c ≤ l.length ∧ n < 18446744073709551616 := by
  cases l with
  | nil => simp [dv_nil] at h
  | cons x l =>
    have hx : x < 256 := hl x (by simp)
    by_cases hb : (0 : Nat) = 0 ∧ x = 128 ∨ 144115188075855872 ≤ 0
    · rw [dv_bad hb] at h
      simp at h
    by_cases h2 : x < 128
    · rw [dv_end hb h2] at h
      simp only [Prod.mk.injEq] at h
      obtain ⟨rfl, rfl, _⟩ := h
      rw [vb_small (by omega)]
      refine ⟨by simp, by omega, by simp, by omega⟩
    · rw [dv_more hb h2] at h
      obtain ⟨e, h3, h4, h5⟩ := dv_back1 l hl.tail _ _ _ _ (by omega) (by omega) h
      rw [show 0 * 128 + (x - 128) = x - 128 by omega, vc_small (by omega), show x - 128 + 128 = x by omega] at e
      refine ⟨?_, by omega, by rw [List.length_cons]; omega, h5⟩
      rw [← e, show c = (c - (0 + 1)) + 1 by omega, List.take_succ_cons]
      simp
theorem dv_errs (l : List Nat) : ∀ (m i : Nat), (dv m i l).2.2 = 0 ∨ dv m i l = (0, 0, 3) ∨ dv m i l = (0, 0, 4) := by
  induction l with
  | nil => intro m i; exact Or.inr (Or.inl rfl)
  | cons x l ih =>
    intro m i
    by_cases hb : i = 0 ∧ x = 128 ∨ 144115188075855872 ≤ m
    · rw [dv_bad hb]
      exact Or.inr (Or.inr rfl)
    by_cases h2 : x < 128
    · rw [dv_end hb h2]
      exact Or.inl rfl
    · rw [dv_more hb h2]
      exact ih _ _
/-- What more bytes change: only that some are lacking. -/
theorem dv_append (l r : List Nat) : ∀ (m i : Nat), (dv m i l).2.2 ≠ 3 → dv m i (l ++ r) = dv m i l := by
  induction l with
  | nil => intro m i h; exact absurd rfl h
  | cons x l ih =>
    intro m i h
    rw [List.cons_append]
    by_cases hb : i = 0 ∧ x = 128 ∨ 144115188075855872 ≤ m
    · rw [dv_bad hb, dv_bad hb]
    by_cases h2 : x < 128
    · rw [dv_end hb h2, dv_end hb h2]
    · rw [dv_more hb h2] at h ⊢
      rw [dv_more hb h2]
      exact ih _ _ h
theorem dv_bound (l : List Nat) : ∀ (m i n c : Nat), By l → dv m i l = (n, c, 0) → i < c ∧ c ≤ i + l.length ∧ n < 18446744073709551616 := by
  induction l with
  | nil => intro m i n c _ h; simp [dv_nil] at h
  | cons x l ih =>
    intro m i n c hl h
    have hx : x < 256 := hl x (by simp)
    by_cases hb : i = 0 ∧ x = 128 ∨ 144115188075855872 ≤ m
    · rw [dv_bad hb] at h
      simp at h
    by_cases h2 : x < 128
    · rw [dv_end hb h2] at h
      simp only [Prod.mk.injEq] at h
      obtain ⟨rfl, rfl, _⟩ := h
      rw [List.length_cons]
      omega
    · rw [dv_more hb h2] at h
      have := ih _ _ _ _ hl.tail h
      rw [List.length_cons]
      omega
/-- Signed numbers as unsigned ones. -/
def zz (x : Int) : Nat := (if x < 0 then -(2 * x) - 1 else 2 * x).toNat
def uz (n : Nat) : Int := if n % 2 = 1 then -((n / 2 : Nat) : Int) - 1 else ((n / 2 : Nat) : Int)
theorem uz_zz (x : Int) : uz (zz x) = x := by
  unfold uz zz
  split <;> split <;> omega
theorem zz_uz (n : Nat) : zz (uz n) = n := by
  unfold uz zz
  split <;> split <;> omega
theorem zz_lt {x : Int} (h : -9223372036854775808 ≤ x) (h2 : x ≤ 9223372036854775807) : zz x < 18446744073709551616 := by
  unfold zz
  split <;> omega
theorem uz_in {n : Nat} (h : n < 18446744073709551616) : -9223372036854775808 ≤ uz n ∧ uz n ≤ 9223372036854775807 := by
  unfold uz
  split <;> omega
end Go.Proofs.Ytcbjbgleflbpmaa.WireSpec
/- Numbers as digits, the greatest first, and their order as texts: plain facts. -/
namespace Go.Proofs.Ytcbjbgleflbpmaa.Digits
open Go Go.Lib
/-- The j+1 lowest digits of n in base B, the greatest first, each with what is put on it. -/
def G (B : Nat) (off : Nat → Nat) : Nat → Nat → List Nat
  | 0, n => [n % B + off 0]
  | j + 1, n => ((n / B ^ (j + 1)) % B + off (j + 1)) :: G B off j n
theorem G_len (B : Nat) (off : Nat → Nat) (n : Nat) : ∀ j, (G B off j n).length = j + 1
  | 0 => rfl
  | j + 1 => by simp [G, G_len B off n j]
/-- Order of lists of numbers. -/
def lx : List Nat → List Nat → Bool
  | _, [] => false
  | [], _ :: _ => true
  | a :: x, b :: y => decide (a < b) || (a == b && lx x y)
theorem mod_top (B : Nat) (hB : 0 < B) (n j : Nat) : n % B ^ (j + 2) = (n / B ^ (j + 1) % B) * B ^ (j + 1) + n % B ^ (j + 1) := by
  rw [show j + 2 = (j + 1) + 1 from rfl, Nat.pow_succ B (j + 1), Nat.mod_mul]
  rw [Nat.mul_comm (B ^ (j + 1)), Nat.add_comm]
theorem lx_G (B : Nat) (hB : 0 < B) (off : Nat → Nat) (a b : Nat) : ∀ j, lx (G B off j a) (G B off j b) = decide (a % B ^ (j + 1) < b % B ^ (j + 1))
  | 0 => by
    simp only [G, lx, Nat.zero_add, Nat.pow_one, Bool.and_false, Bool.or_false]
    congr 1
    exact propext ⟨fun h => by omega, fun h => by omega⟩
  | j + 1 => by
    have hp : 0 < B ^ (j + 1) := Nat.pow_pos hB
    have ha := Nat.mod_lt a hp
    have hb := Nat.mod_lt b hp
    simp only [G, lx]
    rw [lx_G B hB off a b j, mod_top B hB a j, mod_top B hB b j]
    generalize a / B ^ (j + 1) % B = p
    generalize b / B ^ (j + 1) % B = q
    generalize a % B ^ (j + 1) = u at *
    generalize b % B ^ (j + 1) = v at *
    generalize B ^ (j + 1) = P at *
    rcases Nat.lt_trichotomy p q with h | h | h
    · have e1 : decide (p + off (j + 1) < q + off (j + 1)) = true := decide_eq_true (by omega)
      have e2 : p * P + u < q * P + v := by
        have := Nat.mul_le_mul_right P (show p + 1 ≤ q by omega)
        rw [Nat.add_mul, Nat.one_mul] at this
        omega
      rw [e1, decide_eq_true e2, Bool.true_or]
    · subst h
      have e1 : decide (p + off (j + 1) < p + off (j + 1)) = false := decide_eq_false (Nat.lt_irrefl _)
      rw [e1, beq_self_eq_true, Bool.false_or, Bool.true_and]
      congr 1
      exact propext ⟨fun h => by omega, fun h => by omega⟩
    · have e1 : decide (p + off (j + 1) < q + off (j + 1)) = false := decide_eq_false (by omega)
      have e3 : (p + off (j + 1) == q + off (j + 1)) = false := beq_eq_false_iff_ne.2 (by omega)
      have e2 : ¬ p * P + u < q * P + v := by
        have := Nat.mul_le_mul_right P (show q + 1 ≤ p by omega)
        rw [Nat.add_mul, Nat.one_mul] at this
        omega
      rw [e1, e3, decide_eq_false e2]
      rfl
theorem G_inj (B : Nat) (hB : 0 < B) (off : Nat → Nat) (a b j : Nat) (h : G B off j a = G B off j b) : a % B ^ (j + 1) = b % B ^ (j + 1) := by
  have h1 := lx_G B hB off a b j
  have h2 := lx_G B hB off b a j
  rw [h] at h1 h2
  have e := lx_G B hB off b b j
  rw [e] at h1 h2
  have h1 := of_decide_eq_false (h1.symm.trans (decide_eq_false (Nat.lt_irrefl _)))
  have h2 := of_decide_eq_false (h2.symm.trans (decide_eq_false (Nat.lt_irrefl _)))
  omega
theorem G_get (B : Nat) (off : Nat → Nat) (n : Nat) : ∀ (j i : Nat), i ≤ j → (G B off j n).getD i 0 = (n / B ^ (j - i)) % B + off (j - i)
  | 0, i, h => by
    obtain rfl : i = 0 := by omega
    simp [G]
  | j + 1, 0, h => by simp [G]
  | j + 1, i + 1, h => by
    have := G_get B off n j i (by omega)
    simp only [G, List.getD_cons_succ]
    rw [this, show j + 1 - (i + 1) = j - i by omega]
/-- The text's own order is the numbers'. -/
theorem less_lx : ∀ (x y : List Nat), (∀ a ∈ x, a < 256) → (∀ a ∈ y, a < 256) → Op.bytesLess (strOfNums (x.map (fun a : Nat => (a : Int)))).toList (strOfNums (y.map (fun a : Nat => (a : Int)))).toList = lx x y := by
  intro x y hx hy
  rw [strOfNums_toList, strOfNums_toList]
  induction x generalizing y with
  | nil => cases y <;> simp [bytesOf, Op.bytesLess, lx]
  | cons a x ih =>
    cases y with
    | nil => simp [bytesOf, Op.bytesLess, lx]
    | cons b y =>
      have h1 := hx a (by simp)
      have h2 := hy b (by simp)
      have i := ih y (fun c hc => hx c (by simp [hc])) (fun c hc => hy c (by simp [hc]))
      simp only [bytesOf, List.map_cons, Op.bytesLess, lx] at i ⊢
      rw [i]
      have u1 : (UInt8.ofNat (a : Int).toNat < UInt8.ofNat (b : Int).toNat) ↔ a < b := by
        rw [UInt8.lt_iff_toNat_lt, Int.toNat_natCast, Int.toNat_natCast, UInt8.toNat_ofNat', UInt8.toNat_ofNat', Nat.mod_eq_of_lt h1, Nat.mod_eq_of_lt h2]
      have u2 : (UInt8.ofNat (a : Int).toNat == UInt8.ofNat (b : Int).toNat) = (a == b) := by
        rw [Bool.eq_iff_iff, beq_iff_eq, beq_iff_eq, ← UInt8.toNat_inj, Int.toNat_natCast, Int.toNat_natCast, UInt8.toNat_ofNat', UInt8.toNat_ofNat', Nat.mod_eq_of_lt h1, Nat.mod_eq_of_lt h2]
      rw [u2]
      congr 1
      rw [decide_eq_decide]
      exact u1
end Go.Proofs.Ytcbjbgleflbpmaa.Digits
/- math/bits' Len64, as printed: how many bits a number has. -/
namespace Go.Proofs.Ytcbjbgleflbpmaa.Len64
open Go Go.RowKit Go.Proofs.Ytcbjbgleflbpmaa.Print Go.Proofs.YtcbjbgleflbpmaaW.PrintWords Go.Proofs.YtcbjbgleflbpmaaW.PrintLast Go.Proofs.YtcbjbgleflbpmaaW.PrintMore
theorem w64 {x : Int} (h : -9223372036854775808 ≤ x) (h2 : x ≤ 9223372036854775807) : wrap64 x = x := by unfold wrap64; omega
abbrev TB : ByteArray := (⟨#[0, 1, 2, 2, 3, 3, 3, 3, 4, 4, 4, 4, 4, 4, 4, 4, 5, 5, 5, 5, 5, 5, 5, 5, 5, 5, 5, 5, 5, 5, 5, 5, 6, 6, 6, 6, 6, 6, 6, 6, 6, 6, 6, 6, 6, 6, 6, 6, 6, 6, 6, 6, 6, 6, 6, 6, 6, 6, 6, 6, 6, 6, 6, 6, 7, 7, 7, 7, 7, 7, 7, 7, 7, 7, 7, 7, 7, 7, 7, 7, 7, 7, 7, 7, 7, 7, 7, 7, 7, 7, 7, 7, 7, 7, 7, 7, 7, 7, 7, 7, 7, 7, 7, 7, 7, 7, 7, 7, 7, 7, 7, 7, 7, 7, 7, 7, 7, 7, 7, 7, 7, 7, 7, 7, 7, 7, 7, 7, 8, 8, 8, 8, 8, 8, 8, 8, 8, 8, 8, 8, 8, 8, 8, 8, 8, 8, 8, 8, 8, 8, 8, 8, 8, 8, 8, 8, 8, 8, 8, 8, 8, 8, 8, 8, 8, 8, 8, 8, 8, 8, 8, 8, 8, 8, 8, 8, 8, 8, 8, 8, 8, 8, 8, 8, 8, 8, 8, 8, 8, 8, 8, 8, 8, 8, 8, 8, 8, 8, 8, 8, 8, 8, 8, 8, 8, 8, 8, 8, 8, 8, 8, 8, 8, 8, 8, 8, 8, 8, 8, 8, 8, 8, 8, 8, 8, 8, 8, 8, 8, 8, 8, 8, 8, 8, 8, 8, 8, 8, 8, 8, 8, 8, 8, 8, 8, 8, 8, 8, 8, 8, 8, 8, 8, 8, 8, 8]⟩ : ByteArray)
set_option maxRecDepth 100000 in
theorem tab : ∀ i : Fin 256, 0 < i.val → 1 ≤ bt TB (i.val : Int) ∧ bt TB (i.val : Int) ≤ 8 ∧ 2 ^ ((bt TB (i.val : Int)).toNat - 1) ≤ i.val ∧ i.val < 2 ^ (bt TB (i.val : Int)).toNat := by decide +kernel
set_option maxRecDepth 100000 in
theorem tabi {z : Int} (h0 : 0 < z) (h1 : z < 256) : ∃ n : Nat, bt TB z = n ∧ 1 ≤ n ∧ n ≤ 8 ∧ (2 ^ (n - 1) : Int) ≤ z ∧ z < 2 ^ (n - 1) * 2 := by
  obtain ⟨m, rfl⟩ : ∃ m : Nat, z = m := ⟨z.toNat, by omega⟩
  have h := tab ⟨m, by omega⟩ (by simp only; omega)
  simp only at h
  obtain ⟨n, hn⟩ : ∃ n : Nat, bt TB (m : Int) = n := ⟨(bt TB (m : Int)).toNat, by omega⟩
  rw [hn, Int.toNat_natCast] at h
  refine ⟨n, hn, by omega, by omega, ?_, ?_⟩
  · have : ((2 ^ (n - 1) : Nat) : Int) ≤ (m : Int) := by omega
    simpa using this
  · have e : 2 ^ n = 2 ^ (n - 1) * 2 := by rw [← Nat.pow_succ, show (n - 1).succ = n by omega]
    have : (m : Int) < ((2 ^ (n - 1) * 2 : Nat) : Int) := by omega
    simpa using this
set_option maxRecDepth 100000 in
theorem j0_eq (k : Nat) (x c : Int) : bits_Len64.j0 (k + 1) x c = if x ≥ 65536 then (if (x / 65536) ≥ 256 then (if 0 ≤ (((x / 65536) / 256) % 256) then (if (((x / 65536) / 256) % 256) < 256 then (some (wrap64 ((wrap64 ((wrap64 (c + 16)) + 8)) + (wrap64 (bt TB (((x / 65536) / 256) % 256)))))) else (none)) else (none)) else (if 0 ≤ ((x / 65536) % 256) then (if ((x / 65536) % 256) < 256 then (some (wrap64 ((wrap64 (c + 16)) + (wrap64 (bt TB ((x / 65536) % 256)))))) else (none)) else (none))) else (if x ≥ 256 then (if 0 ≤ ((x / 256) % 256) then (if ((x / 256) % 256) < 256 then (some (wrap64 ((wrap64 (c + 8)) + (wrap64 (bt TB ((x / 256) % 256)))))) else (none)) else (none)) else (if 0 ≤ ((x) % 256) then (if ((x) % 256) < 256 then (some (wrap64 (c + (wrap64 (bt TB ((x) % 256)))))) else (none)) else (none))) := rfl
set_option maxRecDepth 100000 in
theorem len_j0 {k : Nat} {x : Int} (c : Int) (c0 : 0 ≤ c) (c1 : c ≤ 32) (h0 : 0 < x) (h1 : x < 4294967296) : ∃ n : Nat, bits_Len64.j0 (k + 1) x c = some (c + n) ∧ 1 ≤ n ∧ n ≤ 32 ∧ (2 ^ (n - 1) : Int) ≤ x ∧ x < 2 ^ (n - 1) * 2 := by
  have go : ∀ (s : Nat) (z : Int), s ≤ 24 → 0 < z → z < 256 → (∀ P : Int, P ≤ z → P * 2 ^ s ≤ x) → (∀ P : Int, z < P → x < P * 2 ^ s) → (∀ n : Nat, bt TB z = n → n ≤ 8 → bits_Len64.j0 (k + 1) x c = some (c + s + n)) → ∃ n : Nat, bits_Len64.j0 (k + 1) x c = some (c + n) ∧ 1 ≤ n ∧ n ≤ 32 ∧ (2 ^ (n - 1) : Int) ≤ x ∧ x < 2 ^ (n - 1) * 2 := by
    intro s z hs z0 z1 a b e
    obtain ⟨n, hn, n1, n2, n3, n4⟩ := tabi z0 z1
    refine ⟨s + n, ?_, by omega, by omega, ?_, ?_⟩
    · rw [e n hn n2]
      congr 1
      omega
    · rw [show s + n - 1 = (n - 1) + s by omega, Int.pow_add]
      exact a _ n3
    · rw [show s + n - 1 = (n - 1) + s by omega, Int.pow_add, Int.mul_right_comm]
      exact b _ n4
  by_cases h2 : x ≥ 65536
  · by_cases h3 : x / 65536 ≥ 256
    · refine go 24 (x / 65536 / 256 % 256) (by decide) (by omega) (by omega) (fun P h => by rw [show (2 : Int) ^ 24 = 16777216 by decide]; omega) (fun P h => by rw [show (2 : Int) ^ 24 = 16777216 by decide]; omega) (fun n hn n8 => ?_)
      rw [j0_eq, if_pos h2, if_pos h3, if_pos (by omega), if_pos (by omega)]
      rw [hn, w64 (x := c + 16) (by omega) (by omega), w64 (x := c + 16 + 8) (by omega) (by omega), w64 (x := (n : Int)) (by omega) (by omega), w64 (by omega) (by omega)]
      congr 1
      omega
    · refine go 16 (x / 65536 % 256) (by decide) (by omega) (by omega) (fun P h => by rw [show (2 : Int) ^ 16 = 65536 by decide]; omega) (fun P h => by rw [show (2 : Int) ^ 16 = 65536 by decide]; omega) (fun n hn n8 => ?_)
      rw [j0_eq, if_pos h2, if_neg h3, if_pos (by omega), if_pos (by omega)]
      rw [hn, w64 (x := c + 16) (by omega) (by omega), w64 (x := (n : Int)) (by omega) (by omega), w64 (by omega) (by omega)]
      congr 1
  · by_cases h3 : x ≥ 256
    · refine go 8 (x / 256 % 256) (by decide) (by omega) (by omega) (fun P h => by rw [show (2 : Int) ^ 8 = 256 by decide]; omega) (fun P h => by rw [show (2 : Int) ^ 8 = 256 by decide]; omega) (fun n hn n8 => ?_)
      rw [j0_eq, if_neg h2, if_pos h3, if_pos (by omega), if_pos (by omega)]
      rw [hn, w64 (x := c + 8) (by omega) (by omega), w64 (x := (n : Int)) (by omega) (by omega), w64 (by omega) (by omega)]
      congr 1
    · refine go 0 (x % 256) (by decide) (by omega) (by omega) (fun P h => by rw [Int.pow_zero]; omega) (fun P h => by rw [Int.pow_zero]; omega) (fun n hn n8 => ?_)
      rw [j0_eq, if_neg h2, if_neg h3, if_pos (by omega), if_pos (by omega)]
      rw [hn, w64 (x := (n : Int)) (by omega) (by omega), w64 (by omega) (by omega)]
      congr 1
      omega
theorem len_eq {k : Nat} {x : Int} (h0 : 0 < x) (h1 : x < 18446744073709551616) : ∃ n : Nat, bits_Len64.f (k + 1) x = some (n : Int) ∧ 1 ≤ n ∧ n ≤ 64 ∧ (2 ^ (n - 1) : Int) ≤ x ∧ x < 2 ^ (n - 1) * 2 := by
  by_cases h2 : x ≥ 4294967296
  · obtain ⟨n, e, n1, n2, n3, n4⟩ := len_j0 (k := k) (x := x / 4294967296) 32 (by decide) (by decide) (by omega) (by omega)
    refine ⟨32 + n, ?_, by omega, by omega, ?_, ?_⟩
    · unfold bits_Len64.f
      rw [if_pos h2, e]
      congr 1
    · rw [show 32 + n - 1 = (n - 1) + 32 by omega, Int.pow_add, show (2 : Int) ^ 32 = 4294967296 by decide]
      omega
    · rw [show 32 + n - 1 = (n - 1) + 32 by omega, Int.pow_add, show (2 : Int) ^ 32 = 4294967296 by decide]
      omega
  · obtain ⟨n, e, n1, n2, n3, n4⟩ := len_j0 (k := k) (x := x) 0 (by decide) (by decide) h0 (by omega)
    refine ⟨n, ?_, n1, by omega, n3, n4⟩
    unfold bits_Len64.f
    rw [if_neg h2, e, Int.zero_add]
theorem len_zero1 : bits_Len64.f 1 0 = some 0 := by decide +kernel
theorem len_zero {k : Nat} (hk : 1 ≤ k) : bits_Len64.f k 0 = some 0 := at_rounds (fun k => bits_Len64.mono _ k) hk len_zero1
end Go.Proofs.Ytcbjbgleflbpmaa.Len64
/- Plain facts on numbers written as bytes (layer 2), as printed. -/
namespace Go.Proofs.Ytcbjbgleflbpmaa.Wire
open Go Go.RowKit Go.Proofs.Ytcbjbgleflbpmaa.Print Go.Proofs.YtcbjbgleflbpmaaW.PrintWords Go.Proofs.YtcbjbgleflbpmaaW.PrintLast Go.Proofs.YtcbjbgleflbpmaaW.PrintMore Go.Proofs.Ytcbjbgleflbpmaa.Len64 Go.Proofs.Ytcbjbgleflbpmaa.Digits
theorem or128a : ∀ i : Fin 256, Go.bits .or .u8 128 (i.val : Int) = 128 + (i.val : Int) % 128 := by decide +kernel
theorem and127a : ∀ i : Fin 256, Go.bits .and .u8 (i.val : Int) 127 = (i.val : Int) % 128 := by decide +kernel
theorem or128 (t : Nat) : Go.bits .or .u8 128 ((t : Int) % 256) = ((t % 128 + 128 : Nat) : Int) := by
  have h := or128a ⟨t % 256, by omega⟩
  simp only at h
  rw [show ((t : Int) % 256) = ((t % 256 : Nat) : Int) by omega, h]
  omega
theorem and127 (t : Nat) : Go.bits .and .u8 ((t : Int) % 256) 127 = ((t % 128 : Nat) : Int) := by
  have h := and127a ⟨t % 256, by omega⟩
  simp only at h
  rw [show ((t : Int) % 256) = ((t % 256 : Nat) : Int) by omega, h]
  omega
/-- What is put on a group: that more come. -/
def off7 (j : Nat) : Nat := if j = 0 then 0 else 128
def cs (l : List Nat) : List Int := l.map fun a : Nat => (a : Int)
theorem shr7 (n j : Nat) (hj : j ≤ 9) : shr .u64 (n : Int) (7 * (j : Int)) = ((n / 128 ^ j : Nat) : Int) := by
  unfold shr
  rw [show (7 * (j : Int)).toNat = 7 * j by omega, show IntKind.bits .u64 = 64 from rfl, Nat.min_eq_left (by omega), Int.pow_mul, show (2 : Int) ^ 7 = 128 by decide]
  simp
theorem shr8 (n j : Nat) (hj : j ≤ 8) : shr .u64 (n : Int) (8 * (j : Int)) = ((n / 256 ^ j : Nat) : Int) := by
  unfold shr
  rw [show (8 * (j : Int)).toNat = 8 * j by omega, show IntKind.bits .u64 = 64 from rfl, Nat.min_eq_left (by omega), Int.pow_mul, show (2 : Int) ^ 8 = 256 by decide]
  simp
theorem clone_eq (l : List Int) (h : l.length < 17592186044416) : slices_Clone_byte_byte.f l = some l := by unfold slices_Clone_byte_byte.f; rw [if_pos h]
theorem G_lt (B : Nat) (off : Nat → Nat) (h : ∀ (m j : Nat), m % B + off j < 256) (n : Nat) : ∀ j, ∀ a ∈ G B off j n, a < 256
  | 0, a, ha => by
    simp only [G, List.mem_singleton] at ha
    subst ha
    exact h n 0
  | j + 1, a, ha => by
    simp only [G, List.mem_cons] at ha
    rcases ha with rfl | ha
    · exact h _ _
    · exact G_lt B off h n j a ha
theorem off7_lt (m j : Nat) : m % 128 + off7 j < 256 := by
  unfold off7
  split <;> omega
theorem zero_lt (m j : Nat) : m % 256 + (fun _ => 0) j < 256 := by
  show m % 256 + 0 < 256
  omega
theorem bytes_inj : ∀ (x y : List Nat), (∀ a ∈ x, a < 256) → (∀ a ∈ y, a < 256) → (strOfNums (cs x)).toList = (strOfNums (cs y)).toList → x = y := by
  intro x y hx hy h
  unfold cs at h
  rw [Go.Lib.strOfNums_toList, Go.Lib.strOfNums_toList] at h
  induction x generalizing y with
  | nil => cases y with
    | nil => rfl
    | cons b y => simp [Go.Lib.bytesOf] at h
  | cons a x ih =>
    cases y with
    | nil => simp [Go.Lib.bytesOf] at h
    | cons b y =>
      have h1 := hx a (by simp)
      have h2 := hy b (by simp)
      simp only [Go.Lib.bytesOf, List.map_cons, List.cons.injEq] at h
      have i := ih y (fun c hc => hx c (by simp [hc])) (fun c hc => hy c (by simp [hc])) h.2
      have e := UInt8.toNat_inj.2 h.1
      rw [Int.toNat_natCast, Int.toNat_natCast, UInt8.toNat_ofNat', UInt8.toNat_ofNat', Nat.mod_eq_of_lt h1, Nat.mod_eq_of_lt h2] at e
      rw [e, i]
end Go.Proofs.Ytcbjbgleflbpmaa.Wire
/- Numbers written as bytes, and read (layer 2), as printed: what each function answers, by WireSpec. -/
namespace Go.Proofs.Ytcbjbgleflbpmaa.Wire2
open Go Go.RowKit Go.Proofs.Ytcbjbgleflbpmaa.Print Go.Proofs.YtcbjbgleflbpmaaW.PrintWords Go.Proofs.YtcbjbgleflbpmaaW.PrintLast Go.Proofs.YtcbjbgleflbpmaaW.PrintMore Go.Proofs.Ytcbjbgleflbpmaa.Len64 Go.Proofs.Ytcbjbgleflbpmaa.Digits Go.Proofs.Ytcbjbgleflbpmaa.Wire Go.Proofs.Ytcbjbgleflbpmaa.WireSpec
def C : Nat → Nat → List Nat
  | 0, m => [m % 128 + 128]
  | j + 1, m => (m / 128 ^ (j + 1) % 128 + 128) :: C j m
theorem C_snoc (j : Nat) : ∀ m, C (j + 1) m = C j (m / 128) ++ [m % 128 + 128] := by
  induction j with
  | zero => intro m; simp [C]
  | succ j ih =>
    intro m
    rw [C, ih m]
    show _ = ((m / 128) / 128 ^ (j + 1) % 128 + 128) :: C j (m / 128) ++ [m % 128 + 128]
    rw [Nat.div_div_eq_div_mul, Nat.mul_comm 128, ← Nat.pow_succ]
    rfl
theorem C_vc (j : Nat) : ∀ m, m < 128 ^ (j + 1) → (j = 0 ∨ 128 ^ j ≤ m) → C j m = vc m := by
  induction j with
  | zero =>
    intro m h _
    have h : m < 128 := by simpa using h
    rw [vc_small h, C, Nat.mod_eq_of_lt h]
  | succ j ih =>
    intro m h h2
    have h2 : 128 ^ (j + 1) ≤ m := by omega
    have h3 : 128 ^ 1 ≤ 128 ^ (j + 1) := Nat.pow_le_pow_right (by decide) (by omega)
    rw [C_snoc, vc_step (by omega), ih (m / 128) (by rw [Nat.pow_succ] at h; omega) (Or.inr (by rw [Nat.pow_succ] at h2; omega))]
theorem G_C (j : Nat) : ∀ n, G 128 off7 (j + 1) n = C j (n / 128) ++ [n % 128] := by
  induction j with
  | zero => intro n; simp [C, G, off7]
  | succ j ih =>
    intro n
    rw [G, ih n]
    show _ = ((n / 128) / 128 ^ (j + 1) % 128 + 128) :: C j (n / 128) ++ [n % 128]
    rw [Nat.div_div_eq_div_mul, Nat.mul_comm 128, ← Nat.pow_succ]
    rfl
theorem G_vb (j n : Nat) (h : n < 128 ^ (j + 1)) (h2 : j = 0 ∨ 128 ^ j ≤ n) : G 128 off7 j n = vb n := by
  cases j with
  | zero =>
    have h : n < 128 := by simpa using h
    rw [vb_small h, G, Nat.mod_eq_of_lt h]
    rfl
  | succ j =>
    have h2 : 128 ^ (j + 1) ≤ n := by omega
    have h3 : 128 ^ 1 ≤ 128 ^ (j + 1) := Nat.pow_le_pow_right (by decide) (by omega)
    rw [G_C, vb_step (by omega), C_vc j (n / 128) (by rw [Nat.pow_succ] at h; omega) ?_]
    by_cases e : j = 0
    · exact Or.inl e
    · exact Or.inr (by rw [Nat.pow_succ] at h2; omega)
theorem cs_append (l m : List Nat) : cs (l ++ m) = cs l ++ cs m := by unfold cs; rw [List.map_append]
theorem cs_len (l : List Nat) : (cs l).length = l.length := by unfold cs; rw [List.length_map]
theorem cs_drop (l : List Nat) (n : Nat) : (cs l).drop n = cs (l.drop n) := by unfold cs; rw [List.map_drop]
theorem cs_take (l : List Nat) (n : Nat) : (cs l).take n = cs (l.take n) := by unfold cs; rw [List.map_take]
theorem cs_one (n : Nat) : [(n : Int)] = cs [n] := rfl
theorem cs_rd (l : List Nat) (i : Nat) : rd (cs l) (i : Int) = ((l.getD i 0 : Nat) : Int) := by
  unfold rd cs
  rw [Int.toNat_natCast, List.getD_eq_getElem?_getD, List.getD_eq_getElem?_getD, List.getElem?_map]
  cases l[i]? <;> rfl
theorem cs_inj {l m : List Nat} (h : cs l = cs m) : l = m := by
  unfold cs at h
  induction l generalizing m with
  | nil => cases m with
    | nil => rfl
    | cons b m => simp at h
  | cons a l ih =>
    cases m with
    | nil => simp at h
    | cons b m =>
      simp only [List.map_cons, List.cons.injEq] at h
      rw [ih h.2, show a = b by omega]
/-- Bytes that came in are a list of numbers below 256. -/
theorem bytes_of {l : List Int} (h : ∀ y ∈ l, (Lit.int .u8 y).wf = true) : ∃ m : List Nat, l = cs m ∧ By m := by
  refine ⟨l.map Int.toNat, ?_, ?_⟩
  · unfold cs
    rw [List.map_map]
    have : ∀ y ∈ l, ((fun a : Nat => (a : Int)) ∘ Int.toNat) y = y := by
      intro y hy
      have h : 0 ≤ y ∧ y ≤ 255 := by simpa [Lit.wf, IntKind.min, IntKind.max, IntKind.signed, IntKind.bits] using h y hy
      show ((y.toNat : Nat) : Int) = y
      omega
    rw [List.map_congr_left this, List.map_id']
  · intro x hx
    obtain ⟨y, hy, rfl⟩ := List.mem_map.1 hx
    have h : 0 ≤ y ∧ y ≤ 255 := by simpa [Lit.wf, IntKind.min, IntKind.max, IntKind.signed, IntKind.bits] using h y hy
    omega
theorem clone_cs (l : List Nat) (h : l.length < 17592186044416) : slices_Clone_byte_byte.f (cs l) = some (cs l) := clone_eq _ (by rw [cs_len]; exact h)
/-- The same, the document's way. -/
theorem last_set (l : List Nat) (x v : Nat) : (l ++ [x]).set l.length v = l ++ [v] := by
  rw [List.set_append_right _ _ (Nat.le_refl _), Nat.sub_self]
  rfl
theorem vb_last (m : Nat) : ∃ (l : List Nat) (x : Nat), vb m = l ++ [x] ∧ vc m = l ++ [x + 128] ∧ x < 128 := by
  by_cases h : m < 128
  · exact ⟨[], m, by rw [vb_small h]; rfl, by rw [vc_small h]; rfl, h⟩
  · exact ⟨vc (m / 128), m % 128, vb_step h, vc_step h, by omega⟩
/-- Many numbers, one behind the other. -/
def vbs (l : List Nat) : List Nat := (l.map vb).flatten
theorem vbs_by (l : List Nat) : By (vbs l) := by
  intro x hx
  unfold vbs at hx
  rw [List.mem_flatten] at hx
  obtain ⟨m, hm, hx⟩ := hx
  obtain ⟨n, _, rfl⟩ := List.mem_map.1 hm
  exact vb_by n x hx
theorem vbs_cons (n : Nat) (l : List Nat) : vbs (n :: l) = vb n ++ vbs l := rfl
theorem vbs_len (l : List Nat) (h : ∀ n ∈ l, n < 18446744073709551616) : (vbs l).length ≤ 10 * l.length := by
  induction l with
  | nil => simp [vbs]
  | cons n l ih =>
    rw [vbs_cons, List.length_append, List.length_cons]
    have := ih fun m hm => h m (by simp [hm])
    have := vb_len10 (h n (by simp))
    omega
theorem drop_cons (xs : List Nat) (i : Nat) (h : i < xs.length) : xs.drop i = xs.getD i 0 :: xs.drop (i + 1) := by
  rw [List.drop_eq_getElem_cons h, List.getD_eq_getElem?_getD, List.getElem?_eq_getElem h]
  rfl
theorem getD_mem (xs : List Nat) (i : Nat) (h : i < xs.length) : xs.getD i 0 ∈ xs := by
  rw [List.getD_eq_getElem?_getD, List.getElem?_eq_getElem h]
  exact List.getElem_mem h
/-- Reading one. -/
def res (a : Int) (d : Nat × Nat × Nat) : Int × Int × Int := if d.2.2 = 0 then ((d.1 : Int), a + d.2.1, 0) else (0, 0, (d.2.2 : Int))
theorem and127' (c : Nat) (h : c < 256) : Go.bits .and .u8 (c : Int) 127 = ((c % 128 : Nat) : Int) := and127a ⟨c, h⟩
theorem and128a : ∀ i : Fin 256, Go.bits .and .u8 (i.val : Int) 128 = (if i.val < 128 then 0 else 128) := by decide +kernel
theorem and128 (c : Nat) (h : c < 256) : Go.bits .and .u8 (c : Int) 128 = (if c < 128 then 0 else 128) := and128a ⟨c, h⟩
theorem u64_in {x : Int} (h : 0 ≤ x) (h2 : x < 18446744073709551616) : IntKind.u64.wrap x = x := by
  simp only [IntKind.wrap, IntKind.bits, IntKind.signed]
  simp
  omega
theorem or7 (n c : Nat) (hn : n < 144115188075855872) (hc : c < 128) : Go.bits .or .u64 (IntKind.u64.wrap ((n : Int) * 128)) (IntKind.u64.wrap (c : Int)) = ((n * 128 + c : Nat) : Int) := by
  rw [u64_in (by omega) (by omega), u64_in (by omega) (by omega), show (n : Int) * 128 = ((n * 128 : Nat) : Int) by omega]
  show IntKind.u64.wrap (((BitVec.ofInt 64 ((n * 128 : Nat) : Int)) ||| (BitVec.ofInt 64 (c : Int))).toNat : Int) = _
  rw [BitVec.ofInt_natCast, BitVec.ofInt_natCast, BitVec.toNat_or, BitVec.toNat_ofNat, BitVec.toNat_ofNat, Nat.mod_eq_of_lt (by omega), Nat.mod_eq_of_lt (by omega)]
  have e := Nat.shiftLeft_add_eq_or_of_lt (i := 7) (show c < 2 ^ 7 by omega) n
  rw [Nat.shiftLeft_eq] at e
  rw [show n * 128 = n * 2 ^ 7 by omega, ← e, u64_in (by omega) (by omega)]
theorem len57 {k : Nat} (hk : 2 ≤ k) (n : Nat) (hn : n < 18446744073709551616) : ∃ L : Int, bits_Len64.f k (n : Int) = some L ∧ (decide (L > 57) = decide (144115188075855872 ≤ n)) := by
  obtain ⟨k, rfl⟩ : ∃ m, k = m + 1 := ⟨k - 1, by omega⟩
  by_cases h0 : n = 0
  · subst h0
    exact ⟨0, len_zero (by omega), by decide⟩
  · obtain ⟨L, e, l1, l2, l3, l4⟩ := len_eq (k := k) (x := (n : Int)) (by omega) (by omega)
    refine ⟨L, e, ?_⟩
    rw [decide_eq_decide]
    constructor
    · intro h
      have : (2 : Int) ^ 57 ≤ 2 ^ (L - 1) := by
        have := Nat.pow_le_pow_right (n := 2) (by decide) (show 57 ≤ L - 1 by omega)
        exact_mod_cast this
      have e57 : (2 : Int) ^ 57 = 144115188075855872 := by decide
      omega
    · intro h
      by_cases c : 57 < L
      · omega
      · have : (2 : Int) ^ (L - 1) ≤ 2 ^ 56 := by
          have := Nat.pow_le_pow_right (n := 2) (by decide) (show L - 1 ≤ 56 by omega)
          exact_mod_cast this
        have e56 : (2 : Int) ^ 56 = 72057594037927936 := by decide
        omega
theorem TakeVary_l0 (a : Int) (l : List Nat) (hl : By l) (hn : l.length ≤ 1000000000000) (ha : -1000000000000 ≤ a ∧ a ≤ 4000000000000000000) (d : Nat) : ∀ (k i n : Nat), i ≤ l.length → l.length - i = d → 2 * d + 10 ≤ k → n < 18446744073709551616 →
    wire_TakeVary.l0 k a (n : Int) (cs l) (l.length : Int) (i : Int) = some (res a (dv n i (l.drop i))) := by
  induction d with
  | zero =>
    intro k i n hi hd hk h0
    obtain ⟨k, rfl⟩ : ∃ m, k = m + 1 := ⟨k - 1, by omega⟩
    simp only [wire_TakeVary.l0]
    rw [if_neg (by omega), List.drop_of_length_le (by omega)]
    rfl
  | succ d ih =>
    intro k i n hi hd hk h0
    obtain ⟨k, rfl⟩ : ∃ m, k = m + 2 := ⟨k - 2, by omega⟩
    have hlt : i < l.length := by omega
    have hc : l.getD i 0 < 256 := hl _ (getD_mem l i hlt)
    obtain ⟨L, eL, dL⟩ := len57 (k := k + 1) (by omega) n h0
    rw [drop_cons l i hlt]
    simp only [wire_TakeVary.l0]
    rw [if_pos (by omega), if_pos (by omega), cs_len, if_pos (by omega), cs_rd]
    generalize hcc : l.getD i 0 = c at *
    have key : ∀ bad : Bool, bad = decide (i = 0 ∧ c = 128 ∨ 144115188075855872 ≤ n) → wire_TakeVary.j1 (k + 1) a n i c (cs l) (l.length) i bad = some (res a (dv n i (c :: l.drop (i + 1)))) := by
      intro bad hb
      simp only [wire_TakeVary.j1]
      by_cases hB : i = 0 ∧ c = 128 ∨ 144115188075855872 ≤ n
      · rw [hb, decide_eq_true hB, if_pos rfl, dv_bad hB]
        rfl
      · rw [hb, decide_eq_false hB, if_neg (by decide), and128 c hc, and127' c hc, or7 n _ (by omega) (by omega)]
        by_cases h2 : c < 128
        · rw [if_pos h2, if_pos rfl, dv_end hB h2, w64 (x := a + (i : Int)) (by omega) (by omega), w64 (by omega) (by omega), Nat.mod_eq_of_lt h2]
          unfold res
          rw [if_pos rfl]
          simp only [Option.some.injEq, Prod.mk.injEq]
          exact ⟨trivial, by omega, trivial⟩
        · rw [if_neg h2, if_neg (by decide), dv_more hB h2, w64 (by omega) (by omega), show (i : Int) + 1 = ((i + 1 : Nat) : Int) by omega, show c % 128 = c - 128 by omega, ih k (i + 1) _ (by omega) (by omega) (by omega) (by omega)]
    by_cases hi0 : i = 0
    · rw [if_pos (by omega)]
      by_cases h128 : c = 128
      · rw [if_pos (by omega)]
        exact key true (by rw [eq_comm, decide_eq_true_eq]; exact Or.inl ⟨hi0, h128⟩)
      · rw [if_neg (by omega), eL, Option.bind_some]
        refine key _ ?_
        rw [dL, decide_eq_decide]
        omega
    · rw [if_neg (by omega), eL, Option.bind_some]
      refine key _ ?_
      rw [dL, decide_eq_decide]
      omega
theorem TakeVary_eq {k : Nat} (l : List Nat) (hl : By l) (hn : l.length ≤ 1000000000000) (a : Nat) (hk : 2 * l.length + 20 ≤ k) : wire_TakeVary.f k (cs l) (a : Int) = some (res a (dv 0 0 (l.drop a))) := by
  unfold wire_TakeVary.f
  rw [if_neg (by omega), cs_len]
  have hm : mn (a : Int) (l.length : Int) = ((min a l.length : Nat) : Int) := by
    unfold mn
    split <;> omega
  rw [hm, if_pos (by omega), if_pos (by omega), Int.toNat_natCast, cs_drop, cs_len]
  by_cases h : a ≤ l.length
  · have := TakeVary_l0 a (l.drop (min a l.length)) (hl.drop _) (by rw [List.length_drop]; omega) (by omega) (l.drop (min a l.length)).length k 0 0 (by omega) (by omega) (by rw [List.length_drop]; omega) (by decide)
    rw [show ((0 : Nat) : Int) = 0 from rfl, List.drop_zero] at this
    rw [this, Nat.min_eq_left h]
  · rw [Nat.min_eq_right (by omega), List.drop_of_length_le (Nat.le_refl _), List.drop_of_length_le (by omega)]
    obtain ⟨k, rfl⟩ : ∃ m, k = m + 1 := ⟨k - 1, by omega⟩
    simp only [wire_TakeVary.l0]
    rw [if_neg (by simp)]
    rfl
theorem TakeVary_neg {k : Nat} (l : List Int) (a : Int) (h : a < 0) : wire_TakeVary.f k l a = some (0, 0, 1) := by
  unfold wire_TakeVary.f
  rw [if_pos h]
end Go.Proofs.Ytcbjbgleflbpmaa.Wire2
/- Signed numbers, numbers of a width, records (layer 2), as printed: what each function answers. -/
namespace Go.Proofs.Ytcbjbgleflbpmaa.Wire3
open Go Go.RowKit Go.Proofs.Ytcbjbgleflbpmaa.Print Go.Proofs.YtcbjbgleflbpmaaW.PrintWords Go.Proofs.YtcbjbgleflbpmaaW.PrintLast Go.Proofs.YtcbjbgleflbpmaaW.PrintMore Go.Proofs.Ytcbjbgleflbpmaa.Len64 Go.Proofs.Ytcbjbgleflbpmaa.Digits Go.Proofs.Ytcbjbgleflbpmaa.Wire Go.Proofs.Ytcbjbgleflbpmaa.WireSpec Go.Proofs.Ytcbjbgleflbpmaa.Wire2
theorem u64_mod (x : Int) : IntKind.u64.wrap x = x % 18446744073709551616 := by
  simp only [IntKind.wrap, IntKind.bits, IntKind.signed]
  simp
def ress (a : Int) (d : Nat × Nat × Nat) : Int × Int × Int := if d.2.2 = 0 then (uz d.1, a + d.2.1, 0) else (0, 0, (d.2.2 : Int))
theorem and1 (n : Nat) (h : n < 18446744073709551616) : Go.bits .and .u64 (n : Int) 1 = ((n % 2 : Nat) : Int) := by
  show IntKind.u64.wrap (((BitVec.ofInt 64 (n : Int)) &&& (BitVec.ofInt 64 1)).toNat : Int) = _
  rw [BitVec.toNat_and, show (BitVec.ofInt 64 1).toNat = 2 ^ 1 - 1 by decide, Nat.and_two_pow_sub_one_eq_mod, BitVec.ofInt_natCast, BitVec.toNat_ofNat, Nat.mod_eq_of_lt h, u64_in (by omega) (by omega)]
theorem uz_eq (n : Nat) (h : n < 18446744073709551616) : Go.bits .xor .i64 (wrap64 ((n : Int) / 2)) (wrap64 (-(wrap64 (Go.bits .and .u64 (n : Int) 1)))) = uz n := by
  rw [and1 n h, w64 (x := (n : Int) / 2) (by omega) (by omega), w64 (x := ((n % 2 : Nat) : Int)) (by omega) (by omega), w64 (by omega) (by omega)]
  unfold uz
  by_cases c : n % 2 = 1
  · rw [if_pos c, c]
    show IntKind.i64.wrap (((BitVec.ofInt 64 ((n : Int) / 2)) ^^^ (BitVec.ofInt 64 (-((1 : Nat) : Int)))).toNat : Int) = _
    rw [show BitVec.ofInt 64 (-((1 : Nat) : Int)) = BitVec.allOnes 64 by decide, BitVec.xor_allOnes, BitVec.toNat_not, BitVec.toNat_ofInt]
    simp only [IntKind.wrap, IntKind.bits, IntKind.signed]
    simp
    omega
  · rw [if_neg c, show n % 2 = 0 by omega]
    show IntKind.i64.wrap (((BitVec.ofInt 64 ((n : Int) / 2)) ^^^ (BitVec.ofInt 64 (-((0 : Nat) : Int)))).toNat : Int) = _
    rw [show BitVec.ofInt 64 (-((0 : Nat) : Int)) = 0#64 by decide, BitVec.xor_zero, BitVec.toNat_ofInt]
    simp only [IntKind.wrap, IntKind.bits, IntKind.signed]
    simp
    omega
theorem TakeSign_eq {k : Nat} (l : List Nat) (hl : By l) (hn : l.length ≤ 1000000000000) (a : Nat) (hk : 2 * l.length + 20 ≤ k) : wire_TakeSign.f k (cs l) (a : Int) = some (ress a (dv 0 0 (l.drop a))) := by
  unfold wire_TakeSign.f
  rw [TakeVary_eq l hl hn a hk, Option.bind_some]
  rcases hd : dv 0 0 (l.drop a) with ⟨n, c, e⟩
  unfold res ress
  by_cases h : e = 0
  · subst h
    have hb := (dv_bound (l.drop a) 0 0 n c (hl.drop a) hd).2.2
    simp only [if_true]
    rw [uz_eq _ hb]
  · simp only
    rw [if_neg h, if_neg h]
    simp only
    rw [if_neg (by omega)]
end Go.Proofs.Ytcbjbgleflbpmaa.Wire3
/- Numbers of a width, and records (layer 2), as printed: what each function answers. -/
namespace Go.Proofs.Ytcbjbgleflbpmaa.Wire4
open Go Go.RowKit Go.Proofs.Ytcbjbgleflbpmaa.Print Go.Proofs.YtcbjbgleflbpmaaW.PrintWords Go.Proofs.YtcbjbgleflbpmaaW.PrintLast Go.Proofs.YtcbjbgleflbpmaaW.PrintMore Go.Proofs.Ytcbjbgleflbpmaa.Len64 Go.Proofs.Ytcbjbgleflbpmaa.Digits Go.Proofs.Ytcbjbgleflbpmaa.Wire Go.Proofs.Ytcbjbgleflbpmaa.WireSpec Go.Proofs.Ytcbjbgleflbpmaa.Wire2 Go.Proofs.Ytcbjbgleflbpmaa.Wire3
/-- A number's bytes, of a width. -/
def fx (w n : Nat) : List Nat := G 256 (fun _ => 0) (w - 1) n
theorem fx_len (w n : Nat) (h : 1 ≤ w) : (fx w n).length = w := by
  unfold fx
  rw [G_len]
  omega
theorem fx_by (w n : Nat) : By (fx w n) := fun x hx => G_lt 256 _ zero_lt n _ x hx
/-- A number of a width may be written. -/
def fxOk (w : Int) (n : Nat) : Prop := 1 ≤ w ∧ w ≤ 8 ∧ n < 256 ^ w.toNat
instance (w : Int) (n : Nat) : Decidable (fxOk w n) := by unfold fxOk; infer_instance
theorem pow256 (w : Nat) : 2 ^ (8 * w) = 256 ^ w := by rw [Nat.pow_mul]
end Go.Proofs.Ytcbjbgleflbpmaa.Wire4
/- Records (layer 2) on lists of numbers: one's measures, and all. Plain facts, without the program. -/
namespace Go.Proofs.Ytcbjbgleflbpmaa.Recs
open Go.Proofs.Ytcbjbgleflbpmaa.WireSpec
/-- A record at a text's beginning: its head's length, its body's, and what is wrong. -/
def sp1 (t : List Nat) : Nat × Nat × Nat :=
  match t with
  | [] => (0, 0, 3)
  | _ :: r => if (dv 0 0 r).2.2 ≠ 0 then (0, 0, (dv 0 0 r).2.2) else if 1048576 < (dv 0 0 r).1 then (0, 0, 6) else if r.length - (dv 0 0 r).2.1 < (dv 0 0 r).1 then (0, 0, 3) else (1 + (dv 0 0 r).2.1, (dv 0 0 r).1, 0)
theorem sp1_ok {t : List Nat} (ht : By t) {h n : Nat} (e : sp1 t = (h, n, 0)) : ∃ kd r, t = kd :: r ∧ dv 0 0 r = (n, h - 1, 0) ∧ 2 ≤ h ∧ n ≤ 1048576 ∧ h + n ≤ t.length := by
  cases t with
  | nil => simp [sp1] at e
  | cons kd r =>
    refine ⟨kd, r, rfl, ?_⟩
    rcases hd : dv 0 0 r with ⟨a, c, x⟩
    simp only [sp1, hd] at e
    by_cases h1 : x ≠ 0
    · rw [if_pos h1] at e
      simp only [Prod.mk.injEq] at e
      omega
    rw [if_neg h1] at e
    have h1 : x = 0 := by omega
    subst h1
    by_cases h2 : 1048576 < a
    · rw [if_pos h2] at e
      simp at e
    rw [if_neg h2] at e
    by_cases h3 : r.length - c < a
    · rw [if_pos h3] at e
      simp at e
    rw [if_neg h3] at e
    simp only [Prod.mk.injEq] at e
    obtain ⟨rfl, rfl, _⟩ := e
    have := dv_bound r 0 0 a c ht.tail hd
    refine ⟨by rw [show 1 + c - 1 = c by omega], by omega, by omega, ?_⟩
    rw [List.length_cons]
    omega
theorem sp1_shape {t : List Nat} : (sp1 t).2.2 = 0 ∨ ∃ x, sp1 t = (0, 0, x) ∧ (x = 3 ∨ x = 4 ∨ x = 6) := by
  cases t with
  | nil => exact Or.inr ⟨3, rfl, Or.inl rfl⟩
  | cons kd r =>
    rcases hd : dv 0 0 r with ⟨a, c, x⟩
    simp only [sp1, hd]
    have hx := dv_errs r 0 0
    rw [hd] at hx
    by_cases h1 : x ≠ 0
    · rw [if_pos h1]
      refine Or.inr ⟨x, rfl, ?_⟩
      rcases hx with h | h | h
      · exact absurd h h1
      · simp only [Prod.mk.injEq] at h
        omega
      · simp only [Prod.mk.injEq] at h
        omega
    rw [if_neg h1]
    by_cases h2 : 1048576 < a
    · rw [if_pos h2]
      exact Or.inr ⟨6, rfl, Or.inr (Or.inr rfl)⟩
    rw [if_neg h2]
    by_cases h3 : r.length - c < a
    · rw [if_pos h3]
      exact Or.inr ⟨3, rfl, Or.inl rfl⟩
    · rw [if_neg h3]
      exact Or.inl rfl
/-- More bytes behind change nothing, but where some are lacking. -/
theorem sp1_append {t : List Nat} (ht : By t) (u : List Nat) (h : (sp1 t).2.2 ≠ 3) : sp1 (t ++ u) = sp1 t := by
  cases t with
  | nil => exact absurd rfl h
  | cons kd r =>
    rw [List.cons_append]
    by_cases h0 : (dv 0 0 r).2.2 = 3
    · exfalso
      apply h
      simp only [sp1]
      rw [if_pos (by rw [h0]; decide)]
      exact h0
    have e := dv_append r u 0 0 h0
    simp only [sp1]
    rw [e]
    rcases hd : dv 0 0 r with ⟨a, c, x⟩
    simp only [sp1, hd] at h
    simp only
    by_cases h1 : x ≠ 0
    · rw [if_pos h1, if_pos h1]
    rw [if_neg h1] at h
    rw [if_neg h1, if_neg h1]
    by_cases h2 : 1048576 < a
    · rw [if_pos h2, if_pos h2]
    rw [if_neg h2] at h
    rw [if_neg h2, if_neg h2]
    by_cases h3 : r.length - c < a
    · rw [if_pos h3] at h
      exact absurd rfl h
    rw [if_neg h3, if_neg (by rw [List.length_append]; omega)]
/-- All records, by so many rounds. -/
def recs : Nat → List Nat → List (List Nat) × Nat
  | 0, _ => ([], 0)
  | f + 1, t => if t = [] then ([], 0) else if (sp1 t).2.2 ≠ 0 then ([], (sp1 t).2.2) else if (recs f (t.drop ((sp1 t).1 + (sp1 t).2.1))).2 ≠ 0 then ([], (recs f (t.drop ((sp1 t).1 + (sp1 t).2.1))).2) else (t.take ((sp1 t).1 + (sp1 t).2.1) :: (recs f (t.drop ((sp1 t).1 + (sp1 t).2.1))).1, 0)
theorem recs_nil (f : Nat) : recs f [] = ([], 0) := by
  cases f with
  | zero => rfl
  | succ f => rw [recs, if_pos rfl]
theorem recs_bad {f : Nat} {t : List Nat} (h : t ≠ []) (h2 : (sp1 t).2.2 ≠ 0) : recs (f + 1) t = ([], (sp1 t).2.2) := by rw [recs, if_neg h, if_pos h2]
theorem recs_step {f : Nat} {t : List Nat} (h : t ≠ []) {a n : Nat} (h2 : sp1 t = (a, n, 0)) : recs (f + 1) t = if (recs f (t.drop (a + n))).2 ≠ 0 then ([], (recs f (t.drop (a + n))).2) else (t.take (a + n) :: (recs f (t.drop (a + n))).1, 0) := by
  rw [recs, if_neg h, h2]
  simp
theorem recs_fuel : ∀ (f g : Nat) (t : List Nat), By t → t.length ≤ f → t.length ≤ g → recs f t = recs g t := by
  intro f
  induction f with
  | zero =>
    intro g t ht h1 h2
    rw [List.eq_nil_of_length_eq_zero (l := t) (by omega), recs_nil, recs_nil]
  | succ f ih =>
    intro g t ht h1 h2
    by_cases h0 : t = []
    · rw [h0, recs_nil, recs_nil]
    have hp : 0 < t.length := List.length_pos_iff.2 h0
    obtain ⟨g, rfl⟩ : ∃ m, g = m + 1 := ⟨g - 1, by omega⟩
    by_cases hb : (sp1 t).2.2 = 0
    · rcases hs : sp1 t with ⟨a, n, x⟩
      rw [hs] at hb
      simp only at hb
      subst hb
      obtain ⟨kd, r, _, _, h3, _, h4⟩ := sp1_ok ht hs
      rw [recs_step h0 hs, recs_step h0 hs, ih g _ (ht.drop _) (by rw [List.length_drop]; omega) (by rw [List.length_drop]; omega)]
    · rw [recs_bad h0 hb, recs_bad h0 hb]
theorem recs_append_ok : ∀ (f : Nat) (t u : List Nat) (g : Nat), By t → By u → t.length ≤ f → u.length ≤ g → (recs f t).2 = 0 → recs (f + g) (t ++ u) = if (recs g u).2 ≠ 0 then ([], (recs g u).2) else ((recs f t).1 ++ (recs g u).1, 0) := by
  intro f
  induction f with
  | zero =>
    intro t u g ht hu h1 h2 h3
    rw [List.eq_nil_of_length_eq_zero (l := t) (by omega), List.nil_append, Nat.zero_add, recs]
    by_cases h : (recs g u).2 ≠ 0
    · rw [if_pos h]
      rcases hr : recs g u with ⟨x, e⟩
      rw [hr] at h
      cases g with
      | zero => simp [recs] at hr; omega
      | succ g =>
        by_cases h0 : u = []
        · rw [h0, recs_nil] at hr; simp at hr; omega
        by_cases hb : (sp1 u).2.2 = 0
        · rcases hs : sp1 u with ⟨a, n, y⟩
          rw [hs] at hb
          simp only at hb
          subst hb
          rw [recs_step h0 hs] at hr
          split at hr
          · rw [Prod.mk.injEq] at hr
            rw [← hr.1, ← hr.2]
          · rw [Prod.mk.injEq] at hr
            omega
        · rw [recs_bad h0 hb, Prod.mk.injEq] at hr
          rw [← hr.1, ← hr.2]
    · rw [if_neg h, List.nil_append]
      rcases hr : recs g u with ⟨x, e⟩
      rw [hr] at h
      simp only at h
      have : e = 0 := by omega
      rw [this]
  | succ f ih =>
    intro t u g ht hu h1 h2 h3
    by_cases h0 : t = []
    · subst h0
      rw [recs_nil, List.nil_append, List.nil_append, recs_fuel (f + 1 + g) (f + g) u hu (by omega) (by omega)]
      have := ih [] u g ht hu (by simp) h2 (by rw [recs_nil])
      rw [recs_nil, List.nil_append, List.nil_append] at this
      exact this
    have hp : 0 < t.length := List.length_pos_iff.2 h0
    by_cases hb : (sp1 t).2.2 = 0
    · rcases hs : sp1 t with ⟨a, n, x⟩
      rw [hs] at hb
      simp only at hb
      subst hb
      obtain ⟨kd, r, _, _, h4, _, h5⟩ := sp1_ok ht hs
      have hs2 : sp1 (t ++ u) = (a, n, 0) := by rw [sp1_append ht u (by rw [hs]; simp), hs]
      rw [recs_step h0 hs] at h3 ⊢
      have hr : (recs f (t.drop (a + n))).2 = 0 := by
        by_cases c : (recs f (t.drop (a + n))).2 = 0
        · exact c
        · rw [if_pos c] at h3
          exact h3
      have e3 : (if (recs f (t.drop (a + n))).2 ≠ 0 then ([], (recs f (t.drop (a + n))).2) else (t.take (a + n) :: (recs f (t.drop (a + n))).1, 0)) = (t.take (a + n) :: (recs f (t.drop (a + n))).1, 0) := if_neg (fun h => h hr)
      rw [e3, show f + 1 + g = (f + g) + 1 by omega, recs_step (by simp [h0]) hs2, List.drop_append_of_le_length h5, List.take_append_of_le_length h5, ih _ u g (ht.drop _) hu (by rw [List.length_drop]; omega) h2 hr]
      by_cases c : (recs g u).2 = 0
      · simp [c]
      · simp [c]
    · rw [recs_bad h0 hb] at h3
      exact absurd h3 hb
theorem recs_append_bad : ∀ (f : Nat) (t u : List Nat) (g : Nat), By t → By u → t.length ≤ f → (recs f t).2 ≠ 0 → (recs f t).2 ≠ 3 → (recs (f + g) (t ++ u)).2 = (recs f t).2 := by
  intro f
  induction f with
  | zero => intro t u g ht hu h1 h2 h3; exact absurd rfl h2
  | succ f ih =>
    intro t u g ht hu h1 h2 h3
    by_cases h0 : t = []
    · subst h0
      rw [recs_nil] at h2
      exact absurd rfl h2
    have hp : 0 < t.length := List.length_pos_iff.2 h0
    by_cases hb : (sp1 t).2.2 = 0
    · rcases hs : sp1 t with ⟨a, n, x⟩
      rw [hs] at hb
      simp only at hb
      subst hb
      obtain ⟨kd, r, _, _, h4, _, h5⟩ := sp1_ok ht hs
      have hs2 : sp1 (t ++ u) = (a, n, 0) := by rw [sp1_append ht u (by rw [hs]; simp), hs]
      rw [recs_step h0 hs] at h2 h3 ⊢
      have hr : (recs f (t.drop (a + n))).2 ≠ 0 := by
        intro c
        rw [if_neg (by omega)] at h2
        exact h2 rfl
      rw [if_pos hr] at h2 h3 ⊢
      have e := ih (t.drop (a + n)) u g (ht.drop _) hu (by rw [List.length_drop]; omega) hr h3
      rw [show f + 1 + g = (f + g) + 1 by omega, recs_step (by simp [h0]) hs2, List.drop_append_of_le_length h5, if_pos (by rw [e]; exact hr)]
      exact e
    · rw [recs_bad h0 hb] at h2 h3 ⊢
      have e := sp1_append ht u h3
      rw [show f + 1 + g = (f + g) + 1 by omega, recs_bad (by simp [h0]) (by rw [e]; exact hb), e]
theorem recs_err {f : Nat} {t : List Nat} (h : (recs f t).2 ≠ 0) : (recs f t).1 = [] := by
  cases f with
  | zero => rfl
  | succ f =>
    rw [recs] at h ⊢
    split
    · rfl
    · split
      · rfl
      · split
        · rfl
        · rename_i h1 h2 h3
          rw [if_neg h1, if_neg h2, if_neg h3] at h
          exact absurd rfl h
/-- All of them together are the text. -/
theorem recs_flat : ∀ (f : Nat) (t : List Nat), By t → t.length ≤ f → (recs f t).2 = 0 → (recs f t).1.flatten = t ∧ ∀ x ∈ (recs f t).1, 2 ≤ x.length := by
  intro f
  induction f with
  | zero =>
    intro t ht h1 h2
    rw [List.eq_nil_of_length_eq_zero (show t.length = 0 by omega), recs_nil]
    simp
  | succ f ih =>
    intro t ht h1 h2
    by_cases h0 : t = []
    · subst h0
      rw [recs_nil]
      simp
    by_cases hb : (sp1 t).2.2 = 0
    · rcases hs : sp1 t with ⟨a, n, x⟩
      rw [hs] at hb
      simp only at hb
      subst hb
      obtain ⟨kd, r, _, _, h4, _, h5⟩ := sp1_ok ht hs
      rw [recs_step h0 hs] at h2 ⊢
      have hr : (recs f (t.drop (a + n))).2 = 0 := by
        by_cases c : (recs f (t.drop (a + n))).2 = 0
        · exact c
        · rw [if_pos c] at h2
          exact h2
      have hp : 0 < t.length := List.length_pos_iff.2 h0
      obtain ⟨e1, e2⟩ := ih (t.drop (a + n)) (ht.drop _) (by rw [List.length_drop]; omega) hr
      rw [if_neg (by omega)]
      refine ⟨by rw [List.flatten_cons, e1, List.take_append_drop], ?_⟩
      intro x hx
      rcases List.mem_cons.1 hx with rfl | hx
      · rw [List.length_take]
        omega
      · exact e2 x hx
    · rw [recs_bad h0 hb] at h2
      exact absurd h2 hb
theorem recs_by : ∀ (f : Nat) (t : List Nat), By t → ∀ x ∈ (recs f t).1, By x := by
  intro f
  induction f with
  | zero => intro t ht x hx; cases hx
  | succ f ih =>
    intro t ht x hx
    rw [recs] at hx
    split at hx
    · cases hx
    · split at hx
      · cases hx
      · split at hx
        · cases hx
        · rcases List.mem_cons.1 hx with rfl | hx
          · exact ht.take _
          · exact ih _ (ht.drop _) x hx
end Go.Proofs.Ytcbjbgleflbpmaa.Recs
/- Records (layer 2), as printed: what each function answers. -/
namespace Go.Proofs.Ytcbjbgleflbpmaa.Wire5
open Go Go.RowKit Go.Proofs.Ytcbjbgleflbpmaa.Print Go.Proofs.YtcbjbgleflbpmaaW.PrintWords Go.Proofs.YtcbjbgleflbpmaaW.PrintLast Go.Proofs.YtcbjbgleflbpmaaW.PrintMore Go.Proofs.Ytcbjbgleflbpmaa.Len64 Go.Proofs.Ytcbjbgleflbpmaa.Digits Go.Proofs.Ytcbjbgleflbpmaa.Wire Go.Proofs.Ytcbjbgleflbpmaa.WireSpec Go.Proofs.Ytcbjbgleflbpmaa.Wire2 Go.Proofs.Ytcbjbgleflbpmaa.Wire3 Go.Proofs.Ytcbjbgleflbpmaa.Wire4 Go.Proofs.Ytcbjbgleflbpmaa.Recs
def sres (a : Int) (s : Nat × Nat × Nat) : Int × Int × Int := if s.2.2 = 0 then (a + s.1, a + s.1 + s.2.1, 0) else (0, 0, (s.2.2 : Int))
theorem span_eq {k : Nat} (l : List Nat) (hl : By l) (hn : l.length ≤ 100000000) (a : Nat) (hk : 2 * l.length + 30 ≤ k) : wire_span.f k (cs l) (a : Int) = some (sres a (sp1 (l.drop a))) := by
  unfold wire_span.f
  rw [if_neg (by omega), cs_len]
  by_cases h : (a : Int) ≥ (l.length : Int)
  · rw [if_pos h, List.drop_of_length_le (by omega)]
    rfl
  rw [if_neg h, w64 (by omega) (by omega), show (a : Int) + 1 = ((a + 1 : Nat) : Int) by omega, TakeVary_eq l hl (by omega) (a + 1) (by omega), Option.bind_some, drop_cons l a (by omega)]
  simp only [sp1]
  rcases hd : dv 0 0 (l.drop (a + 1)) with ⟨n, c, x⟩
  have hlen : (l.drop (a + 1)).length = l.length - (a + 1) := List.length_drop
  unfold res
  by_cases h1 : x = 0
  · subst h1
    have hb := dv_bound _ 0 0 n c (hl.drop _) hd
    simp only [if_true]
    rw [if_neg (show ¬ (0 : Nat) ≠ 0 by omega)]
    by_cases h2 : 1048576 < n
    · rw [if_pos (by omega), if_pos h2]
      rfl
    rw [if_neg (by omega), if_neg h2, w64 (x := (n : Int)) (by omega) (by omega), w64 (x := (l.length : Int) - _) (by omega) (by omega), hlen]
    by_cases h3 : l.length - (a + 1) - c < n
    · rw [if_pos (by omega), if_pos h3]
      rfl
    · rw [if_neg (by omega), if_neg h3, w64 (by omega) (by omega)]
      unfold sres
      rw [if_pos rfl]
      have e1 : ((a + 1 : Nat) : Int) + (c : Int) = (a : Int) + ((1 + c : Nat) : Int) := by omega
      rw [e1]
  · simp only
    rw [if_neg h1]
    simp only
    rw [if_neg (by omega), if_pos h1]
    unfold sres
    rw [if_neg h1]
theorem span_neg {k : Nat} (l : List Int) (a : Int) (h : a < 0) : wire_span.f k l a = some (0, 0, 1) := by
  unfold wire_span.f
  rw [if_pos h]
def tres (l : List Nat) (a : Nat) : Int × List Int × Int × Int := if (sp1 (l.drop a)).2.2 = 0 then (((l.getD a 0 : Nat) : Int), cs ((l.drop (a + (sp1 (l.drop a)).1)).take (sp1 (l.drop a)).2.1), ((a + ((sp1 (l.drop a)).1 + (sp1 (l.drop a)).2.1) : Nat) : Int), 0) else (0, [], 0, ((sp1 (l.drop a)).2.2 : Int))
theorem TakeRecord_eq {k : Nat} (l : List Nat) (hl : By l) (hn : l.length ≤ 100000000) (a : Nat) (hk : 2 * l.length + 30 ≤ k) : wire_TakeRecord.f k (cs l) (a : Int) = some (tres l a) := by
  unfold wire_TakeRecord.f
  rw [span_eq l hl hn a hk, Option.bind_some]
  unfold tres sres
  rcases hs : sp1 (l.drop a) with ⟨u, n, y⟩
  by_cases h1 : y = 0
  · subst h1
    obtain ⟨kd, r, _, _, h3, h4, h5⟩ := sp1_ok (hl.drop a) hs
    rw [List.length_drop] at h5
    simp only [if_true]
    rw [if_pos (by omega), cs_len, if_pos (by omega), if_pos (by omega), if_pos (by omega), if_pos (by omega), show ((a : Int) + (u : Int) + (n : Int)) = ((a + (u + n) : Nat) : Int) by omega, show ((a : Int) + (u : Int)) = ((a + u : Nat) : Int) by omega, Int.toNat_natCast, Int.toNat_natCast, cs_take, cs_drop, clone_cs _ (by rw [List.length_drop, List.length_take]; omega), Option.bind_some, cs_rd]
    rw [List.drop_take, show a + (u + n) - (a + u) = n by omega]
  · simp only
    rw [if_neg h1, if_neg h1]
    simp only
    rw [if_neg (by omega)]
end Go.Proofs.Ytcbjbgleflbpmaa.Wire5
/- The document's reading of a number (layer 2), as printed: the same answer as the code's. -/
namespace Go.Proofs.Ytcbjbgleflbpmaa.TakeRef
open Go Go.RowKit Go.Proofs.Ytcbjbgleflbpmaa.Print Go.Proofs.YtcbjbgleflbpmaaW.PrintWords Go.Proofs.YtcbjbgleflbpmaaW.PrintLast Go.Proofs.YtcbjbgleflbpmaaW.PrintMore Go.Proofs.Ytcbjbgleflbpmaa.Wire Go.Proofs.Ytcbjbgleflbpmaa.WireSpec Go.Proofs.Ytcbjbgleflbpmaa.Wire2 Go.Proofs.Ytcbjbgleflbpmaa.Wire3 Go.Proofs.Ytcbjbgleflbpmaa.Wire4
theorem w64 {x : Int} (h : -9223372036854775808 ≤ x) (h2 : x ≤ 9223372036854775807) : wrap64 x = x := by unfold wrap64; omega
theorem getD_by {l : List Nat} (h : By l) (i : Nat) : l.getD i 0 < 256 := by
  by_cases hk : i < l.length
  · rw [List.getD_eq_getElem?_getD, List.getElem?_eq_getElem hk]
    exact h _ (List.getElem_mem hk)
  · rw [List.getD_eq_getElem?_getD, List.getElem?_eq_none (by omega)]
    decide
theorem RTakeVary_l0 (l : List Nat) (hl : By l) (hn : l.length ≤ 1000000000000) (a : Nat) (d : Nat) : ∀ (k i n : Nat), a ≤ i → i ≤ l.length → l.length - i = d → n < 18446744073709551616 → 2 * d + 2 ≤ k → palletref02_TakeVary.l0 k (cs l) (a : Int) (n : Int) (i : Int) = some (res a (dv n (i - a) (l.drop i))) := by
  induction d with
  | zero =>
    intro k i n hai hil hd hnn hk
    obtain ⟨k, rfl⟩ : ∃ m, k = m + 1 := ⟨k - 1, by omega⟩
    rw [palletref02_TakeVary.l0, cs_len, if_neg (by omega), List.drop_of_length_le (by omega), dv_nil]
    rfl
  | succ d ih =>
    intro k i n hai hil hd hnn hk
    obtain ⟨k, rfl⟩ : ∃ m, k = (m + 1) + 1 := ⟨k - 2, by omega⟩
    have hc := getD_by hl i
    have bad : palletref02_TakeVary.j1 (k + 1) (cs l) (a : Int) (n : Int) (i : Int) true = some (0, 0, 4) := by
      rw [palletref02_TakeVary.j1, if_pos rfl]
    have good : ¬ (i - a = 0 ∧ l.getD i 0 = 128 ∨ 144115188075855872 ≤ n) → palletref02_TakeVary.j1 (k + 1) (cs l) (a : Int) (n : Int) (i : Int) false = some (res a (dv n (i - a) (l.drop i))) := by
      intro hb
      have hb2 : n < 144115188075855872 := by omega
      rw [palletref02_TakeVary.j1, if_neg (by decide), if_pos (by omega), cs_len, if_pos (by omega), cs_rd, Int.tmod_eq_emod_of_nonneg (by omega)]
      have e1 : IntKind.u64.wrap (IntKind.u64.wrap ((n : Int) * 128) + IntKind.u64.wrap (((l.getD i 0 : Nat) : Int) % 128)) = ((n * 128 + l.getD i 0 % 128 : Nat) : Int) := by
        rw [u64_in (x := (n : Int) * 128) (by omega) (by omega), u64_in (x := ((l.getD i 0 : Nat) : Int) % 128) (by omega) (by omega), u64_in (by omega) (by omega)]
        omega
      rw [e1, TakeRef.w64 (by omega) (by omega), drop_cons l i (by omega)]
      by_cases h : l.getD i 0 < 128
      · rw [if_pos (by omega), dv_end hb h, Nat.mod_eq_of_lt h]
        unfold res
        rw [if_pos rfl]
        simp only
        rw [show (i : Int) + 1 = (a : Int) + ((i - a + 1 : Nat) : Int) by omega]
      · rw [if_neg (by omega), dv_more hb h, show (i : Int) + 1 = ((i + 1 : Nat) : Int) by omega, ih k (i + 1) _ (by omega) (by omega) (by omega) (by omega) (by omega), show i + 1 - a = i - a + 1 by omega, show l.getD i 0 % 128 = l.getD i 0 - 128 by omega]
    have e57 : ((n : Int) / 144115188075855872 > 0) ↔ 144115188075855872 ≤ n := by omega
    rw [palletref02_TakeVary.l0, cs_len, if_pos (by omega)]
    by_cases hb : i - a = 0 ∧ l.getD i 0 = 128 ∨ 144115188075855872 ≤ n
    · have hres : some (res (a : Int) (dv n (i - a) (l.drop i))) = some (0, 0, 4) := by
        rw [drop_cons l i (by omega), dv_bad hb]
        rfl
      rw [hres]
      by_cases h1 : (i : Int) = a
      · rw [if_pos h1, if_pos (by omega), cs_rd]
        by_cases h2 : ((l.getD i 0 : Nat) : Int) = 128
        · rw [if_pos h2]
          exact bad
        · rw [if_neg h2, decide_eq_true (e57.2 (by omega))]
          exact bad
      · rw [if_neg h1, decide_eq_true (e57.2 (by omega))]
        exact bad
    · have g := good hb
      rw [← g]
      by_cases h1 : (i : Int) = a
      · rw [if_pos h1, if_pos (by omega), cs_rd, if_neg (by omega), decide_eq_false (fun q => hb (Or.inr (e57.1 q)))]
      · rw [if_neg h1, decide_eq_false (fun q => hb (Or.inr (e57.1 q)))]
theorem RTakeVary_eq {k : Nat} (l : List Nat) (hl : By l) (hn : l.length ≤ 1000000000000) (a : Nat) (ha : a ≤ l.length) (hk : 2 * l.length + 20 ≤ k) : palletref02_TakeVary.f k (cs l) (a : Int) = some (res a (dv 0 0 (l.drop a))) := by
  unfold palletref02_TakeVary.f
  have := RTakeVary_l0 l hl hn a (l.length - a) k a 0 (Nat.le_refl _) ha rfl (by decide) (by omega)
  rw [Nat.sub_self] at this
  rw [if_neg (by omega)]
  exact this
end Go.Proofs.Ytcbjbgleflbpmaa.TakeRef
