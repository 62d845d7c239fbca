/- Numbers as digits, the greatest first, and their order as texts: plain facts. -/
import Derived.IntWalk
import Derived.Lib.Bytes
import Derived.Test.YtogdelhofdelgaaPrint0
set_option linter.unusedVariables false
namespace Go.Proofs.Ytogdelhofdelgaa.Digits
open Go Go.Lib
/-- The j+1 lowest digits of n in base B, the greatest first, each with what is put on it. -/
def G (B : Nat) (off : Nat → Nat) : Nat → Nat → List Nat
  | 0, n => [n % B + off 0]
  | j + 1, n => ((n / B ^ (j + 1)) % B + off (j + 1)) :: G B off j n
theorem G_len (B : Nat) (off : Nat → Nat) (n : Nat) : ∀ j, (G B off j n).length = j + 1
  | 0 => rfl
  | j + 1 => by simp [G, G_len B off n j]
/-- Order of lists of numbers. -/
def lx : List Nat → List Nat → Bool
  | _, [] => false
  | [], _ :: _ => true
  | a :: x, b :: y => decide (a < b) || (a == b && lx x y)
theorem mod_top (B : Nat) (hB : 0 < B) (n j : Nat) : n % B ^ (j + 2) = (n / B ^ (j + 1) % B) * B ^ (j + 1) + n % B ^ (j + 1) := by
  rw [show j + 2 = (j + 1) + 1 from rfl, Nat.pow_succ B (j + 1), Nat.mod_mul]
  rw [Nat.mul_comm (B ^ (j + 1)), Nat.add_comm]
theorem lx_G (B : Nat) (hB : 0 < B) (off : Nat → Nat) (a b : Nat) : ∀ j, lx (G B off j a) (G B off j b) = decide (a % B ^ (j + 1) < b % B ^ (j + 1))
  | 0 => by
    simp only [G, lx, Nat.zero_add, Nat.pow_one, Bool.and_false, Bool.or_false]
    congr 1
    exact propext ⟨fun h => by omega, fun h => by omega⟩
  | j + 1 => by
    have hp : 0 < B ^ (j + 1) := Nat.pow_pos hB
    have ha := Nat.mod_lt a hp
    have hb := Nat.mod_lt b hp
    simp only [G, lx]
    rw [lx_G B hB off a b j, mod_top B hB a j, mod_top B hB b j]
    generalize a / B ^ (j + 1) % B = p
    generalize b / B ^ (j + 1) % B = q
    generalize a % B ^ (j + 1) = u at *
    generalize b % B ^ (j + 1) = v at *
    generalize B ^ (j + 1) = P at *
    rcases Nat.lt_trichotomy p q with h | h | h
    · have e1 : decide (p + off (j + 1) < q + off (j + 1)) = true := decide_eq_true (by omega)
      have e2 : p * P + u < q * P + v := by
        have := Nat.mul_le_mul_right P (show p + 1 ≤ q by omega)
        rw [Nat.add_mul, Nat.one_mul] at this
        omega
      rw [e1, decide_eq_true e2, Bool.true_or]
    · subst h
      have e1 : decide (p + off (j + 1) < p + off (j + 1)) = false := decide_eq_false (Nat.lt_irrefl _)
      rw [e1, beq_self_eq_true, Bool.false_or, Bool.true_and]
      congr 1
      exact propext ⟨fun h => by omega, fun h => by omega⟩
    · have e1 : decide (p + off (j + 1) < q + off (j + 1)) = false := decide_eq_false (by omega)
      have e3 : (p + off (j + 1) == q + off (j + 1)) = false := beq_eq_false_iff_ne.2 (by omega)
      have e2 : ¬ p * P + u < q * P + v := by
        have := Nat.mul_le_mul_right P (show q + 1 ≤ p by omega)
        rw [Nat.add_mul, Nat.one_mul] at this
        omega
      rw [e1, e3, decide_eq_false e2]
      rfl
theorem G_inj (B : Nat) (hB : 0 < B) (off : Nat → Nat) (a b j : Nat) (h : G B off j a = G B off j b) : a % B ^ (j + 1) = b % B ^ (j + 1) := by
  have h1 := lx_G B hB off a b j
  have h2 := lx_G B hB off b a j
  rw [h] at h1 h2
  have e := lx_G B hB off b b j
  rw [e] at h1 h2
  have h1 := of_decide_eq_false (h1.symm.trans (decide_eq_false (Nat.lt_irrefl _)))
  have h2 := of_decide_eq_false (h2.symm.trans (decide_eq_false (Nat.lt_irrefl _)))
  omega
theorem G_get (B : Nat) (off : Nat → Nat) (n : Nat) : ∀ (j i : Nat), i ≤ j → (G B off j n).getD i 0 = (n / B ^ (j - i)) % B + off (j - i)
  | 0, i, h => by
    obtain rfl : i = 0 := by omega
    simp [G]
  | j + 1, 0, h => by simp [G]
  | j + 1, i + 1, h => by
    have := G_get B off n j i (by omega)
    simp only [G, List.getD_cons_succ]
    rw [this, show j + 1 - (i + 1) = j - i by omega]
/-- The text's own order is the numbers'. -/
theorem less_lx : ∀ (x y : List Nat), (∀ a ∈ x, a < 256) → (∀ a ∈ y, a < 256) → Op.bytesLess (strOfNums (x.map (fun a : Nat => (a : Int)))).toList (strOfNums (y.map (fun a : Nat => (a : Int)))).toList = lx x y := by
  intro x y hx hy
  rw [strOfNums_toList, strOfNums_toList]
  induction x generalizing y with
  | nil => cases y <;> simp [bytesOf, Op.bytesLess, lx]
  | cons a x ih =>
    cases y with
    | nil => simp [bytesOf, Op.bytesLess, lx]
    | cons b y =>
      have h1 := hx a (by simp)
      have h2 := hy b (by simp)
      have i := ih y (fun c hc => hx c (by simp [hc])) (fun c hc => hy c (by simp [hc]))
      simp only [bytesOf, List.map_cons, Op.bytesLess, lx] at i ⊢
      rw [i]
      have u1 : (UInt8.ofNat (a : Int).toNat < UInt8.ofNat (b : Int).toNat) ↔ a < b := by
        rw [UInt8.lt_iff_toNat_lt, Int.toNat_natCast, Int.toNat_natCast, UInt8.toNat_ofNat', UInt8.toNat_ofNat', Nat.mod_eq_of_lt h1, Nat.mod_eq_of_lt h2]
      have u2 : (UInt8.ofNat (a : Int).toNat == UInt8.ofNat (b : Int).toNat) = (a == b) := by
        rw [Bool.eq_iff_iff, beq_iff_eq, beq_iff_eq, ← UInt8.toNat_inj, Int.toNat_natCast, Int.toNat_natCast, UInt8.toNat_ofNat', UInt8.toNat_ofNat', Nat.mod_eq_of_lt h1, Nat.mod_eq_of_lt h2]
      rw [u2]
      congr 1
      rw [decide_eq_decide]
      exact u1
end Go.Proofs.Ytogdelhofdelgaa.Digits
