/- Numbers as so many bytes of seven bits (layer 2): written and read, on lists of numbers. Plain facts, without the program. -/
import Derived.IntWalk
import Derived.Test.YtogdelhofdelgaaPrint0
set_option linter.unusedVariables false
set_option linter.unusedSimpArgs false
namespace Go.Proofs.Ytogdelhofdelgaa.WireSpec
def By (l : List Nat) : Prop := ∀ x ∈ l, x < 256
theorem By.nil : By [] := fun x hx => by cases hx
theorem By.append {l m : List Nat} (h : By l) (h2 : By m) : By (l ++ m) := fun x hx => (List.mem_append.1 hx).elim (h x) (h2 x)
theorem By.cons {x : Nat} {l : List Nat} (h : x < 256) (h2 : By l) : By (x :: l) := fun y hy => (List.mem_cons.1 hy).elim (fun e => e ▸ h) (h2 y)
theorem By.drop {l : List Nat} (h : By l) (n : Nat) : By (l.drop n) := fun x hx => h x (List.mem_of_mem_drop hx)
theorem By.take {l : List Nat} (h : By l) (n : Nat) : By (l.take n) := fun x hx => h x (List.mem_of_mem_take hx)
theorem By.tail {x : Nat} {l : List Nat} (h : By (x :: l)) : By l := fun y hy => h y (by simp [hy])
/-- All but the last byte of a number, and all. -/
def vc (n : Nat) : List Nat := if n < 128 then [n + 128] else vc (n / 128) ++ [n % 128 + 128]
termination_by n
def vb (n : Nat) : List Nat := if n < 128 then [n] else vc (n / 128) ++ [n % 128]
theorem vc_small {n : Nat} (h : n < 128) : vc n = [n + 128] := by rw [vc, if_pos h]
theorem vc_step {n : Nat} (h : ¬ n < 128) : vc n = vc (n / 128) ++ [n % 128 + 128] := by rw [vc, if_neg h]
theorem vb_small {n : Nat} (h : n < 128) : vb n = [n] := by rw [vb, if_pos h]
theorem vb_step {n : Nat} (h : ¬ n < 128) : vb n = vc (n / 128) ++ [n % 128] := by rw [vb, if_neg h]
theorem vc_by (n : Nat) : By (vc n) := by
  induction n using Nat.strongRecOn with
  | _ n ih =>
    by_cases h : n < 128
    · rw [vc_small h]
      exact By.cons (by omega) By.nil
    · rw [vc_step h]
      exact (ih (n / 128) (by omega)).append (By.cons (by omega) By.nil)
theorem vb_by (n : Nat) : By (vb n) := by
  by_cases h : n < 128
  · rw [vb_small h]
    exact By.cons (by omega) By.nil
  · rw [vb_step h]
    exact (vc_by _).append (By.cons (by omega) By.nil)
theorem vc_pos (n : Nat) : 1 ≤ (vc n).length := by
  by_cases h : n < 128
  · rw [vc_small h]
    simp
  · rw [vc_step h, List.length_append, List.length_singleton]
    omega
theorem vb_pos (n : Nat) : 1 ≤ (vb n).length := by
  by_cases h : n < 128
  · rw [vb_small h]
    simp
  · rw [vb_step h, List.length_append, List.length_singleton]
    omega
theorem vc_len (n j : Nat) (h : n < 128 ^ (j + 1)) : (vc n).length ≤ j + 1 := by
  induction j generalizing n with
  | zero =>
    rw [vc_small (by simpa using h)]
    simp
  | succ j ih =>
    by_cases h2 : n < 128
    · rw [vc_small h2]
      simp
    · rw [vc_step h2, List.length_append, List.length_singleton]
      have := ih (n / 128) (by rw [Nat.pow_succ] at h; omega)
      omega
theorem vb_len (n j : Nat) (h : n < 128 ^ (j + 1)) : (vb n).length ≤ j + 1 := by
  by_cases h2 : n < 128
  · rw [vb_small h2]
    simp
  · rw [vb_step h2, List.length_append, List.length_singleton]
    cases j with
    | zero => exact absurd (by simpa using h) h2
    | succ j =>
      have := vc_len (n / 128) j (by rw [Nat.pow_succ] at h; omega)
      omega
theorem vb_len10 {n : Nat} (h : n < 18446744073709551616) : (vb n).length ≤ 10 := vb_len n 9 (Nat.lt_of_lt_of_le h (by decide))
/-- A number's reading: the number till here, how many bytes till here, what is left; the number, how many bytes in all, and what is wrong. -/
def dv : Nat → Nat → List Nat → Nat × Nat × Nat
  | _, _, [] => (0, 0, 3)
  | n, i, c :: l => if i = 0 ∧ c = 128 ∨ 144115188075855872 ≤ n then (0, 0, 4) else if c < 128 then (n * 128 + c, i + 1, 0) else dv (n * 128 + (c - 128)) (i + 1) l
theorem dv_nil (n i : Nat) : dv n i [] = (0, 0, 3) := rfl
theorem dv_bad {n i c : Nat} {l : List Nat} (h : i = 0 ∧ c = 128 ∨ 144115188075855872 ≤ n) : dv n i (c :: l) = (0, 0, 4) := by rw [dv, if_pos h]
theorem dv_end {n i c : Nat} {l : List Nat} (h : ¬ (i = 0 ∧ c = 128 ∨ 144115188075855872 ≤ n)) (h2 : c < 128) : dv n i (c :: l) = (n * 128 + c, i + 1, 0) := by rw [dv, if_neg h, if_pos h2]
theorem dv_more {n i c : Nat} {l : List Nat} (h : ¬ (i = 0 ∧ c = 128 ∨ 144115188075855872 ≤ n)) (h2 : ¬ c < 128) : dv n i (c :: l) = dv (n * 128 + (c - 128)) (i + 1) l := by rw [dv, if_neg h, if_neg h2]
theorem dv_vc (m : Nat) (h1 : 1 ≤ m) (h2 : m < 144115188075855872) (r : List Nat) : dv 0 0 (vc m ++ r) = dv m (vc m).length r := by
  induction m using Nat.strongRecOn generalizing r with
  | _ m ih =>
    by_cases h : m < 128
    · rw [vc_small h]
      rw [List.singleton_append, dv_more (by omega) (by omega), List.length_singleton, show 0 * 128 + (m + 128 - 128) = m by omega]
    · rw [vc_step h, List.append_assoc, ih (m / 128) (by omega) (by omega) (by omega)]
      have := vc_pos (m / 128)
      rw [List.singleton_append, dv_more (by omega) (by omega), List.length_append, List.length_singleton, show m / 128 * 128 + (m % 128 + 128 - 128) = m by omega]
theorem dv_vb (n : Nat) (h : n < 18446744073709551616) (r : List Nat) : dv 0 0 (vb n ++ r) = (n, (vb n).length, 0) := by
  by_cases h1 : n < 128
  · rw [vb_small h1]
    rw [List.singleton_append, dv_end (by omega) h1]
    simp
  · rw [vb_step h1, List.append_assoc, dv_vc _ (by omega) (by omega)]
    have := vc_pos (n / 128)
    rw [List.singleton_append, dv_end (by omega) (by omega), List.length_append, List.length_singleton, show n / 128 * 128 + n % 128 = n by omega]
theorem dv_back1 (l : List Nat) (hl : By l) : ∀ (m i n c : Nat), 1 ≤ m → 1 ≤ i → dv m i l = (n, c, 0) → vc m ++ l.take (c - i) = vb n ∧ i < c ∧ c - i ≤ l.length ∧ n < 18446744073709551616 := by
  induction l with
  | nil =>
    intro m i n c hm hi h
    rw [dv_nil] at h
    simp at h
  | cons x l ih =>
    intro m i n c hm hi h
    have hx : x < 256 := hl x (by simp)
    by_cases hb : i = 0 ∧ x = 128 ∨ 144115188075855872 ≤ m
    · rw [dv_bad hb] at h
      simp at h
    by_cases h2 : x < 128
    · rw [dv_end hb h2] at h
      simp only [Prod.mk.injEq] at h
      obtain ⟨rfl, rfl, _⟩ := h
      rw [show i + 1 - i = 1 by omega, vb_step (by omega), show (m * 128 + x) / 128 = m by omega, show (m * 128 + x) % 128 = x by omega]
      refine ⟨by simp, by omega, by simp, by omega⟩
    · rw [dv_more hb h2] at h
      obtain ⟨e, h3, h4, h5⟩ := ih hl.tail _ _ _ _ (by omega) (by omega) h
      rw [vc_step (by omega), show (m * 128 + (x - 128)) / 128 = m by omega, show (m * 128 + (x - 128)) % 128 + 128 = x by omega] at e
      refine ⟨?_, by omega, by rw [List.length_cons]; omega, h5⟩
      rw [show c - i = (c - (i + 1)) + 1 by omega, List.take_succ_cons, ← e]
      simp
theorem dv_back (l : List Nat) (hl : By l) (n c : Nat) (h : dv 0 0 l = (n, c, 0)) : l.take c = vb n ∧ 1 ≤ c ∧ c ≤ l.length ∧ n < 18446744073709551616 := by
  cases l with
  | nil => simp [dv_nil] at h
  | cons x l =>
    have hx : x < 256 := hl x (by simp)
    by_cases hb : (0 : Nat) = 0 ∧ x = 128 ∨ 144115188075855872 ≤ 0
    · rw [dv_bad hb] at h
      simp at h
    by_cases h2 : x < 128
    · rw [dv_end hb h2] at h
      simp only [Prod.mk.injEq] at h
      obtain ⟨rfl, rfl, _⟩ := h
      rw [vb_small (by omega)]
      refine ⟨by simp, by omega, by simp, by omega⟩
    · rw [dv_more hb h2] at h
      obtain ⟨e, h3, h4, h5⟩ := dv_back1 l hl.tail _ _ _ _ (by omega) (by omega) h
      rw [show 0 * 128 + (x - 128) = x - 128 by omega, vc_small (by omega), show x - 128 + 128 = x by omega] at e
      refine ⟨?_, by omega, by rw [List.length_cons]; omega, h5⟩
      rw [← e, show c = (c - (0 + 1)) + 1 by omega, List.take_succ_cons]
      simp
theorem dv_errs (l : List Nat) : ∀ (m i : Nat), (dv m i l).2.2 = 0 ∨ dv m i l = (0, 0, 3) ∨ dv m i l = (0, 0, 4) := by
  induction l with
  | nil => intro m i; exact Or.inr (Or.inl rfl)
  | cons x l ih =>
    intro m i
    by_cases hb : i = 0 ∧ x = 128 ∨ 144115188075855872 ≤ m
    · rw [dv_bad hb]
      exact Or.inr (Or.inr rfl)
    by_cases h2 : x < 128
    · rw [dv_end hb h2]
      exact Or.inl rfl
    · rw [dv_more hb h2]
      exact ih _ _
/-- What more bytes change: only that some are lacking. -/
theorem dv_append (l r : List Nat) : ∀ (m i : Nat), (dv m i l).2.2 ≠ 3 → dv m i (l ++ r) = dv m i l := by
  induction l with
  | nil => intro m i h; exact absurd rfl h
  | cons x l ih =>
    intro m i h
    rw [List.cons_append]
    by_cases hb : i = 0 ∧ x = 128 ∨ 144115188075855872 ≤ m
    · rw [dv_bad hb, dv_bad hb]
    by_cases h2 : x < 128
    · rw [dv_end hb h2, dv_end hb h2]
    · rw [dv_more hb h2] at h ⊢
      rw [dv_more hb h2]
      exact ih _ _ h
theorem dv_bound (l : List Nat) : ∀ (m i n c : Nat), By l → dv m i l = (n, c, 0) → i < c ∧ c ≤ i + l.length ∧ n < 18446744073709551616 := by
  induction l with
  | nil => intro m i n c _ h; simp [dv_nil] at h
  | cons x l ih =>
    intro m i n c hl h
    have hx : x < 256 := hl x (by simp)
    by_cases hb : i = 0 ∧ x = 128 ∨ 144115188075855872 ≤ m
    · rw [dv_bad hb] at h
      simp at h
    by_cases h2 : x < 128
    · rw [dv_end hb h2] at h
      simp only [Prod.mk.injEq] at h
      obtain ⟨rfl, rfl, _⟩ := h
      rw [List.length_cons]
      omega
    · rw [dv_more hb h2] at h
      have := ih _ _ _ _ hl.tail h
      rw [List.length_cons]
      omega
/-- Signed numbers as unsigned ones. -/
def zz (x : Int) : Nat := (if x < 0 then -(2 * x) - 1 else 2 * x).toNat
def uz (n : Nat) : Int := if n % 2 = 1 then -((n / 2 : Nat) : Int) - 1 else ((n / 2 : Nat) : Int)
theorem uz_zz (x : Int) : uz (zz x) = x := by
  unfold uz zz
  split <;> split <;> omega
theorem zz_uz (n : Nat) : zz (uz n) = n := by
  unfold uz zz
  split <;> split <;> omega
theorem zz_lt {x : Int} (h : -9223372036854775808 ≤ x) (h2 : x ≤ 9223372036854775807) : zz x < 18446744073709551616 := by
  unfold zz
  split <;> omega
theorem uz_in {n : Nat} (h : n < 18446744073709551616) : -9223372036854775808 ≤ uz n ∧ uz n ≤ 9223372036854775807 := by
  unfold uz
  split <;> omega
end Go.Proofs.Ytogdelhofdelgaa.WireSpec
