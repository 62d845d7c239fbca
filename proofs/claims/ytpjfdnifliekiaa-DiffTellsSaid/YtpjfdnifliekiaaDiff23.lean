/- What the document says of two lists of events (layer 23), as printed. -/
import Derived.Test.YtpjfdnifliekiaaDiff
import Derived.Test.YtpjfdnifliekiaaDiff23b
import Derived.Test.YtpjfdnifliekiaaPrint0
import Derived.Test.YtpjfdnifliekiaaPrint9
import Derived.Test.YtpjfdnifliekiaaPrint10
import Derived.Test.YtpjfdnifliekiaaPrint11
import Derived.Test.YtpjfdnifliekiaaPrint12
import Derived.Test.YtpjfdnifliekiaaPrint13
set_option linter.unusedVariables false
set_option linter.unusedSimpArgs false
namespace Go.Proofs.Ytpjfdnifliekiaa.Diff
open Go.RowKit Go.Proofs.Ytpjfdnifliekiaa.Print Go.Proofs.YtpjfdnifliekiaaW.PrintWords Go.Proofs.YtpjfdnifliekiaaW.PrintLast Go.Proofs.YtpjfdnifliekiaaW.PrintMore
theorem drop_cons {xs : List E} {i : Nat} (h : i < xs.length) : xs.drop i = xs.getD i z :: xs.drop (i + 1) := by
  rw [List.drop_eq_getElem_cons h, List.getD_eq_getElem?_getD, List.getElem?_eq_getElem h]
  rfl
theorem same_l0 (a b : List E) (hab : a.length = b.length) (ha : a.length ≤ 4611686018427387904) (d : Nat) : ∀ (k i : Nat), i ≤ a.length → a.length - i = d → d < k → palletref19_Same.l0 k a b (a.length : Int) (i : Int) = some (decide (a.drop i = b.drop i)) := by
  induction d with
  | zero =>
    intro k i hi hd hk
    obtain ⟨k, rfl⟩ : ∃ m, k = m + 1 := ⟨k - 1, by omega⟩
    simp only [palletref19_Same.l0]
    rw [if_neg (by omega), List.drop_of_length_le (by omega), List.drop_of_length_le (by omega)]
    simp
  | succ d ih =>
    intro k i hi hd hk
    obtain ⟨k, rfl⟩ : ∃ m, k = m + 1 := ⟨k - 1, by omega⟩
    simp only [palletref19_Same.l0]
    rw [if_pos (by omega), if_pos (by omega), if_pos (by omega), if_pos (by omega), rd_eq, rd_eq, drop_cons (xs := a) (by omega), drop_cons (xs := b) (by omega)]
    generalize a.getD i z = x
    generalize b.getD i z = y
    have hb := beqE_eq x y
    by_cases h : x = y
    · subst h
      rw [if_neg (by simp), w64 (by omega) (by omega), show (i : Int) + 1 = ((i + 1 : Nat) : Int) by omega, ih k (i + 1) (by omega) (by omega) (by omega)]
      simp
    · rw [decide_eq_false h] at hb
      rw [if_pos (by unfold beqE at hb; simp at hb ⊢; by_cases e0 : x.f0 = y.f0 <;> by_cases e1 : x.f1 = y.f1 <;> by_cases e2 : x.f2 = y.f2 <;> by_cases e3 : x.f3 = y.f3 <;> simp_all), decide_eq_false (fun q => h (List.cons.inj q).1)]
theorem same_eq {k : Nat} (a b : List E) (ha : a.length ≤ 4611686018427387904) (hk : a.length < k) : palletref19_Same.f k a b = some (decide (a = b)) := by
  unfold palletref19_Same.f
  by_cases h : a.length = b.length
  · rw [if_pos (by omega)]
    have := same_l0 a b h ha a.length k 0 (by omega) (by omega) hk
    simpa using this
  · rw [if_neg (by omega), decide_eq_false (fun q => h (by rw [q]))]
theorem take_same (a b : List E) {n : Nat} (h1 : n ≤ a.length) (h2 : n ≤ b.length) : a.take n = b.take n ↔ n ≤ pre a b := by
  constructor
  · intro h
    by_cases q : n ≤ pre a b
    · exact q
    · exfalso
      refine pre_ne a b (by omega) (by omega) ?_
      have e1 : (a.take n).getD (pre a b) z = a.getD (pre a b) z := by rw [List.getD_eq_getElem?_getD, List.getD_eq_getElem?_getD, List.getElem?_take_of_lt (by omega)]
      have e2 : (b.take n).getD (pre a b) z = b.getD (pre a b) z := by rw [List.getD_eq_getElem?_getD, List.getD_eq_getElem?_getD, List.getElem?_take_of_lt (by omega)]
      rw [← e1, ← e2, h]
  · intro h
    apply List.ext_getElem?
    intro i
    by_cases hi : i < n
    · rw [List.getElem?_take_of_lt hi, List.getElem?_take_of_lt hi]
      have := pre_get a b i (by omega)
      rw [List.getD_eq_getElem?_getD, List.getD_eq_getElem?_getD, List.getElem?_eq_getElem (by omega), List.getElem?_eq_getElem (by omega)] at this
      rw [List.getElem?_eq_getElem (by omega), List.getElem?_eq_getElem (by omega)]
      simpa using this
    · rw [List.getElem?_eq_none (by rw [List.length_take]; omega), List.getElem?_eq_none (by rw [List.length_take]; omega)]
theorem refprefix_l0 (a b : List E) (ha : a.length ≤ 300) (d : Nat) : ∀ (k n : Nat), n ≤ pre a b → pre a b - n = d → 2 * d + 310 ≤ k → palletref23_Prefix.l0 k a b (n : Int) ((n + 1 : Nat) : Int) = some (pre a b : Int) := by
  have hl := pre_left a b
  have hr := pre_right a b
  induction d with
  | zero =>
    intro k n hn hd hk
    obtain ⟨k, rfl⟩ : ∃ m, k = m + 2 := ⟨k - 2, by omega⟩
    obtain rfl : n = pre a b := by omega
    simp only [palletref23_Prefix.l0]
    by_cases hc : ((pre a b + 1 : Nat) : Int) ≤ mn (a.length : Int) (b.length : Int)
    · have hc2 : pre a b + 1 ≤ a.length ∧ pre a b + 1 ≤ b.length := by
        unfold mn at hc
        split at hc <;> omega
      rw [if_pos hc, if_pos (by omega), if_pos (by omega), if_pos (by omega), Int.toNat_natCast, same_eq _ _ (by rw [List.length_take]; omega) (by rw [List.length_take]; omega), decide_eq_false (fun q => by have := (take_same a b hc2.1 hc2.2).1 q; omega)]
      simp [palletref23_Prefix.j1]
    · rw [if_neg hc]
      simp [palletref23_Prefix.j1]
  | succ d ih =>
    intro k n hn hd hk
    obtain ⟨k, rfl⟩ : ∃ m, k = m + 2 := ⟨k - 2, by omega⟩
    simp only [palletref23_Prefix.l0]
    rw [if_pos (by unfold mn; split <;> omega), if_pos (by omega), if_pos (by omega), if_pos (by omega), Int.toNat_natCast, same_eq _ _ (by rw [List.length_take]; omega) (by rw [List.length_take]; omega), decide_eq_true ((take_same a b (by omega) (by omega)).2 (by omega))]
    simp only [Option.bind_some, palletref23_Prefix.j1, if_true]
    rw [w64 (by omega) (by omega), show ((n + 1 : Nat) : Int) + 1 = ((n + 1 + 1 : Nat) : Int) by omega]
    exact ih k (n + 1) (by omega) (by omega) (by omega)
theorem refprefix_eq {k : Nat} (a b : List E) (ha : a.length ≤ 300) (hk : 1000 ≤ k) : palletref23_Prefix.f k a b = some (pre a b : Int) := by
  have hl := pre_left a b
  unfold palletref23_Prefix.f
  exact refprefix_l0 a b ha (pre a b) k 0 (by omega) (by omega) (by omega)
theorem refevents_eq {k : Nat} (a b : List E) (ha : a.length ≤ 300) (hk : 1010 ≤ k) : palletref23_Events.f k a b = some (dpart a b) := by
  have hl := pre_left a b
  have hr := pre_right a b
  unfold palletref23_Events.f dpart
  rw [refprefix_eq a b ha (by omega)]
  obtain ⟨k, rfl⟩ : ∃ m, k = m + 3 := ⟨k - 3, by omega⟩
  simp only [Option.bind_some]
  generalize pre a b = n at *
  by_cases h1 : n = a.length
  · rw [if_pos h1, if_neg (by omega)]
    simp only [palletref23_Events.j0]
    by_cases h2 : n = b.length
    · rw [if_pos h2, if_neg (by omega)]
      simp only [palletref23_Events.j1]
      rw [if_neg (by omega)]
      simp [palletref23_Events.j2, tup, z]
    · rw [if_neg h2, if_pos (by omega), if_pos (by omega)]
      simp only [palletref23_Events.j1]
      rw [if_neg (by omega), rd_eq]
      simp [palletref23_Events.j2, tup, z]
  · rw [if_neg h1, if_pos (by omega), if_pos (by omega), rd_eq]
    simp only [palletref23_Events.j0]
    by_cases h2 : n = b.length
    · rw [if_pos h2, if_neg (by omega)]
      simp only [palletref23_Events.j1]
      rw [if_pos (by omega), decide_eq_false (by omega)]
      simp [palletref23_Events.j2, tup, z]
    · rw [if_neg h2, if_pos (by omega), if_pos (by omega)]
      simp only [palletref23_Events.j1]
      rw [if_pos (by omega), decide_eq_true (by omega), rd_eq]
      simp [palletref23_Events.j2, tup, z]
theorem refback_eq {k : Nat} (hk : 1 ≤ k) (a0 a1 a2 a3 a4 a5 a6 a7 a8 a9 a10 a11 : Int) : palletref23_Back.f k a0 a1 a2 a3 a4 a5 a6 a7 a8 a9 a10 a11 = diff_Back.f a0 a1 a2 a3 a4 a5 a6 a7 a8 a9 a10 a11 := by
  obtain ⟨k, rfl⟩ : ∃ m, k = m + 1 := ⟨k - 1, by omega⟩
  unfold palletref23_Back.f diff_Back.f
  by_cases h2 : a1 = 2
  · subst h2
    simp [palletref23_Back.j0]
  · rw [if_neg h2, if_neg h2]
    simp only [palletref23_Back.j0]
end Go.Proofs.Ytpjfdnifliekiaa.Diff
