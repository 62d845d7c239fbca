/- Plain facts on how two lists of events dpart (layer 23), as printed. -/
import Derived.IntWalk
import Derived.Test.YtcbjbgleflbpmaaPrint0
import Derived.Test.YtcbjbgleflbpmaaPrint4
import Derived.Test.YtcbjbgleflbpmaaPrint5
import Derived.Test.YtcbjbgleflbpmaaPrint6
import Derived.Test.YtcbjbgleflbpmaaPrint21
import Derived.Test.YtcbjbgleflbpmaaPrint22
set_option linter.unusedVariables false
set_option linter.unusedSimpArgs false
namespace Go.Proofs.Ytcbjbgleflbpmaa.Diff
open Go.RowKit Go.Proofs.Ytcbjbgleflbpmaa.Print Go.Proofs.YtcbjbgleflbpmaaW.PrintWords Go.Proofs.YtcbjbgleflbpmaaW.PrintLast Go.Proofs.YtcbjbgleflbpmaaW.PrintMore
theorem w64 {x : Int} (h : -9223372036854775808 ≤ x) (h2 : x ≤ 9223372036854775807) : wrap64 x = x := by unfold wrap64; omega
abbrev E := S25
def z : E := ⟨0, 0, 0, 0, 0⟩
theorem rd_eq (xs : List E) (j : Nat) : rd_T25 xs (j : Int) = xs.getD j z := by
  unfold rd_T25
  rw [Int.toNat_natCast]
  rfl
/-- Two events are the same, field by field. -/
def beqE (x y : E) : Bool := x.f0 == y.f0 && (x.f1 == y.f1 && (x.f2 == y.f2 && (x.f3 == y.f3 && (x.f4 == y.f4))))
theorem beqE_iff {x y : E} : beqE x y = true ↔ x = y := by
  obtain ⟨a, b, c, d, e⟩ := x
  obtain ⟨a', b', c', d', e'⟩ := y
  simp [beqE]
instance : DecidableEq E := fun x y => decidable_of_iff _ beqE_iff
theorem beqE_eq (x y : E) : beqE x y = decide (x = y) := by
  by_cases h : x = y
  · rw [decide_eq_true h, beqE_iff.2 h]
  · rw [decide_eq_false h]
    cases hb : beqE x y
    · rfl
    · exact absurd (beqE_iff.1 hb) h
/-- How many events are the same. -/
def pre : List E → List E → Nat
  | a :: x, b :: y => if a = b then pre x y + 1 else 0
  | _, _ => 0
theorem pre_left : ∀ a b, pre a b ≤ a.length
  | [], _ => by simp [pre]
  | _ :: _, [] => by simp [pre]
  | a :: x, b :: y => by
    have := pre_left x y
    simp only [pre, List.length_cons]
    split <;> omega
theorem pre_comm : ∀ a b, pre a b = pre b a
  | [], [] => rfl
  | [], _ :: _ => by simp [pre]
  | _ :: _, [] => by simp [pre]
  | a :: x, b :: y => by
    simp only [pre]
    by_cases h : a = b
    · rw [if_pos h, if_pos h.symm, pre_comm x y]
    · rw [if_neg h, if_neg (fun q => h q.symm)]
theorem pre_right (a b : List E) : pre a b ≤ b.length := by rw [pre_comm]; exact pre_left b a
theorem pre_get : ∀ (a b : List E) (i : Nat), i < pre a b → a.getD i z = b.getD i z
  | [], _, _, h => by simp [pre] at h
  | _ :: _, [], _, h => by simp [pre] at h
  | a :: x, b :: y, i, h => by
    simp only [pre] at h
    split at h
    · rename_i he
      subst he
      cases i with
      | zero => rfl
      | succ i =>
        have := pre_get x y i (by omega)
        simpa using this
    · omega
theorem pre_ne : ∀ (a b : List E), pre a b < a.length → pre a b < b.length → a.getD (pre a b) z ≠ b.getD (pre a b) z
  | [], _, h, _ => by simp at h
  | _ :: _, [], _, h => by simp at h
  | a :: x, b :: y, h1, h2 => by
    by_cases he : a = b
    · have e : pre (a :: x) (b :: y) = pre x y + 1 := by simp [pre, he]
      rw [e] at h1 h2 ⊢
      have := pre_ne x y (by simp at h1; omega) (by simp at h2; omega)
      simpa using this
    · have e : pre (a :: x) (b :: y) = 0 := by simp [pre, he]
      rw [e]
      simpa using he
/-- What is as far the same, and no farther, is so many. -/
theorem pre_unique {a b : List E} {n : Nat} (h1 : n ≤ a.length) (h2 : n ≤ b.length) (h3 : ∀ i, i < n → a.getD i z = b.getD i z) (h4 : n < a.length → n < b.length → a.getD n z ≠ b.getD n z) : pre a b = n := by
  have hl := pre_left a b
  have hr := pre_right a b
  rcases Nat.lt_trichotomy (pre a b) n with h | h | h
  · exact absurd (h3 _ h) (pre_ne a b (by omega) (by omega))
  · exact h
  · exact absurd (pre_get a b n h) (h4 (by omega) (by omega))
theorem prefix_l0 (a b : List E) (ha : a.length ≤ 4611686018427387904) (d : Nat) : ∀ (k i : Nat), i ≤ pre a b → pre a b - i = d → 2 * d + 2 ≤ k → diff_Prefix.l0 k a b (i : Int) = some (pre a b : Int) := by
  have hl := pre_left a b
  have hr := pre_right a b
  induction d with
  | zero =>
    intro k i hi hd hk
    obtain ⟨k, rfl⟩ : ∃ m, k = m + 2 := ⟨k - 2, by omega⟩
    obtain rfl : i = pre a b := by omega
    simp only [diff_Prefix.l0]
    by_cases h1 : pre a b < a.length
    · rw [if_pos (by omega)]
      by_cases h2 : pre a b < b.length
      · rw [if_pos (by omega), if_pos (by omega), rd_eq, rd_eq]
        have hb : beqE (a.getD (pre a b) z) (b.getD (pre a b) z) = false := by rw [beqE_eq, decide_eq_false (pre_ne a b h1 h2)]
        unfold beqE at hb
        rw [hb]
        simp
      · rw [if_neg (by omega)]
    · rw [if_neg (by omega)]
  | succ d ih =>
    intro k i hi hd hk
    obtain ⟨k, rfl⟩ : ∃ m, k = m + 2 := ⟨k - 2, by omega⟩
    simp only [diff_Prefix.l0]
    rw [if_pos (by omega), if_pos (by omega), if_pos (by omega), rd_eq, rd_eq]
    have hb : beqE (a.getD i z) (b.getD i z) = true := beqE_iff.2 (pre_get a b i (by omega))
    unfold beqE at hb
    rw [hb]
    simp only [if_true]
    rw [w64 (by omega) (by omega), show (i : Int) + 1 = ((i + 1 : Nat) : Int) by omega]
    exact ih (k + 1) (i + 1) (by omega) (by omega) (by omega)
theorem prefix_eq {k : Nat} (a b : List E) (ha : a.length ≤ 4611686018427387904) (hk : 2 * a.length + 2 ≤ k) : diff_Prefix.f k a b = some (pre a b : Int) := by
  have hl := pre_left a b
  unfold diff_Prefix.f
  exact prefix_l0 a b ha (pre a b) k 0 (by omega) (by omega) (by omega)
/-- A diff out of its parts. -/
def tup (n how : Int) (x y : E) : Int × Int × Int × Int × Int × Int × Int × Int × Int × Int × Int × Int := (n, how, x.f0, x.f1, x.f2, x.f3, x.f4, y.f0, y.f1, y.f2, y.f3, y.f4)
def dpart (a b : List E) : Int × Int × Int × Int × Int × Int × Int × Int × Int × Int × Int × Int :=
  if pre a b = a.length then (if pre a b = b.length then tup (pre a b) 0 z z else tup (pre a b) 2 z (b.getD (pre a b) z))
  else if pre a b = b.length then tup (pre a b) 3 (a.getD (pre a b) z) z else tup (pre a b) 1 (a.getD (pre a b) z) (b.getD (pre a b) z)
theorem events_eq {k : Nat} (a b : List E) (ha : a.length ≤ 4611686018427387904) (hk : 2 * a.length + 2 ≤ k) : diff_Events.f k a b = some (dpart a b) := by
  have hl := pre_left a b
  have hr := pre_right a b
  unfold diff_Events.f dpart
  rw [prefix_eq a b ha hk]
  obtain ⟨k, rfl⟩ : ∃ m, k = m + 1 := ⟨k - 1, by omega⟩
  simp only [Option.bind_some]
  generalize pre a b = n at *
  by_cases h1 : n = a.length
  · rw [if_pos h1, show ((n : Int) == (a.length : Int)) = true by rw [beq_iff_eq]; omega]
    by_cases h2 : n = b.length
    · rw [if_pos h2, show ((n : Int) == (b.length : Int)) = true by rw [beq_iff_eq]; omega, if_pos (by rfl)]
      rfl
    · rw [if_neg h2, show ((n : Int) == (b.length : Int)) = false by rw [beq_eq_false_iff_ne]; omega, if_neg (by decide), if_pos (by rfl), if_pos (by omega), if_pos (by omega), rd_eq]
      rfl
  · rw [if_neg h1, show ((n : Int) == (a.length : Int)) = false by rw [beq_eq_false_iff_ne]; omega]
    by_cases h2 : n = b.length
    · rw [if_pos h2, show ((n : Int) == (b.length : Int)) = true by rw [beq_iff_eq]; omega, if_neg (by decide), if_neg (by decide), if_neg (by decide)]
      simp only [diff_Events.j0]
      rw [if_pos (by omega), if_pos (by omega), if_neg (by decide), rd_eq]
      rfl
    · rw [if_neg h2, show ((n : Int) == (b.length : Int)) = false by rw [beq_eq_false_iff_ne]; omega, if_neg (by decide), if_neg (by decide), if_pos (by rfl), if_pos (by omega), if_pos (by omega)]
      simp only [diff_Events.j0]
      rw [if_pos (by omega), if_pos (by omega), if_pos trivial, rd_eq, rd_eq]
      rfl
end Go.Proofs.Ytcbjbgleflbpmaa.Diff
/- The chapter's example of layer 23 holds. -/
namespace Go.Proofs.Ytcbjbgleflbpmaa.Diff
open Go.Proofs.Ytcbjbgleflbpmaa.Print Go.Proofs.YtcbjbgleflbpmaaW.PrintWords
theorem live23_30 : palletlaw23_live.f 30 = some true := by decide +kernel
theorem live23 {k : Nat} (hk : 30 ≤ k) : palletlaw23_live.f k = some true := at_rounds (fun k => palletlaw23_live.mono k) hk live23_30
end Go.Proofs.Ytcbjbgleflbpmaa.Diff
/- What the document says of two lists of events (layer 23), as printed. -/
namespace Go.Proofs.Ytcbjbgleflbpmaa.Diff
open Go.RowKit Go.Proofs.Ytcbjbgleflbpmaa.Print Go.Proofs.YtcbjbgleflbpmaaW.PrintWords Go.Proofs.YtcbjbgleflbpmaaW.PrintLast Go.Proofs.YtcbjbgleflbpmaaW.PrintMore
theorem drop_cons {xs : List E} {i : Nat} (h : i < xs.length) : xs.drop i = xs.getD i z :: xs.drop (i + 1) := by
  rw [List.drop_eq_getElem_cons h, List.getD_eq_getElem?_getD, List.getElem?_eq_getElem h]
  rfl
theorem same_l0 (a b : List E) (hab : a.length = b.length) (ha : a.length ≤ 4611686018427387904) (d : Nat) : ∀ (k i : Nat), i ≤ a.length → a.length - i = d → d < k → palletref19_Same.l0 k a b (a.length : Int) (i : Int) = some (decide (a.drop i = b.drop i)) := by
  induction d with
  | zero =>
    intro k i hi hd hk
    obtain ⟨k, rfl⟩ : ∃ m, k = m + 1 := ⟨k - 1, by omega⟩
    simp only [palletref19_Same.l0]
    rw [if_neg (by omega), List.drop_of_length_le (by omega), List.drop_of_length_le (by omega)]
    simp
  | succ d ih =>
    intro k i hi hd hk
    obtain ⟨k, rfl⟩ : ∃ m, k = m + 1 := ⟨k - 1, by omega⟩
    simp only [palletref19_Same.l0]
    rw [if_pos (by omega), if_pos (by omega), if_pos (by omega), if_pos (by omega), rd_eq, rd_eq, drop_cons (xs := a) (by omega), drop_cons (xs := b) (by omega)]
    generalize a.getD i z = x
    generalize b.getD i z = y
    have hb := beqE_eq x y
    by_cases h : x = y
    · subst h
      rw [if_neg (by simp), w64 (by omega) (by omega), show (i : Int) + 1 = ((i + 1 : Nat) : Int) by omega, ih k (i + 1) (by omega) (by omega) (by omega)]
      simp
    · rw [decide_eq_false h] at hb
      rw [if_pos (by unfold beqE at hb; simp at hb ⊢; by_cases e0 : x.f0 = y.f0 <;> by_cases e1 : x.f1 = y.f1 <;> by_cases e2 : x.f2 = y.f2 <;> by_cases e3 : x.f3 = y.f3 <;> simp_all), decide_eq_false (fun q => h (List.cons.inj q).1)]
theorem same_eq {k : Nat} (a b : List E) (ha : a.length ≤ 4611686018427387904) (hk : a.length < k) : palletref19_Same.f k a b = some (decide (a = b)) := by
  unfold palletref19_Same.f
  by_cases h : a.length = b.length
  · rw [if_pos (by omega)]
    have := same_l0 a b h ha a.length k 0 (by omega) (by omega) hk
    simpa using this
  · rw [if_neg (by omega), decide_eq_false (fun q => h (by rw [q]))]
theorem take_same (a b : List E) {n : Nat} (h1 : n ≤ a.length) (h2 : n ≤ b.length) : a.take n = b.take n ↔ n ≤ pre a b := by
  constructor
  · intro h
    by_cases q : n ≤ pre a b
    · exact q
    · exfalso
      refine pre_ne a b (by omega) (by omega) ?_
      have e1 : (a.take n).getD (pre a b) z = a.getD (pre a b) z := by rw [List.getD_eq_getElem?_getD, List.getD_eq_getElem?_getD, List.getElem?_take_of_lt (by omega)]
      have e2 : (b.take n).getD (pre a b) z = b.getD (pre a b) z := by rw [List.getD_eq_getElem?_getD, List.getD_eq_getElem?_getD, List.getElem?_take_of_lt (by omega)]
      rw [← e1, ← e2, h]
  · intro h
    apply List.ext_getElem?
    intro i
    by_cases hi : i < n
    · rw [List.getElem?_take_of_lt hi, List.getElem?_take_of_lt hi]
      have := pre_get a b i (by omega)
      rw [List.getD_eq_getElem?_getD, List.getD_eq_getElem?_getD, List.getElem?_eq_getElem (by omega), List.getElem?_eq_getElem (by omega)] at this
      rw [List.getElem?_eq_getElem (by omega), List.getElem?_eq_getElem (by omega)]
      simpa using this
    · rw [List.getElem?_eq_none (by rw [List.length_take]; omega), List.getElem?_eq_none (by rw [List.length_take]; omega)]
theorem refprefix_l0 (a b : List E) (ha : a.length ≤ 20000) (d : Nat) : ∀ (k n : Nat), n ≤ pre a b → pre a b - n = d → 2 * d + 20010 ≤ k → palletref23_Prefix.l0 k a b (n : Int) ((n + 1 : Nat) : Int) = some (pre a b : Int) := by
  have hl := pre_left a b
  have hr := pre_right a b
  induction d with
  | zero =>
    intro k n hn hd hk
    obtain ⟨k, rfl⟩ : ∃ m, k = m + 2 := ⟨k - 2, by omega⟩
    obtain rfl : n = pre a b := by omega
    simp only [palletref23_Prefix.l0]
    by_cases hc : ((pre a b + 1 : Nat) : Int) ≤ mn (a.length : Int) (b.length : Int)
    · have hc2 : pre a b + 1 ≤ a.length ∧ pre a b + 1 ≤ b.length := by
        unfold mn at hc
        split at hc <;> omega
      rw [if_pos hc, if_pos (by omega), if_pos (by omega), if_pos (by omega), Int.toNat_natCast, same_eq _ _ (by rw [List.length_take]; omega) (by rw [List.length_take]; omega), decide_eq_false (fun q => by have := (take_same a b hc2.1 hc2.2).1 q; omega)]
      simp
    · rw [if_neg hc]
  | succ d ih =>
    intro k n hn hd hk
    obtain ⟨k, rfl⟩ : ∃ m, k = m + 2 := ⟨k - 2, by omega⟩
    simp only [palletref23_Prefix.l0]
    rw [if_pos (by unfold mn; split <;> omega), if_pos (by omega), if_pos (by omega), if_pos (by omega), Int.toNat_natCast, same_eq _ _ (by rw [List.length_take]; omega) (by rw [List.length_take]; omega), decide_eq_true ((take_same a b (by omega) (by omega)).2 (by omega))]
    simp only [Option.bind_some, if_true]
    rw [w64 (by omega) (by omega), show ((n + 1 : Nat) : Int) + 1 = ((n + 1 + 1 : Nat) : Int) by omega]
    exact ih (k + 1) (n + 1) (by omega) (by omega) (by omega)
theorem refprefix_eq {k : Nat} (a b : List E) (ha : a.length ≤ 20000) (hk : 62000 ≤ k) : palletref23_Prefix.f k a b = some (pre a b : Int) := by
  have hl := pre_left a b
  unfold palletref23_Prefix.f
  exact refprefix_l0 a b ha (pre a b) k 0 (by omega) (by omega) (by omega)
theorem refevents_eq {k : Nat} (a b : List E) (ha : a.length ≤ 20000) (hk : 62010 ≤ k) : palletref23_Events.f k a b = some (dpart a b) := by
  have hl := pre_left a b
  have hr := pre_right a b
  unfold palletref23_Events.f dpart
  rw [refprefix_eq a b ha (by omega)]
  obtain ⟨k, rfl⟩ : ∃ m, k = m + 3 := ⟨k - 3, by omega⟩
  simp only [Option.bind_some]
  generalize pre a b = n at *
  by_cases h1 : n = a.length
  · rw [if_pos h1, if_neg (by omega)]
    simp only [palletref23_Events.j0]
    by_cases h2 : n = b.length
    · rw [if_pos h2, if_neg (by omega)]
      simp only [palletref23_Events.j1]
      rw [if_neg (by omega)]
      simp [palletref23_Events.j2, tup, z]
    · rw [if_neg h2, if_pos (by omega), if_pos (by omega)]
      simp only [palletref23_Events.j1]
      rw [if_neg (by omega), rd_eq]
      simp [palletref23_Events.j2, tup, z]
  · rw [if_neg h1, if_pos (by omega), if_pos (by omega), rd_eq]
    simp only [palletref23_Events.j0]
    by_cases h2 : n = b.length
    · rw [if_pos h2, if_neg (by omega)]
      simp only [palletref23_Events.j1]
      rw [if_pos (by omega), decide_eq_false (by omega)]
      simp [palletref23_Events.j2, tup, z]
    · rw [if_neg h2, if_pos (by omega), if_pos (by omega)]
      simp only [palletref23_Events.j1]
      rw [if_pos (by omega), decide_eq_true (by omega), rd_eq]
      simp [palletref23_Events.j2, tup, z]
end Go.Proofs.Ytcbjbgleflbpmaa.Diff
