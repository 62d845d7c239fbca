/- Slots of several verdicts (layer 10), as printed. -/
import Derived.Test.YtcanccdhedmdmaaMemRef
import Derived.Test.YtcanccdhedmdmaaPrint0
import Derived.Test.YtcanccdhedmdmaaPrint20
import Derived.Test.YtcanccdhedmdmaaPrint21
set_option linter.unusedVariables false
set_option linter.unusedSimpArgs false
namespace Go.Proofs.Ytcanccdhedmdmaa.Mem
open Go.RowKit Go.Proofs.Ytcanccdhedmdmaa.Print Go.Proofs.YtcanccdhedmdmaaW.PrintWords Go.Proofs.YtcanccdhedmdmaaW.PrintLast Go.Proofs.YtcanccdhedmdmaaW.PrintMore Go.Proofs.Ytcanccdhedmdmaa.Medl Go.Proofs.Ytcanccdhedmdmaa.Bits16
/-- The slot so many behind. -/
def Xs (x i : Int) : Int := IntKind.u64.wrap (x + IntKind.u64.wrap i)
theorem Xs_eq (x i : Int) : Xs x i = (x + i) % 18446744073709551616 := by
  unfold Xs
  rw [IntKind.wrap_u64, IntKind.wrap_u64]
  omega
theorem Xs_nonneg (x i : Int) : 0 ≤ Xs x i := by rw [Xs_eq]; omega
theorem mn1 {a : Int} (h0 : 0 ≤ a) (h1 : a ≤ 1073741824) : 0 ≤ mn (wrap64 (a + 1)) 1073741824 ∧ mn (wrap64 (a + 1)) 1073741824 ≤ 1073741824 := by
  rw [w64 (by omega) (by omega)]
  unfold mn
  split <;> omega
theorem cnt_ok {g b v : Int} (hv : 0 ≤ v ∧ v ≤ 3) (g0 : 0 ≤ g) (g1 : g ≤ 1073741824) (b0 : 0 ≤ b) (b1 : b ≤ 1073741824) :
    (cnt g b v).2.2 = 0 ∧ 0 ≤ (cnt g b v).1 ∧ (cnt g b v).1 ≤ 1073741824 ∧ 0 ≤ (cnt g b v).2.1 ∧ (cnt g b v).2.1 ≤ 1073741824 := by
  have hc : Cok g b v := ⟨hv.1, hv.2, g0, b0, g1, b1⟩
  have e1 := mn1 g0 g1
  have e2 := mn1 b0 b1
  unfold cnt
  rw [if_pos hc]
  by_cases h1 : v = 1 ∨ v = 2
  · rw [if_pos h1]
    exact ⟨rfl, e1.1, e1.2, b0, b1⟩
  rw [if_neg h1]
  by_cases h3 : v = 3
  · rw [if_pos h3]
    exact ⟨rfl, g0, g1, e2.1, e2.2⟩
  · rw [if_neg h3]
    exact ⟨rfl, g0, g1, b0, b1⟩
def rnd (n s l f w me x : Int) : List Int → Int → Nat → Int → Int → Option (Nat × Int × Int)
  | [], _, m, g, b => some (m, g, b)
  | v :: L, i, m, g, b => if MGood n s l f w (Xs x i) me ∧ 0 ≤ v ∧ v ≤ 3 then rnd n s l f w me x L (i + 1) (aft m me.toNat (Xs x i % n).toNat v) (cnt g b v).1 (cnt g b v).2.1 else none
def out : Option (Nat × Int × Int) → Int × Int × Int × Int
  | some (m, g, b) => (m, g, b, 0)
  | none => (0, 0, 0, 1)
section
variable {n s l f w x me : Int}
theorem drop_rd {xs : List Int} {i : Nat} (h : i < xs.length) : xs.drop i = rd xs (i : Int) :: xs.drop (i + 1) := by
  rw [List.drop_eq_getElem_cons h]
  unfold rd
  rw [Int.toNat_natCast, List.getD_eq_getElem?_getD, List.getElem?_eq_getElem h]
  rfl
theorem round_l0 (xs : List Int) (hl : xs.length ≤ 100) (d : Nat) : ∀ (k i m : Nat) (g b : Int), i ≤ xs.length → xs.length - i = d → d + 10 ≤ k → m < 65536 → 0 ≤ g → g ≤ 1073741824 → 0 ≤ b → b ≤ 1073741824 →
    member_Round.l0 k me m x xs (xs.length : Int) (i : Int) n s l f w g b = some (out (rnd n s l f w me x (xs.drop i) i m g b)) := by
  induction d with
  | zero =>
    intro k i m g b hi hd hk hm g0 g1 b0 b1
    obtain ⟨k, rfl⟩ : ∃ j, k = j + 1 := ⟨k - 1, by omega⟩
    simp only [member_Round.l0]
    rw [if_neg (by omega), List.drop_of_length_le (by omega)]
    rfl
  | succ d ih =>
    intro k i m g b hi hd hk hm g0 g1 b0 b1
    obtain ⟨k, rfl⟩ : ∃ j, k = j + 1 := ⟨k - 1, by omega⟩
    have i1 : i + 1 ≤ xs.length := by omega
    have i2 : xs.length - (i + 1) = d := by omega
    have i3 : d + 10 ≤ k := by omega
    have hs : wrap64 ((i : Int) + 1) = ((i + 1 : Nat) : Int) := by rw [w64 (by omega) (by omega)]; omega
    simp only [member_Round.l0]
    rw [if_pos (by omega), if_pos (by omega), if_pos (by omega), drop_rd (by omega), show IntKind.u64.wrap (x + IntKind.u64.wrap (i : Int)) = Xs x i from rfl, after_eq hm (Xs_nonneg x i), Option.bind_some]
    generalize rd xs (i : Int) = v
    simp only [rnd]
    by_cases hr : MGood n s l f w (Xs x i) me ∧ 0 ≤ v ∧ v ≤ 3
    · rw [if_pos hr, if_pos hr]
      have hc := cnt_ok hr.2 g0 g1 b0 b1
      rw [if_pos rfl, cnt_eq (by omega), Option.bind_some, if_pos hc.1, hs]
      exact ih k (i + 1) _ _ _ i1 i2 i3 (aft_lt hm _ _ _) hc.2.1 hc.2.2.1 hc.2.2.2.1 hc.2.2.2.2
    · rw [if_neg hr, if_neg hr, if_neg (by decide)]
      rfl
theorem round_eq {k : Nat} (hk : 120 ≤ k) {m : Nat} (hm : m < 65536) (h0 : 0 ≤ x) (xs : List Int) (hl : xs.length ≤ 100) : member_Round.f k n s l f w me m x xs =
    some (if MGood n s l f w x me ∧ (xs.length : Int) ≤ n then out (rnd n s l f w me x xs 0 m 0 0) else (0, 0, 0, 1)) := by
  obtain ⟨k, rfl⟩ : ∃ j, k = j + 1 := ⟨k - 1, by omega⟩
  unfold member_Round.f
  rw [sit_eq h0]
  simp only [Option.bind_some]
  have no : member_Round.j0 (k + 1) me m x xs true n s l f w = some (0, 0, 0, 1) := by simp [member_Round.j0]
  by_cases hg : MGood n s l f w x me
  · rw [if_pos hg, if_pos rfl]
    by_cases h2 : (xs.length : Int) ≤ n
    · have hr : MGood n s l f w x me ∧ (xs.length : Int) ≤ n := ⟨hg, h2⟩
      rw [if_pos hr, decide_eq_false (by omega)]
      simp only [member_Round.j0]
      rw [if_neg (by decide)]
      have := round_l0 (n := n) (s := s) (l := l) (f := f) (w := w) (x := x) (me := me) xs hl xs.length k 0 m 0 0 (by omega) (by omega) (by omega) hm (by omega) (by omega) (by omega) (by omega)
      simpa using this
    · have hr : ¬ (MGood n s l f w x me ∧ (xs.length : Int) ≤ n) := fun q => h2 q.2
      rw [if_neg hr, decide_eq_true (by omega), no]
  · have hr : ¬ (MGood n s l f w x me ∧ (xs.length : Int) ≤ n) := fun q => hg q.1
    rw [if_neg hr, if_neg hg, if_neg (show ¬ (0, 0, 1).2.2 = (0 : Int) by decide), no]
theorem rround_l0 (xs : List Int) (hl : xs.length ≤ 100) (d : Nat) : ∀ (k i m : Nat) (g b : Int), i ≤ xs.length → xs.length - i = d → d + 10 ≤ k → m < 65536 → 0 ≤ g → g ≤ 1073741824 → 0 ≤ b → b ≤ 1073741824 →
    palletref10_Round.l0 k me m x xs (xs.length : Int) (i : Int) n s l f w g b = some (out (rnd n s l f w me x (xs.drop i) i m g b)) := by
  induction d with
  | zero =>
    intro k i m g b hi hd hk hm g0 g1 b0 b1
    obtain ⟨k, rfl⟩ : ∃ j, k = j + 1 := ⟨k - 1, by omega⟩
    simp only [palletref10_Round.l0]
    rw [if_neg (by omega), List.drop_of_length_le (by omega)]
    rfl
  | succ d ih =>
    intro k i m g b hi hd hk hm g0 g1 b0 b1
    obtain ⟨k, rfl⟩ : ∃ j, k = j + 1 := ⟨k - 1, by omega⟩
    have i1 : i + 1 ≤ xs.length := by omega
    have i2 : xs.length - (i + 1) = d := by omega
    have i3 : d + 10 ≤ k := by omega
    have hs : wrap64 ((i : Int) + 1) = ((i + 1 : Nat) : Int) := by rw [w64 (by omega) (by omega)]; omega
    simp only [palletref10_Round.l0]
    rw [if_pos (by omega), if_pos (by omega), if_pos (by omega), drop_rd (by omega), show IntKind.u64.wrap (x + IntKind.u64.wrap (i : Int)) = Xs x i from rfl, rafter_eq (by omega) hm (Xs_nonneg x i), Option.bind_some]
    generalize rd xs (i : Int) = v
    simp only [rnd]
    by_cases hr : MGood n s l f w (Xs x i) me ∧ 0 ≤ v ∧ v ≤ 3
    · rw [if_pos hr, if_pos hr]
      have hc := cnt_ok hr.2 g0 g1 b0 b1
      rw [if_pos rfl, rcnt_eq (by omega), Option.bind_some, hs]
      exact ih k (i + 1) _ _ _ i1 i2 i3 (aft_lt hm _ _ _) hc.2.1 hc.2.2.1 hc.2.2.2.1 hc.2.2.2.2
    · rw [if_neg hr, if_neg hr, if_neg (by decide)]
      rfl
theorem rround_eq {k : Nat} (hk : 120 ≤ k) {m : Nat} (hm : m < 65536) (h0 : 0 ≤ x) (xs : List Int) (hl : xs.length ≤ 100) : palletref10_Round.f k n s l f w me m x xs =
    some (if MGood n s l f w x me ∧ (xs.length : Int) ≤ n then out (rnd n s l f w me x xs 0 m 0 0) else (0, 0, 0, 1)) := by
  obtain ⟨k, rfl⟩ : ∃ j, k = j + 1 := ⟨k - 1, by omega⟩
  unfold palletref10_Round.f
  rw [rmay (by omega) h0]
  simp only [Option.bind_some]
  have no : palletref10_Round.j0 (k + 1) me m x xs true n s l f w = some (0, 0, 0, 1) := by simp [palletref10_Round.j0]
  by_cases hg : MGood n s l f w x me
  · have hy : Ok n s l f w ∧ x ≤ 4294967296 := ⟨hg.1, hg.2.1⟩
    rw [if_pos hy, decide_eq_true hg.2.2, if_pos rfl]
    by_cases h2 : (xs.length : Int) ≤ n
    · have hr : MGood n s l f w x me ∧ (xs.length : Int) ≤ n := ⟨hg, h2⟩
      rw [if_pos hr, decide_eq_false (by omega)]
      simp only [palletref10_Round.j0]
      rw [if_neg (by decide)]
      have := rround_l0 (n := n) (s := s) (l := l) (f := f) (w := w) (x := x) (me := me) xs hl xs.length k 0 m 0 0 (by omega) (by omega) (by omega) hm (by omega) (by omega) (by omega) (by omega)
      simpa using this
    · have hr : ¬ (MGood n s l f w x me ∧ (xs.length : Int) ≤ n) := fun q => h2 q.2
      rw [if_neg hr, decide_eq_true (by omega), no]
  · have hr : ¬ (MGood n s l f w x me ∧ (xs.length : Int) ≤ n) := fun q => hg q.1
    rw [if_neg hr]
    by_cases hy : Ok n s l f w ∧ x ≤ 4294967296
    · rw [if_pos hy, decide_eq_false (fun q => hg ⟨hy.1, hy.2, q⟩), if_neg (fun q : false = true => Bool.noConfusion q), no]
    · rw [if_neg hy, if_neg (fun q : false = true => Bool.noConfusion q), no]
end
end Go.Proofs.Ytcanccdhedmdmaa.Mem
