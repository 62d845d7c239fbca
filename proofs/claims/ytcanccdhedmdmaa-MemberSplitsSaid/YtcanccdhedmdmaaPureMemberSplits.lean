/- Slots that are gone through in two goes come to the same members as in one, and to tallies that are one together. Conditions: none but that each number is of its kind, and the list's length a slice's. -/
import Derived.Test.YtcanccdhedmdmaaLive10
import Derived.Test.YtcanccdhedmdmaaMemRound
import Derived.Test.YtcanccdhedmdmaaPrint0
import Derived.Test.YtcanccdhedmdmaaPrint23
set_option linter.unusedVariables false
set_option linter.unusedSimpArgs false
namespace Go.Proofs.Ytcanccdhedmdmaa.Pure
open Go.RowKit Go.Proofs.Ytcanccdhedmdmaa.Print Go.Proofs.YtcanccdhedmdmaaW.PrintWords Go.Proofs.YtcanccdhedmdmaaW.PrintLast Go.Proofs.YtcanccdhedmdmaaW.PrintMore Go.Proofs.Ytcanccdhedmdmaa.Medl

open Go.Proofs.Ytcanccdhedmdmaa.Mem Go.Proofs.Ytcanccdhedmdmaa.Bits16
theorem wfu16 {x : Int} (h : (Lit.int .u16 x).wf = true) : ∃ m : Nat, x = m ∧ m < 65536 := by
  have h : 0 ≤ x ∧ x ≤ 65535 := by simpa [Lit.wf, IntKind.min, IntKind.max, IntKind.signed, IntKind.bits] using h
  exact ⟨x.toNat, by omega, by omega⟩
section
variable {n s l f w x me : Int}
theorem rnd_app (A B : List Int) : ∀ (i : Int) (m : Nat) (g b : Int), rnd n s l f w me x (A ++ B) i m g b = (rnd n s l f w me x A i m g b).bind fun r => rnd n s l f w me x B (i + A.length) r.1 r.2.1 r.2.2 := by
  induction A with
  | nil =>
    intro i m g b
    simp [rnd]
  | cons v A ih =>
    intro i m g b
    simp only [List.cons_append, rnd]
    by_cases h : MGood n s l f w (Xs x i) me ∧ 0 ≤ v ∧ v ≤ 3
    · rw [if_pos h, if_pos h, ih, show i + 1 + (A.length : Int) = i + ((v :: A).length : Int) by simp only [List.length_cons]; omega]
    · rw [if_neg h, if_neg h]
      rfl
theorem rnd_later (j : Int) (B : List Int) : ∀ (i : Int) (m : Nat) (g b : Int), rnd n s l f w me (Xs x j) B i m g b = rnd n s l f w me x B (j + i) m g b := by
  induction B with
  | nil => intros; rfl
  | cons v B ih =>
    intro i m g b
    have e : Xs (Xs x j) i = Xs x (j + i) := by rw [Xs_eq, Xs_eq, Xs_eq]; omega
    simp only [rnd]
    rw [e, ih, show j + (i + 1) = j + i + 1 by omega]
theorem cnt_add {g b v p q : Int} (hv : 0 ≤ v ∧ v ≤ 3) (p0 : 0 ≤ p) (q0 : 0 ≤ q) (g0 : 0 ≤ g) (b0 : 0 ≤ b) (g1 : p + g < 1073741824) (b1 : q + b < 1073741824) :
    (cnt (p + g) (q + b) v).1 = p + (cnt g b v).1 ∧ (cnt (p + g) (q + b) v).2.1 = q + (cnt g b v).2.1 ∧ 0 ≤ (cnt g b v).1 ∧ (cnt g b v).1 ≤ g + 1 ∧ 0 ≤ (cnt g b v).2.1 ∧ (cnt g b v).2.1 ≤ b + 1 := by
  have c1 : Cok g b v := ⟨hv.1, hv.2, g0, b0, by omega, by omega⟩
  have c2 : Cok (p + g) (q + b) v := ⟨hv.1, hv.2, by omega, by omega, by omega, by omega⟩
  have e : ∀ a : Int, 0 ≤ a → a < 1073741824 → mn (wrap64 (a + 1)) 1073741824 = a + 1 := by
    intro a h0 h1
    rw [w64 (by omega) (by omega)]
    unfold mn
    split <;> omega
  unfold cnt
  rw [if_pos c1, if_pos c2, e _ (by omega) g1, e _ (by omega) b1, e g g0 (by omega), e b b0 (by omega)]
  by_cases h1 : v = 1 ∨ v = 2
  · rw [if_pos h1, if_pos h1]
    dsimp only
    omega
  rw [if_neg h1, if_neg h1]
  by_cases h3 : v = 3
  · rw [if_pos h3, if_pos h3]
    dsimp only
    omega
  · rw [if_neg h3, if_neg h3]
    dsimp only
    omega
theorem rnd_add (B : List Int) : ∀ (i : Int) (m : Nat) (g b p q : Int), 0 ≤ p → 0 ≤ q → 0 ≤ g → 0 ≤ b → p + g + B.length < 1073741824 → q + b + B.length < 1073741824 →
    rnd n s l f w me x B i m (p + g) (q + b) = (rnd n s l f w me x B i m g b).map fun r => (r.1, p + r.2.1, q + r.2.2) := by
  induction B with
  | nil => intros; rfl
  | cons v B ih =>
    intro i m g b p q p0 q0 g0 b0 g1 b1
    simp only [List.length_cons] at g1 b1
    simp only [rnd]
    by_cases h : MGood n s l f w (Xs x i) me ∧ 0 ≤ v ∧ v ≤ 3
    · obtain ⟨e1, e2, e3, e4, e5, e6⟩ := cnt_add h.2 p0 q0 g0 b0 (show p + g < 1073741824 by omega) (show q + b < 1073741824 by omega)
      rw [if_pos h, if_pos h, e1, e2, ih _ _ _ _ p q p0 q0 e3 e5 (by omega) (by omega)]
    · rw [if_neg h, if_neg h]
      rfl
theorem rnd_bound (B : List Int) : ∀ (i : Int) (m : Nat) (g b : Int), m < 65536 → 0 ≤ g → 0 ≤ b → g + B.length < 1073741824 → b + B.length < 1073741824 → ∀ r, rnd n s l f w me x B i m g b = some r →
    r.1 < 65536 ∧ 0 ≤ r.2.1 ∧ r.2.1 ≤ g + B.length ∧ 0 ≤ r.2.2 ∧ r.2.2 ≤ b + B.length := by
  induction B with
  | nil =>
    intro i m g b hm g0 b0 g1 b1 r h
    simp only [rnd, Option.some.injEq] at h
    subst h
    exact ⟨hm, g0, by simp, b0, by simp⟩
  | cons v B ih =>
    intro i m g b hm g0 b0 g1 b1 r h
    simp only [List.length_cons] at g1 b1 ⊢
    simp only [rnd] at h
    by_cases hr : MGood n s l f w (Xs x i) me ∧ 0 ≤ v ∧ v ≤ 3
    · have e := cnt_add (p := 0) (q := 0) hr.2 (by omega) (by omega) g0 b0 (show 0 + g < 1073741824 by omega) (show 0 + b < 1073741824 by omega)
      rw [if_pos hr] at h
      have := ih _ _ _ _ (aft_lt hm _ _ _) e.2.2.1 e.2.2.2.2.1 (by omega) (by omega) r h
      exact ⟨this.1, this.2.1, by omega, this.2.2.2.1, by omega⟩
    · rw [if_neg hr] at h
      exact absurd h (by simp)
end
theorem MemberSplits : ∀ (a0_0 : Int) (a0_1 : Int) (a0_2 : Int) (a0_3 : Int) (a0_4 : Int) (a1 : Int) (a2 : Int) (a3 : Int) (l4 : List Int) (a5 : Int), (Lit.int .i64 a0_0).wf = true → (Lit.int .i64 a0_1).wf = true → (Lit.int .i64 a0_2).wf = true → (Lit.int .i64 a0_3).wf = true → (Lit.int .i64 a0_4).wf = true → (Lit.int .i64 a1).wf = true → (Lit.int .u16 a2).wf = true → (Lit.int .u64 a3).wf = true → l4.length ≤ maxLen → l4.length * 8 ≤ 140737488351232 → (∀ y ∈ l4, (Lit.int .i64 y).wf = true) → (Lit.int .i64 a5).wf = true → ∃ k, palletlaw10_MemberSplits.f k a0_0 a0_1 a0_2 a0_3 a0_4 a1 a2 a3 l4 a5 = some true := by
  intro n s l f w me own x xs a _ _ _ _ _ _ hown hx _ _ _ ha
  obtain ⟨m, rfl, hm⟩ := wfu16 hown
  have h0 := (wfu64 hx).1
  have ha := wf64 ha
  obtain ⟨k, hk⟩ : ∃ k : Nat, k = 200 := ⟨200, rfl⟩
  refine ⟨k, ?_⟩
  unfold palletlaw10_MemberSplits.f
  rw [live10 (by omega)]
  simp only [Option.bind_some, if_true]
  by_cases c : (xs.length : Int) > 100
  · rw [if_pos c]
  obtain ⟨j, hj, ej⟩ : ∃ j : Nat, j ≤ xs.length ∧ Int.tmod (wrap64 ((wrap64 ((Int.tmod a (wrap64 ((xs.length : Int) + 1))) + (xs.length : Int))) + 1)) (wrap64 ((xs.length : Int) + 1)) = (j : Int) := by
    have hmod : -((xs.length : Int) + 1) < Int.tmod a ((xs.length : Int) + 1) ∧ Int.tmod a ((xs.length : Int) + 1) < (xs.length : Int) + 1 := by
      have e1 := Int.lt_tmod_of_pos a (show 0 < (xs.length : Int) + 1 by omega)
      have e2 := Int.tmod_lt_of_pos a (show 0 < (xs.length : Int) + 1 by omega)
      omega
    rw [w64 (x := (xs.length : Int) + 1) (by omega) (by omega)]
    generalize Int.tmod a ((xs.length : Int) + 1) = q at *
    rw [w64 (x := q + (xs.length : Int)) (by omega) (by omega), w64 (x := q + (xs.length : Int) + 1) (by omega) (by omega), Int.tmod_eq_emod_of_nonneg (by omega)]
    have e0 := Int.emod_nonneg (q + (xs.length : Int) + 1) (show (xs.length : Int) + 1 ≠ 0 by omega)
    have e1 := Int.emod_lt_of_pos (q + (xs.length : Int) + 1) (show 0 < (xs.length : Int) + 1 by omega)
    exact ⟨((q + (xs.length : Int) + 1) % ((xs.length : Int) + 1)).toNat, by omega, by omega⟩
  rw [if_neg c, ej, if_neg (by rw [w64 (by omega) (by omega)]; omega), round_eq (by omega) hm h0 xs (by omega)]
  simp only [Option.bind_some]
  by_cases hG : MGood n s l f w x me ∧ (xs.length : Int) ≤ n
  case neg =>
    rw [if_neg hG, if_neg (show ¬ (0, 0, 0, 1).2.2.2 = (0 : Int) by decide)]
    rfl
  rw [if_pos hG]
  have split : xs = xs.take j ++ xs.drop j := (List.take_append_drop j xs).symm
  have lt : (xs.take j).length = j := by rw [List.length_take]; omega
  have ld : (xs.drop j).length = xs.length - j := List.length_drop ..
  have ap := rnd_app (n := n) (s := s) (l := l) (f := f) (w := w) (x := x) (me := me) (xs.take j) (xs.drop j) 0 m 0 0
  rw [← split, lt] at ap
  cases h1 : rnd n s l f w me x (xs.take j) 0 m 0 0 with
  | none =>
    rw [h1] at ap
    rw [ap]
    rfl
  | some r =>
    obtain ⟨m1, g1, b1⟩ := r
    have hb := rnd_bound (xs.take j) 0 m 0 0 hm (by omega) (by omega) (by omega) (by omega) _ h1
    rw [lt] at hb
    simp only at hb
    rw [h1, Option.bind_some] at ap
    have ad := rnd_add (n := n) (s := s) (l := l) (f := f) (w := w) (x := x) (me := me) (xs.drop j) ((j : Int) + 0) m1 0 0 g1 b1 hb.2.1 hb.2.2.2.1 (by omega) (by omega) (by omega) (by omega)
    rw [Int.add_zero, Int.add_zero, Int.add_zero] at ad
    rw [Int.zero_add] at ap
    simp only at ap
    rw [ad] at ap
    cases h2 : rnd n s l f w me x (xs.drop j) (j : Int) m1 0 0 with
    | none =>
      rw [h2] at ap
      rw [ap]
      rfl
    | some r =>
      obtain ⟨m2, g2, b2⟩ := r
      have hb2 := rnd_bound (xs.drop j) j m1 0 0 hb.1 (by omega) (by omega) (by omega) (by omega) _ h2
      rw [ld] at hb2
      simp only at hb2
      rw [h2] at ap
      simp only [Option.map_some] at ap
      rw [ap]
      simp only [out]
      rw [if_pos trivial]
      by_cases hc : (j : Int) = xs.length
      · rw [if_pos hc]
      have hn2 : xs.drop j = rd xs (j : Int) :: xs.drop (j + 1) := drop_rd (by omega)
      have hX : IntKind.u64.wrap (x + IntKind.u64.wrap (j : Int)) = Xs x j := rfl
      have hG2 : MGood n s l f w (Xs x j) me := by
        rw [hn2] at h2
        simp only [rnd] at h2
        by_cases hr : MGood n s l f w (Xs x j) me ∧ 0 ≤ rd xs (j : Int) ∧ rd xs (j : Int) ≤ 3
        · exact hr.1
        · rw [if_neg hr] at h2
          exact absurd h2 (by simp)
      have r1 : MGood n s l f w x me ∧ ((xs.take j).length : Int) ≤ n := ⟨hG.1, by omega⟩
      have r2 : MGood n s l f w (Xs x j) me ∧ ((xs.drop j).length : Int) ≤ n := ⟨hG2, by omega⟩
      have la := rnd_later (n := n) (s := s) (l := l) (f := f) (w := w) (x := x) (me := me) (j : Int) (xs.drop j) 0 m1 0 0
      rw [Int.add_zero, h2] at la
      rw [if_neg hc, if_pos (by omega), if_pos (by omega), Int.toNat_natCast, round_eq (by omega) hm h0 _ (by omega), if_pos r1, h1]
      simp only [Option.bind_some, out]
      rw [hX, round_eq (by omega) hb.1 (Xs_nonneg x j) _ (by omega), if_pos r2, la]
      simp only [Option.bind_some, out, if_true]
      rw [w64 (by omega) (by omega), w64 (by omega) (by omega)]
      simp
end Go.Proofs.Ytcanccdhedmdmaa.Pure
