/- A round in which each slot was as it is to be leaves each node of the schedule a member; one in which none was heard leaves this node alone, of those of the schedule. Conditions: none but that each number is of its kind. -/
import Derived.Test.YtcanccdhedmdmaaLive10
import Derived.Test.YtcanccdhedmdmaaMemRound
import Derived.Test.YtcanccdhedmdmaaPrint0
import Derived.Test.YtcanccdhedmdmaaPrint7
import Derived.Test.YtcanccdhedmdmaaPrint24
set_option linter.unusedVariables false
set_option linter.unusedSimpArgs false
namespace Go.Proofs.Ytcanccdhedmdmaa.Pure
open Go.RowKit Go.Proofs.Ytcanccdhedmdmaa.Print Go.Proofs.YtcanccdhedmdmaaW.PrintWords Go.Proofs.YtcanccdhedmdmaaW.PrintLast Go.Proofs.YtcanccdhedmdmaaW.PrintMore Go.Proofs.Ytcanccdhedmdmaa.Medl

open Go.Proofs.Ytcanccdhedmdmaa.Mem Go.Proofs.Ytcanccdhedmdmaa.Bits16
theorem wfu16 {x : Int} (h : (Lit.int .u16 x).wf = true) : ∃ m : Nat, x = m ∧ m < 65536 := by
  have h : 0 ≤ x ∧ x ≤ 65535 := by simpa [Lit.wf, IntKind.min, IntKind.max, IntKind.signed, IntKind.bits] using h
  exact ⟨x.toNat, by omega, by omega⟩
section
variable {n s l f w x me : Int}
theorem slot_in (hx : 0 ≤ x ∧ x ≤ 2147483648) {i : Int} (i0 : 0 ≤ i) (i1 : i ≤ 16) : Xs x i = x + i := by rw [Xs_eq]; omega
theorem rnd_ones (h : Ok n s l f w) (hx : 0 ≤ x ∧ x ≤ 2147483648) (hme : 0 ≤ me ∧ me < n) : ∀ (j : Nat) (i : Nat) (m : Nat) (g : Int), i + j ≤ 16 → m < 65536 → 0 ≤ g → g ≤ i →
    ∃ r, rnd n s l f w me x (List.replicate j 1) i m g 0 = some (r, g + j, 0) ∧ r < 65536 ∧ ∀ q : Nat, q < 16 → (r.testBit q = true ↔ m.testBit q = true ∨ ∃ e : Nat, i ≤ e ∧ e < i + j ∧ (x + e) % n = q)
  | 0, i, m, g, _, hm, _, _ => ⟨m, by simp [rnd], hm, fun q _ => ⟨Or.inl, fun c => c.elim id (fun ⟨e, a, b, _⟩ => by omega)⟩⟩
  | j + 1, i, m, g, hj, hm, g0, g1 => by
    have sx := slot_in (x := x) hx (i := (i : Int)) (by omega) (by omega)
    have hr : MGood n s l f w (Xs x i) me ∧ (0 : Int) ≤ 1 ∧ (1 : Int) ≤ 3 := ⟨⟨h, by omega, hme⟩, by decide, by decide⟩
    obtain ⟨o, eo, ho⟩ := owner_nat (x := x + i) h (by omega)
    have hc : Cok g 0 1 := ⟨by decide, by decide, g0, by decide, by omega, by decide⟩
    have ec : cnt g 0 1 = (g + 1, 0, 0) := by
      unfold cnt
      rw [if_pos hc, if_pos (Or.inl rfl), w64 (by omega) (by omega)]
      unfold mn
      rw [if_neg (by omega)]
    have ea : aft m me.toNat o 1 = wi m o := by
      unfold aft
      split <;> simp
    obtain ⟨r, e1, e2, e3⟩ := rnd_ones h hx hme j (i + 1) (wi m o) (g + 1) (by omega) (wi_lt hm) (by omega) (by omega)
    refine ⟨r, ?_, e2, fun q hq => ?_⟩
    · rw [List.replicate_succ]
      simp only [rnd]
      rw [if_pos hr, sx, eo, Int.toNat_natCast, ea, ec, show ((i : Int) + 1) = ((i + 1 : Nat) : Int) by omega]
      simp only
      rw [e1, show g + 1 + (j : Int) = g + ((j + 1 : Nat) : Int) by omega]
    · rw [e3 q hq, wi_bit _ _ _ ho]
      constructor
      · rintro (c | ⟨e, a, b, c⟩)
        · rw [Bool.or_eq_true, decide_eq_true_eq] at c
          rcases c with c | c
          · exact Or.inl c
          · exact Or.inr ⟨i, by omega, by omega, by omega⟩
        · exact Or.inr ⟨e, by omega, by omega, c⟩
      · rintro (c | ⟨e, a, b, c⟩)
        · exact Or.inl (by simp [c])
        · by_cases he : e = i
          · subst he
            have : o = q := by omega
            exact Or.inl (by simp [this])
          · exact Or.inr ⟨e, by omega, by omega, c⟩
theorem rnd_zeros (h : Ok n s l f w) (hx : 0 ≤ x ∧ x ≤ 2147483648) (hme : 0 ≤ me ∧ me < n) : ∀ (j : Nat) (i : Nat) (m : Nat), i + j ≤ 16 → m < 65536 →
    ∃ r, rnd n s l f w me x (List.replicate j 0) i m 0 0 = some (r, 0, 0) ∧ r < 65536 ∧ ∀ q : Nat, q < 16 → ((∃ e : Nat, i ≤ e ∧ e < i + j ∧ (x + e) % n = q) → (r.testBit q = decide ((q : Int) = me))) ∧ ((¬ ∃ e : Nat, i ≤ e ∧ e < i + j ∧ (x + e) % n = q) → r.testBit q = m.testBit q)
  | 0, i, m, _, hm => ⟨m, by simp [rnd], hm, fun q _ => ⟨fun ⟨e, a, b, _⟩ => by omega, fun _ => rfl⟩⟩
  | j + 1, i, m, hj, hm => by
    have sx := slot_in (x := x) hx (i := (i : Int)) (by omega) (by omega)
    have hr : MGood n s l f w (Xs x i) me ∧ (0 : Int) ≤ 0 ∧ (0 : Int) ≤ 3 := ⟨⟨h, by omega, hme⟩, by decide, by decide⟩
    obtain ⟨o, eo, ho⟩ := owner_nat (x := x + i) h (by omega)
    have ec : cnt 0 0 0 = (0, 0, 0) := by decide
    have hm2 := aft_lt hm me.toNat o 0
    obtain ⟨r, e1, e2, e3⟩ := rnd_zeros h hx hme j (i + 1) (aft m me.toNat o 0) (by omega) hm2
    have bit : ∀ q : Nat, q < 16 → (aft m me.toNat o 0).testBit q = if o = q then decide ((q : Int) = me) else m.testBit q := by
      intro q hq
      unfold aft
      by_cases hmo : me.toNat = o
      · rw [if_pos hmo, wi_bit _ _ _ ho]
        by_cases c : o = q
        · have : (q : Int) = me := by omega
          simp [c, this]
        · simp [c]
      · rw [if_neg hmo, if_neg (by decide), if_neg (by decide), wo_bit _ _ _ hm ho]
        by_cases c : o = q
        · have : ¬ (q : Int) = me := by omega
          simp [c, this]
        · simp [c]
    refine ⟨r, ?_, e2, fun q hq => ⟨fun ⟨e, a, b, c⟩ => ?_, fun c => ?_⟩⟩
    · rw [List.replicate_succ]
      simp only [rnd]
      rw [if_pos hr, sx, eo, Int.toNat_natCast, ec, show ((i : Int) + 1) = ((i + 1 : Nat) : Int) by omega]
      exact e1
    · by_cases c2 : ∃ e : Nat, i + 1 ≤ e ∧ e < i + 1 + j ∧ (x + e) % n = q
      · exact (e3 q hq).1 c2
      · rw [(e3 q hq).2 c2, bit q hq]
        have he : e = i := by
          by_cases he : e = i
          · exact he
          · exact absurd ⟨e, by omega, by omega, c⟩ c2
        subst he
        rw [if_pos (by omega)]
    · rw [(e3 q hq).2 (fun ⟨e, a, b, d⟩ => c ⟨e, by omega, by omega, d⟩), bit q hq, if_neg (fun d => c ⟨i, by omega, by omega, by omega⟩)]
theorem owns (h : Ok n s l f w) (hx : 0 ≤ x) {q : Nat} (hq : (q : Int) < n) : ∃ e : Nat, 0 ≤ e ∧ e < 0 + n.toNat ∧ (x + e) % n = q := by
  have hn := h.1
  have e0 := Int.emod_nonneg ((q : Int) - x) (show n ≠ 0 by omega)
  have e1 := Int.emod_lt_of_pos ((q : Int) - x) (show 0 < n by omega)
  refine ⟨(((q : Int) - x) % n).toNat, by omega, by omega, ?_⟩
  rw [Int.toNat_of_nonneg e0, Int.add_emod_emod, show x + ((q : Int) - x) = q by omega]
  exact Int.emod_eq_of_lt (by omega) hq
theorem whole_l1 {a b : Nat} (ha : a < 65536) (hb : b < 65536) (h : Ok n s l f w) (h1 : ∀ q : Nat, (q : Int) < n → a.testBit q = true) (h2 : ∀ q : Nat, (q : Int) < n → b.testBit q = decide ((q : Int) = me)) : ∀ (d k i : Nat), (i : Int) ≤ n → (n - i).toNat = d → d < k →
    palletlaw10_MemberWhole.l1 k me true a b n i = some true := by
  have hn := h.1
  have hn2 := h.2.1
  intro d
  induction d with
  | zero =>
    intro k i hi hd hk
    obtain ⟨k, rfl⟩ : ∃ j, k = j + 1 := ⟨k - 1, by omega⟩
    simp only [palletlaw10_MemberWhole.l1]
    rw [if_neg (by omega)]
  | succ d ih =>
    intro k i hi hd hk
    obtain ⟨k, rfl⟩ : ∃ j, k = j + 1 := ⟨k - 1, by omega⟩
    have hi2 : (i : Int) < n := by omega
    have r := ih k (i + 1) (by omega) (by omega) (by omega)
    simp only [palletlaw10_MemberWhole.l1]
    rw [if_pos hi2, has_eq ha (by omega), Option.bind_some, h1 i hi2, if_pos rfl, has_eq hb (by omega), Option.bind_some, h2 i hi2]
    have e : (decide ((i : Int) = me) != ((i : Int) == me)) = false := by
      by_cases c : (i : Int) = me
      · simp [c]
      · simp [c]
    rw [e, if_neg (by decide), w64 (by omega) (by omega), show (i : Int) + 1 = ((i + 1 : Nat) : Int) by omega]
    exact r
theorem whole_l0 (h : Ok n s l f w) (hx : 0 ≤ x ∧ x ≤ 2147483648) (hme : 0 ≤ me ∧ me < n) {m : Nat} (hm : m < 65536) : ∀ (d k i : Nat), (i : Int) ≤ n → (n - i).toNat = d → d + 200 < k →
    palletlaw10_MemberWhole.l0 k me m x true (List.replicate i 1) (List.replicate i 0) n i n s l f w = some true := by
  have hn := h.1
  have hn2 := h.2.1
  intro d
  induction d with
  | zero =>
    intro k i hi hd hk
    obtain ⟨k, rfl⟩ : ∃ j, k = j + 2 := ⟨k - 2, by omega⟩
    obtain rfl : i = n.toNat := by omega
    obtain ⟨a, a1, a2, a3⟩ := rnd_ones (x := x) h hx hme n.toNat 0 m 0 (by omega) hm (by omega) (by omega)
    obtain ⟨b, b1, b2, b3⟩ := rnd_zeros (x := x) h hx hme n.toNat 0 m (by omega) hm
    have r1 : MGood n s l f w x me ∧ ((List.replicate n.toNat (1 : Int)).length : Int) ≤ n := ⟨⟨h, by omega, hme⟩, by rw [List.length_replicate]; omega⟩
    have r2 : MGood n s l f w x me ∧ ((List.replicate n.toNat (0 : Int)).length : Int) ≤ n := ⟨⟨h, by omega, hme⟩, by rw [List.length_replicate]; omega⟩
    have hi0 : ((0 : Nat) : Int) = 0 := rfl
    rw [hi0] at a1 b1
    simp only [palletlaw10_MemberWhole.l0]
    rw [if_neg (by omega), round_eq (by omega) hm hx.1 _ (by rw [List.length_replicate]; omega), round_eq (by omega) hm hx.1 _ (by rw [List.length_replicate]; omega), if_pos r1, if_pos r2, a1, b1]
    simp only [Option.bind_some, out]
    rw [if_pos trivial, if_pos trivial, if_pos (by omega), if_pos trivial, if_neg (by decide)]
    have c1 : member_Clique.f (0 + (n.toNat : Int)) 0 = some false := by
      unfold member_Clique.f
      rw [if_neg (by decide)]
    have c2 : member_Clique.f 0 0 = some false := by decide
    rw [c1, Option.bind_some, if_neg (by decide), c2, Option.bind_some]
    simp only [palletlaw10_MemberWhole.j2]
    rw [if_neg (by decide)]
    exact whole_l1 a2 b2 h (fun q hq => (a3 q (by omega)).2 (Or.inr (owns h hx.1 hq))) (fun q hq => (b3 q (by omega)).1 (owns h hx.1 hq)) n.toNat k 0 (by omega) (by omega) (by omega)
  | succ d ih =>
    intro k i hi hd hk
    obtain ⟨k, rfl⟩ : ∃ j, k = j + 1 := ⟨k - 1, by omega⟩
    have r := ih k (i + 1) (by omega) (by omega) (by omega)
    simp only [palletlaw10_MemberWhole.l0]
    rw [if_pos (by omega), List.length_replicate, List.length_replicate, if_pos (by omega), if_pos (by omega), w64 (by omega) (by omega), show (i : Int) + 1 = ((i + 1 : Nat) : Int) by omega, ← List.replicate_succ', ← List.replicate_succ']
    exact r
end
theorem MemberWhole : ∀ (a0_0 : Int) (a0_1 : Int) (a0_2 : Int) (a0_3 : Int) (a0_4 : Int) (a1 : Int) (a2 : Int) (a3 : Int), (Lit.int .i64 a0_0).wf = true → (Lit.int .i64 a0_1).wf = true → (Lit.int .i64 a0_2).wf = true → (Lit.int .i64 a0_3).wf = true → (Lit.int .i64 a0_4).wf = true → (Lit.int .i64 a1).wf = true → (Lit.int .u16 a2).wf = true → (Lit.int .u64 a3).wf = true → ∃ k, palletlaw10_MemberWhole.f k a0_0 a0_1 a0_2 a0_3 a0_4 a1 a2 a3 = some true := by
  intro n s l f w me own x _ _ _ _ _ _ hown hx
  obtain ⟨m, rfl, hm⟩ := wfu16 hown
  have h0 := (wfu64 hx).1
  obtain ⟨k, hk⟩ : ∃ k : Nat, k = 400 := ⟨400, rfl⟩
  refine ⟨k + 1, ?_⟩
  unfold palletlaw10_MemberWhole.f
  rw [live10 (by omega), check]
  simp only [Option.bind_some, if_true]
  have no : palletlaw10_MemberWhole.j0 (k + 1) me m x true true n s l f w = some true := by simp [palletlaw10_MemberWhole.j0]
  by_cases h : Ok n s l f w
  case neg =>
    rw [if_neg h, if_neg (by decide), no]
  rw [if_pos h, if_pos rfl]
  by_cases h1 : me < 0
  · rw [if_pos h1, no]
  rw [if_neg h1]
  by_cases h2 : me ≥ n
  · rw [if_pos h2, no]
  rw [if_neg h2]
  by_cases h3 : x > 2147483648
  · rw [if_pos h3, no]
  have hn2 := h.2.1
  rw [if_neg h3, decide_eq_false (by omega)]
  simp only [palletlaw10_MemberWhole.j0]
  rw [if_neg (by decide)]
  exact whole_l0 h ⟨h0, by omega⟩ ⟨by omega, by omega⟩ hm n.toNat k 0 (by omega) (by omega) (by omega)
end Go.Proofs.Ytcanccdhedmdmaa.Pure
