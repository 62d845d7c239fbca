/- Records (layer 2), as printed: what each function answers. -/
import Derived.Test.YtnmepjpjpillcaaWire4
import Derived.Test.YtnmepjpjpillcaaRecs
import Derived.Test.YtnmepjpjpillcaaPrint0
import Derived.Test.YtnmepjpjpillcaaPrint11
import Derived.Test.YtnmepjpjpillcaaPrint12
import Derived.Test.YtnmepjpjpillcaaPrint14
set_option linter.unusedVariables false
set_option linter.unusedSimpArgs false
namespace Go.Proofs.Ytnmepjpjpillcaa.Wire5
open Go Go.RowKit Go.Proofs.Ytnmepjpjpillcaa.Print Go.Proofs.YtnmepjpjpillcaaW.PrintWords Go.Proofs.YtnmepjpjpillcaaW.PrintLast Go.Proofs.YtnmepjpjpillcaaW.PrintMore Go.Proofs.Ytnmepjpjpillcaa.Len64 Go.Proofs.Ytnmepjpjpillcaa.Digits Go.Proofs.Ytnmepjpjpillcaa.Wire Go.Proofs.Ytnmepjpjpillcaa.WireSpec Go.Proofs.Ytnmepjpjpillcaa.Wire2 Go.Proofs.Ytnmepjpjpillcaa.Wire3 Go.Proofs.Ytnmepjpjpillcaa.Wire4 Go.Proofs.Ytnmepjpjpillcaa.Recs
def sres (a : Int) (s : Nat × Nat × Nat) : Int × Int × Int := if s.2.2 = 0 then (a + s.1, a + s.1 + s.2.1, 0) else (0, 0, (s.2.2 : Int))
theorem span_eq {k : Nat} (l : List Nat) (hl : By l) (hn : l.length ≤ 100000000) (a : Nat) (hk : 2 * l.length + 30 ≤ k) : wire_span.f k (cs l) (a : Int) = some (sres a (sp1 (l.drop a))) := by
  unfold wire_span.f
  rw [if_neg (by omega), cs_len]
  by_cases h : (a : Int) ≥ (l.length : Int)
  · rw [if_pos h, List.drop_of_length_le (by omega)]
    rfl
  rw [if_neg h, w64 (by omega) (by omega), show (a : Int) + 1 = ((a + 1 : Nat) : Int) by omega, TakeVary_eq l hl (by omega) (a + 1) (by omega), Option.bind_some, drop_cons l a (by omega)]
  simp only [sp1]
  rcases hd : dv 0 0 (l.drop (a + 1)) with ⟨n, c, x⟩
  have hlen : (l.drop (a + 1)).length = l.length - (a + 1) := List.length_drop
  unfold res
  by_cases h1 : x = 0
  · subst h1
    have hb := dv_bound _ 0 0 n c (hl.drop _) hd
    simp only [if_true]
    rw [if_neg (show ¬ (0 : Nat) ≠ 0 by omega)]
    by_cases h2 : 1048576 < n
    · rw [if_pos (by omega), if_pos h2]
      rfl
    rw [if_neg (by omega), if_neg h2, w64 (x := (n : Int)) (by omega) (by omega), w64 (x := (l.length : Int) - _) (by omega) (by omega), hlen]
    by_cases h3 : l.length - (a + 1) - c < n
    · rw [if_pos (by omega), if_pos h3]
      rfl
    · rw [if_neg (by omega), if_neg h3, w64 (by omega) (by omega)]
      unfold sres
      rw [if_pos rfl]
      have e1 : ((a + 1 : Nat) : Int) + (c : Int) = (a : Int) + ((1 + c : Nat) : Int) := by omega
      rw [e1]
  · simp only
    rw [if_neg h1]
    simp only
    rw [if_neg (by omega), if_pos h1]
    unfold sres
    rw [if_neg h1]
theorem span_neg {k : Nat} (l : List Int) (a : Int) (h : a < 0) : wire_span.f k l a = some (0, 0, 1) := by
  unfold wire_span.f
  rw [if_pos h]
theorem Records_l0 (l : List Nat) (hl : By l) (hn : l.length ≤ 1000000) (d : Nat) : ∀ (k a f : Nat) (x : List (List Int)), l.length - a ≤ d → a ≤ l.length → l.length - a ≤ f → 2 * l.length + 40 + d ≤ k → x.length + d ≤ 1000000000 →
    wire_Records.l0 k (cs l) (a : Int) x = some (if (recs f (l.drop a)).2 ≠ 0 then ([], ((recs f (l.drop a)).2 : Int)) else (x ++ (recs f (l.drop a)).1.map cs, 0)) := by
  induction d with
  | zero =>
    intro k a f x hd ha hf hk hx
    obtain ⟨k, rfl⟩ : ∃ m, k = m + 1 := ⟨k - 1, by omega⟩
    rw [wire_Records.l0, cs_len, if_neg (by omega), List.drop_of_length_le (by omega), recs_nil]
    simp
  | succ d ih =>
    intro k a f x hd ha hf hk hx
    obtain ⟨k, rfl⟩ : ∃ m, k = m + 1 := ⟨k - 1, by omega⟩
    rw [wire_Records.l0, cs_len]
    by_cases h : a = l.length
    · rw [if_neg (by omega), List.drop_of_length_le (by omega), recs_nil]
      simp
    rw [if_pos (by omega), span_eq l hl (by omega) a (by omega), Option.bind_some]
    have hlen : (l.drop a).length = l.length - a := List.length_drop
    have hne : l.drop a ≠ [] := fun e => by rw [e] at hlen; simp at hlen; omega
    obtain ⟨f, rfl⟩ : ∃ m, f = m + 1 := ⟨f - 1, by omega⟩
    rcases hs : sp1 (l.drop a) with ⟨u, n, y⟩
    unfold sres
    by_cases h1 : y = 0
    · subst h1
      obtain ⟨kd, r, _, _, h3, h4, h5⟩ := sp1_ok (hl.drop a) hs
      simp only [if_true]
      rw [if_pos (by omega), if_pos (by omega), if_pos (by omega), show ((a : Int) + (u : Int) + (n : Int)) = ((a + (u + n) : Nat) : Int) by omega, Int.toNat_natCast, Int.toNat_natCast, cs_take, cs_drop, clone_cs _ (by rw [List.length_drop, List.length_take]; omega), Option.bind_some, if_pos (by omega), ih k (a + (u + n)) f _ (by omega) (by omega) (by omega) (by omega) (by rw [List.length_append, List.length_singleton]; omega), recs_step hne hs, List.drop_drop]
      have et : (l.take (a + (u + n))).drop a = (l.drop a).take (u + n) := by rw [List.drop_take, Nat.add_sub_cancel_left]
      rw [et]
      by_cases c : (recs f (l.drop (a + (u + n)))).2 = 0
      · simp [c]
      · simp [c]
    · simp only
      rw [if_neg h1]
      simp only
      rw [if_neg (by omega), recs_bad hne (by rw [hs]; exact h1), hs]
      simp [h1]
theorem Records_eq {k : Nat} (l : List Nat) (hl : By l) (hn : l.length ≤ 1000000) (a f : Nat) (ha : a ≤ l.length) (hf : l.length - a ≤ f) (hk : 3 * l.length + 50 ≤ k) :
    wire_Records.f k (cs l) (a : Int) = some ((recs f (l.drop a)).1.map cs, ((recs f (l.drop a)).2 : Int)) := by
  unfold wire_Records.f
  rw [if_neg (by omega), Records_l0 l hl hn (l.length - a) k a f [] (Nat.le_refl _) ha hf (by omega) (by simp; omega)]
  by_cases c : (recs f (l.drop a)).2 = 0
  · simp [c]
  · rw [if_pos c, recs_err c]
    simp
theorem SameAll_l0 (x y : List (List Nat)) (hx : ∀ l ∈ x, By l) (hy : ∀ l ∈ y, By l) (hlen : x.length = y.length) (hn : x.length ≤ 1000000000) (d : Nat) : ∀ (k i : Nat), i ≤ x.length → x.length - i = d → d < k →
    palletref02_SameAll.l0 k (x.map cs) (y.map cs) (x.length : Int) (i : Int) = some (decide (x.drop i = y.drop i)) := by
  induction d with
  | zero =>
    intro k i hi hd hk
    obtain ⟨k, rfl⟩ : ∃ m, k = m + 1 := ⟨k - 1, by omega⟩
    rw [palletref02_SameAll.l0, if_neg (by omega), List.drop_of_length_le (by omega), List.drop_of_length_le (by omega)]
    simp
  | succ d ih =>
    intro k i hi hd hk
    obtain ⟨k, rfl⟩ : ∃ m, k = m + 1 := ⟨k - 1, by omega⟩
    have h1 : i < x.length := by omega
    have h2 : i < y.length := by omega
    have g1 : rd_L2 (x.map cs) (i : Int) = cs x[i] := by
      unfold rd_L2
      rw [Int.toNat_natCast, List.getD_eq_getElem?_getD, List.getElem?_map, List.getElem?_eq_getElem h1]
      rfl
    have g2 : rd_L2 (y.map cs) (i : Int) = cs y[i] := by
      unfold rd_L2
      rw [Int.toNat_natCast, List.getD_eq_getElem?_getD, List.getElem?_map, List.getElem?_eq_getElem h2]
      rfl
    rw [palletref02_SameAll.l0, if_pos (by omega), if_pos (by omega), List.length_map, List.length_map, if_pos (by omega), if_pos (by omega), g1, g2, same_eq _ _ (hx _ (List.getElem_mem h1)) (hy _ (List.getElem_mem h2)), Option.bind_some, List.drop_eq_getElem_cons h1, List.drop_eq_getElem_cons h2, w64 (by omega) (by omega), show (i : Int) + 1 = ((i + 1 : Nat) : Int) by omega]
    by_cases c : x[i] = y[i]
    · rw [decide_eq_true c, if_pos rfl, ih k (i + 1) (by omega) (by omega) (by omega), c]
      congr 1
      rw [decide_eq_decide, List.cons.injEq]
      simp
    · rw [decide_eq_false c, if_neg (by decide)]
      congr 1
      rw [eq_comm, decide_eq_false_iff_not, List.cons.injEq]
      exact fun h => c h.1
theorem SameAll_eq {k : Nat} (x y : List (List Nat)) (hx : ∀ l ∈ x, By l) (hy : ∀ l ∈ y, By l) (hn : x.length ≤ 1000000000) (hk : x.length < k) : palletref02_SameAll.f k (x.map cs) (y.map cs) = some (decide (x = y)) := by
  unfold palletref02_SameAll.f
  rw [List.length_map, List.length_map]
  by_cases c : x.length = y.length
  · rw [if_pos (by omega)]
    have := SameAll_l0 x y hx hy c hn x.length k 0 (by omega) (by omega) hk
    rw [List.drop_zero, List.drop_zero] at this
    exact this
  · rw [if_neg (by omega), decide_eq_false]
    intro h
    rw [h] at c
    exact c rfl
def tres (l : List Nat) (a : Nat) : Int × List Int × Int × Int := if (sp1 (l.drop a)).2.2 = 0 then (((l.getD a 0 : Nat) : Int), cs ((l.drop (a + (sp1 (l.drop a)).1)).take (sp1 (l.drop a)).2.1), ((a + ((sp1 (l.drop a)).1 + (sp1 (l.drop a)).2.1) : Nat) : Int), 0) else (0, [], 0, ((sp1 (l.drop a)).2.2 : Int))
theorem TakeRecord_eq {k : Nat} (l : List Nat) (hl : By l) (hn : l.length ≤ 100000000) (a : Nat) (hk : 2 * l.length + 30 ≤ k) : wire_TakeRecord.f k (cs l) (a : Int) = some (tres l a) := by
  unfold wire_TakeRecord.f
  rw [span_eq l hl hn a hk, Option.bind_some]
  unfold tres sres
  rcases hs : sp1 (l.drop a) with ⟨u, n, y⟩
  by_cases h1 : y = 0
  · subst h1
    obtain ⟨kd, r, _, _, h3, h4, h5⟩ := sp1_ok (hl.drop a) hs
    rw [List.length_drop] at h5
    simp only [if_true]
    rw [if_pos (by omega), cs_len, if_pos (by omega), if_pos (by omega), if_pos (by omega), if_pos (by omega), show ((a : Int) + (u : Int) + (n : Int)) = ((a + (u + n) : Nat) : Int) by omega, show ((a : Int) + (u : Int)) = ((a + u : Nat) : Int) by omega, Int.toNat_natCast, Int.toNat_natCast, cs_take, cs_drop, clone_cs _ (by rw [List.length_drop, List.length_take]; omega), Option.bind_some, cs_rd]
    rw [List.drop_take, show a + (u + n) - (a + u) = n by omega]
  · simp only
    rw [if_neg h1, if_neg h1]
    simp only
    rw [if_neg (by omega)]
/-- What is written is read. -/
theorem sp1_rb (kind : Nat) (body : List Nat) (hb : body.length ≤ 1048576) (u : List Nat) : sp1 (rb kind body ++ u) = (1 + (vb body.length).length, body.length, 0) := by
  unfold rb
  rw [List.cons_append, List.append_assoc]
  simp only [sp1]
  rw [dv_vb body.length (by omega)]
  simp only
  rw [if_neg (by omega), if_neg (by omega), if_neg (by rw [List.length_append, List.length_append]; omega)]
theorem rb_len (kind : Nat) (body : List Nat) : (rb kind body).length = 1 + (vb body.length).length + body.length := by
  unfold rb
  rw [List.length_cons, List.length_append]
  omega
end Go.Proofs.Ytnmepjpjpillcaa.Wire5
