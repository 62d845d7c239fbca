/- Events that may be, and others that are no earlier behind them, may be; the same events a while later may be, and another one is no log of the same bytes. Conditions: none but that each number is of its kind, and each list's length a slice's. -/
import Derived.Test.YtcbjbgleflbpmaaDoorBaseEventOrders
import Derived.Test.YtcbjbgleflbpmaaDoorPrint0
import Derived.Test.YtcbjbgleflbpmaaDoorPrint14
set_option linter.unusedVariables false
set_option linter.unusedSimpArgs false
namespace Go.Proofs.YtcbjbgleflbpmaaDoor.Pure
open Go Go.RowKit Go.Proofs.YtcbjbgleflbpmaaDoor.Print Go.Proofs.YtcbjbgleflbpmaaDoorW.PrintWords Go.Proofs.YtcbjbgleflbpmaaDoorW.PrintLast Go.Proofs.YtcbjbgleflbpmaaDoorW.PrintMore Go.Proofs.YtcbjbgleflbpmaaDoor.Ev19 Go.Proofs.YtcbjbgleflbpmaaDoor.Wire Go.Proofs.YtcbjbgleflbpmaaDoor.Wire2
theorem orders_l0 (a : List E) (ha : okL a = true) (hw : Ws a) (na : a.length ≤ 300) (v : Int) (v0 : 0 ≤ v) (v1 : v ≤ 4294967295) (d : Nat) : ∀ (k i : Nat) , i ≤ a.length → a.length - i = d → (∀ j, j < i → (a.getD j z).f0 ≤ 576460752303423488) → d + 1100000010 ≤ k → palletlaw19_EventOrders.l0 k a v true ((a.take i).map (later v)) a (a.length : Int) (i : Int) = some true := by
  obtain ⟨a1, a2, a3⟩ := okL_iff.1 ha
  induction d with
  | zero =>
    intro k i hi hd hj hk
    obtain ⟨k, rfl⟩ : ∃ m, k = m + 1 := ⟨k - 1, by omega⟩
    have hn : i = a.length := by omega
    have hW : Ws (a.map (later v)) := by
      intro x hx
      obtain ⟨y, hy, rfl⟩ := List.mem_map.1 hx
      exact hw y hy
    have hO : okL (a.map (later v)) = true := by
      refine okL_iff.2 ⟨by rw [List.length_map]; omega, ?_, by rw [srt_later]; exact a3⟩
      intro x hx
      obtain ⟨y, hy, rfl⟩ := List.mem_map.1 hx
      obtain ⟨j, hjl, rfl⟩ := List.getElem_of_mem hy
      have q := hj j (by omega)
      rw [List.getD_eq_getElem?_getD, List.getElem?_eq_getElem hjl] at q
      simp only [Option.getD_some] at q
      have q2 := a2 _ (List.getElem_mem hjl)
      unfold okE at q2 ⊢
      unfold later
      simp only
      omega
    rw [palletlaw19_EventOrders.l0, if_neg (by omega), List.take_of_length_le (by omega), Encode_eq a hw (by omega) (by omega), Option.bind_some, Encode_eq _ hW (by rw [List.length_map]; omega) (by rw [List.length_map]; omega), Option.bind_some, if_pos rfl, if_pos ha, if_pos hO, if_pos rfl, if_pos rfl]
    dsimp only
    rw [same_eq _ _ (enc_by a2) (enc_by (okL_iff.1 hO).2.1), Option.bind_some]
    have key : (enc a = enc (a.map (later v))) ↔ (v = 0 ∨ a.length = 0) := by
      rw [← later_eq]
      exact ⟨fun h => enc_inj ha hO hw hW h, fun h => by rw [← h]⟩
    by_cases c : v = 0
    · rw [if_pos c, decide_eq_true (key.2 (Or.inl c))]
      rfl
    · rw [if_neg c]
      by_cases c2 : a.length = 0
      · rw [decide_eq_true (key.2 (Or.inr c2)), show ((a.length : Int) == 0) = true by rw [beq_iff_eq]; omega]
        rfl
      · rw [decide_eq_false (fun h => by rcases key.1 h with h | h <;> omega), show ((a.length : Int) == 0) = false by rw [beq_eq_false_iff_ne]; omega]
        rfl
  | succ d ih =>
    intro k i hi hd hj hk
    obtain ⟨k, rfl⟩ : ∃ m, k = m + 1 := ⟨k - 1, by omega⟩
    have q2 := a2 _ (emem (l := a) (i := i) (by omega))
    unfold okE at q2
    rw [palletlaw19_EventOrders.l0, if_pos (by omega), if_pos (by omega), if_pos (by omega), rd_eq]
    by_cases c : (a.getD i z).f0 > 576460752303423488
    · rw [if_pos c]
    · rw [if_neg c, if_pos (by rw [List.length_map, List.length_take]; omega), i64 (x := v) (by omega) (by omega), i64 (by omega) (by omega), i64 (by omega) (by omega), show (i : Int) + 1 = ((i + 1 : Nat) : Int) by omega]
      have e : (a.take i).map (later v) ++ [⟨(a.getD i z).f0 + v, (a.getD i z).f1, (a.getD i z).f2, (a.getD i z).f3, (a.getD i z).f4⟩] = (a.take (i + 1)).map (later v) := by
        rw [List.take_succ_eq_append_getElem (by omega), List.map_append, List.getD_eq_getElem?_getD, List.getElem?_eq_getElem (by omega)]
        rfl
      rw [e]
      refine ih k (i + 1) (by omega) (by omega) (fun j hj2 => ?_) (by omega)
      by_cases c2 : j < i
      · exact hj j c2
      · have : j = i := by omega
        subst this
        omega
theorem EventOrders : ∀ (l0 : List (S30)) (l1 : List (S30)) (a2 : Int), l0.length ≤ maxLen → l0.length * 40 ≤ 140737488351232 → (∀ y ∈ l0, ((Lit.int .i64 y.f0).wf = true) ∧ (((Lit.int .i64 y.f1).wf = true) ∧ (((Lit.int .i64 y.f2).wf = true) ∧ (((Lit.int .i64 y.f3).wf = true) ∧ (((Lit.int .i64 y.f4).wf = true)))))) → l1.length ≤ maxLen → l1.length * 40 ≤ 140737488351232 → (∀ y ∈ l1, ((Lit.int .i64 y.f0).wf = true) ∧ (((Lit.int .i64 y.f1).wf = true) ∧ (((Lit.int .i64 y.f2).wf = true) ∧ (((Lit.int .i64 y.f3).wf = true) ∧ (((Lit.int .i64 y.f4).wf = true)))))) → (Lit.int .u32 a2).wf = true → ∃ k, palletlaw19_EventOrders.f k l0 l1 a2 = some true := by
  intro a b v ha1 ha2 ha hb1 hb2 hb hv
  have wa := ws_of ha
  have wb := ws_of hb
  have hV : 0 ≤ v ∧ v ≤ 4294967295 := by simpa [Lit.wf, IntKind.min, IntKind.max, IntKind.signed, IntKind.bits] using hv
  obtain ⟨k, hk⟩ : ∃ k : Nat, k = 1100001000 := ⟨1100001000, rfl⟩
  refine ⟨k + 2, ?_⟩
  have J : ∀ q : Bool, (q = false → a.length ≤ 300 ∧ b.length ≤ 300 ∧ okL a = true ∧ okL b = true) → palletlaw19_EventOrders.j0 (k + 2) a b v true q = some true := by
    intro q hq
    rw [palletlaw19_EventOrders.j0]
    cases q with
    | true => rw [if_pos rfl]
    | false =>
      obtain ⟨na, nb, oa, ob⟩ := hq rfl
      have K : ∀ r : Bool, (r = true ↔ (a.length = 0 ∨ b.length = 0 ∨ (a.getD (a.length - 1) z).f0 ≤ (b.getD 0 z).f0)) → palletlaw19_EventOrders.j1 (k + 1) a v true (a ++ b) r = some true := by
        intro r hr
        have hO := okL_append oa ob (by omega)
        rw [← hr] at hO
        rw [palletlaw19_EventOrders.j1, Check_eq _ (by rw [List.length_append]; omega) (by rw [List.length_append]; omega), Option.bind_some]
        have e : (((if okL (a ++ b) = true then (0 : Int) else 1) == 0) != r) = false := by
          cases r with
          | true => rw [if_pos (hO.2 rfl)]; rfl
          | false => rw [if_neg (fun h => by have := hO.1 h; cases this)]; rfl
        rw [e, if_neg (by decide)]
        exact orders_l0 a oa wa na v hV.1 hV.2 a.length k 0 (by omega) (by omega) (fun j hj => by omega) (by omega)
      rw [if_neg (by decide), if_pos (by simp only [List.length_nil]; omega), Option.bind_some, List.nil_append, if_pos (by omega), Option.bind_some]
      by_cases c1 : (a.length : Int) = 0
      · rw [if_pos c1]
        exact K _ ⟨fun _ => Or.inl (by omega), fun _ => rfl⟩
      rw [if_neg c1]
      by_cases c2 : (b.length : Int) = 0
      · rw [if_pos c2]
        exact K _ ⟨fun _ => Or.inr (Or.inl (by omega)), fun _ => rfl⟩
      rw [if_neg c2, if_pos (by omega), i64 (by omega) (by omega), if_pos (by omega), if_pos (by omega), show (a.length : Int) - 1 = ((a.length - 1 : Nat) : Int) by omega, show (0 : Int) = ((0 : Nat) : Int) from rfl, rd_eq, rd_eq]
      refine K _ ⟨fun h => Or.inr (Or.inr (of_decide_eq_true h)), fun h => decide_eq_true ?_⟩
      rcases h with h | h | h
      · omega
      · omega
      · exact h
  unfold palletlaw19_EventOrders.f
  rw [live_eq (by omega), Option.bind_some, if_pos rfl]
  by_cases c1 : (a.length : Int) > 300
  · rw [if_pos c1]
    exact J _ (fun h => by cases h)
  rw [if_neg c1]
  by_cases c2 : (b.length : Int) > 300
  · rw [if_pos c2]
    exact J _ (fun h => by cases h)
  rw [if_neg c2, Check_eq a (by omega) (by omega), Option.bind_some]
  by_cases c3 : okL a = true
  · rw [if_pos c3, if_pos rfl, Check_eq b (by omega) (by omega), Option.bind_some]
    refine J _ (fun h => ⟨by omega, by omega, c3, ?_⟩)
    by_cases c4 : okL b = true
    · exact c4
    · rw [if_neg c4] at h
      exact absurd h (by decide)
  · rw [if_neg c3, if_neg (by decide)]
    exact J _ (fun h => by cases h)
end Go.Proofs.YtcbjbgleflbpmaaDoor.Pure
