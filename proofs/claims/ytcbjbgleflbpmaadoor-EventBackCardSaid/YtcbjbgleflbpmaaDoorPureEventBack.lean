/- What is encoded is decoded; what is decoded is encoded as it stood there. Conditions: none but that each number is of its kind, and each list's length a slice's. -/
import Derived.Test.YtcbjbgleflbpmaaDoorBaseEventBack
import Derived.Test.YtcbjbgleflbpmaaDoorPrint0
import Derived.Test.YtcbjbgleflbpmaaDoorPrint36
set_option linter.unusedVariables false
set_option linter.unusedSimpArgs false
namespace Go.Proofs.YtcbjbgleflbpmaaDoor.Pure
open Go Go.RowKit Go.Proofs.YtcbjbgleflbpmaaDoor.Print Go.Proofs.YtcbjbgleflbpmaaDoorW.PrintWords Go.Proofs.YtcbjbgleflbpmaaDoorW.PrintLast Go.Proofs.YtcbjbgleflbpmaaDoorW.PrintMore Go.Proofs.YtcbjbgleflbpmaaDoor.Ev19 Go.Proofs.YtcbjbgleflbpmaaDoor.Wire Go.Proofs.YtcbjbgleflbpmaaDoor.Wire2
theorem back_j1 {k : Nat} (hk : 1100000000 ≤ k) (l : List E) (hw : Ws l) (hn : l.length ≤ 2000) : palletlaw19_EventBack.j1 (k + 1) l true = some true := by
  rw [palletlaw19_EventBack.j1, Encode_eq l hw (by omega) (by omega), Option.bind_some]
  by_cases h : okL l = true
  · rw [if_pos h, if_pos rfl]
    dsimp only
    have hb := enc_by (okL_iff.1 h).2.1
    have hl := lbody_len (okL_iff.1 h).2.1 hw (okL_iff.1 h).1
    have he := enc_len l
    rw [Decode_eq _ hb (by omega) (by omega), Option.bind_some, dc_enc h hw]
    dsimp only
    rw [if_pos rfl, if_pos rfl, if_pos rfl, Same_eqE _ _ (by omega) (by omega), Option.bind_some, decide_eq_true rfl]
  · rw [if_neg h, if_neg (by decide), if_pos rfl, Check_eq l (by omega) (by omega), Option.bind_some, if_neg h]
    rfl
theorem EventBack : ∀ (l0 : List (S30)) (l1 : List Int), l0.length ≤ maxLen → l0.length * 40 ≤ 140737488351232 → (∀ y ∈ l0, ((Lit.int .i64 y.f0).wf = true) ∧ (((Lit.int .i64 y.f1).wf = true) ∧ (((Lit.int .i64 y.f2).wf = true) ∧ (((Lit.int .i64 y.f3).wf = true) ∧ (((Lit.int .i64 y.f4).wf = true)))))) → l1.length ≤ maxLen → l1.length * 1 ≤ 140737488351232 → (∀ y ∈ l1, (Lit.int .u8 y).wf = true) → ∃ k, palletlaw19_EventBack.f k l0 l1 = some true := by
  intro l b hl1 hl2 hl hb1 hb2 hb
  obtain ⟨b, rfl, hB⟩ := bytes_of hb
  have hw := ws_of hl
  obtain ⟨k, hk⟩ : ∃ k : Nat, k = 1100000010 := ⟨1100000010, rfl⟩
  refine ⟨k + 2, ?_⟩
  unfold palletlaw19_EventBack.f
  rw [live_eq (by omega), Option.bind_some, if_pos rfl, cs_len]
  by_cases c1 : (l.length : Int) > 2000
  · rw [if_pos c1, palletlaw19_EventBack.j0, if_pos rfl]
  rw [if_neg c1]
  by_cases c2 : (b.length : Int) > 5000
  · rw [decide_eq_true c2, palletlaw19_EventBack.j0, if_pos rfl]
  rw [decide_eq_false c2, palletlaw19_EventBack.j0, if_neg (by decide), Decode_eq b hB (by omega) (by omega), Option.bind_some]
  by_cases h : (dc b).2.2 = 0
  · obtain ⟨h1, h2, h3, h4⟩ := dc_back hB h
    rw [if_pos h, Encode_eq _ h2 (by have := (okL_iff.1 h1).1; omega) (by omega), Option.bind_some, if_pos h1, if_pos rfl]
    dsimp only
    rw [← h3, same_self, Option.bind_some, if_pos rfl, Check_eq _ (by have := (okL_iff.1 h1).1; omega) (by omega), Option.bind_some, if_pos h1, if_pos rfl]
    exact back_j1 (by omega) l hw (by omega)
  · rw [if_neg h]
    exact back_j1 (by omega) l hw (by omega)
end Go.Proofs.YtcbjbgleflbpmaaDoor.Pure
