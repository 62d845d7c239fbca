/- Any events' log, each one's record, whether they may be, and are the same: the program and the document say the same. Conditions: none but that each number is of its kind, and each list's length a slice's. -/
import Derived.Test.YtcbjbgleflbpmaaDoorBaseEventWrites
import Derived.Test.YtcbjbgleflbpmaaDoorPrint0
import Derived.Test.YtcbjbgleflbpmaaDoorPrint22
set_option linter.unusedVariables false
set_option linter.unusedSimpArgs false
namespace Go.Proofs.YtcbjbgleflbpmaaDoor.Pure
open Go Go.RowKit Go.Proofs.YtcbjbgleflbpmaaDoor.Print Go.Proofs.YtcbjbgleflbpmaaDoorW.PrintWords Go.Proofs.YtcbjbgleflbpmaaDoorW.PrintLast Go.Proofs.YtcbjbgleflbpmaaDoorW.PrintMore Go.Proofs.YtcbjbgleflbpmaaDoor.Ev19 Go.Proofs.YtcbjbgleflbpmaaDoor.Wire Go.Proofs.YtcbjbgleflbpmaaDoor.Wire2
theorem writes_l0 (l m : List E) (hl : Ws l) (hm : Ws m) (nl : l.length ≤ 20010) (nm : m.length ≤ 300) (d : Nat) : ∀ (k i : Nat), i ≤ m.length → m.length - i = d → d + 1100000010 ≤ k → palletlaw19_EventWrites.l0 k l m true m (m.length : Int) (i : Int) = some true := by
  induction d with
  | zero =>
    intro k i hi hd hk
    obtain ⟨k, rfl⟩ : ∃ m, k = m + 1 := ⟨k - 1, by omega⟩
    rw [palletlaw19_EventWrites.l0, if_neg (by omega), Encode_eq l hl (by omega) (by omega), REncode_eq l hl (by omega) (by omega), Check_eq l (by omega) (by omega), RCheck_eq l (by omega) (by omega), Same_eqE l m (by omega) (by omega), RSame_eqE l m (by omega) (by omega), Option.bind_some, Option.bind_some, if_pos rfl, same_self, Option.bind_some, if_pos rfl, if_pos rfl, Option.bind_some, Option.bind_some, if_pos rfl, Option.bind_some, Option.bind_some, beq_self_eq_true]
  | succ d ih =>
    intro k i hi hd hk
    obtain ⟨k, rfl⟩ : ∃ m, k = m + 1 := ⟨k - 1, by omega⟩
    have h2 := hm _ (emem (l := m) (i := i) (by omega))
    rw [palletlaw19_EventWrites.l0, if_pos (by omega), if_pos (by omega), if_pos (by omega), rd_eq, Write_eq (by omega) _ h2, RWrite_eq (by omega) _ h2, Option.bind_some, Option.bind_some, same_self, Option.bind_some, if_pos rfl, if_pos rfl, i64 (by omega) (by omega), show (i : Int) + 1 = ((i + 1 : Nat) : Int) by omega]
    exact ih k (i + 1) (by omega) (by omega) (by omega)
theorem EventWrites : ∀ (l0 : List (S30)) (l1 : List (S30)), l0.length ≤ maxLen → l0.length * 40 ≤ 140737488351232 → (∀ y ∈ l0, ((Lit.int .i64 y.f0).wf = true) ∧ (((Lit.int .i64 y.f1).wf = true) ∧ (((Lit.int .i64 y.f2).wf = true) ∧ (((Lit.int .i64 y.f3).wf = true) ∧ (((Lit.int .i64 y.f4).wf = true)))))) → l1.length ≤ maxLen → l1.length * 40 ≤ 140737488351232 → (∀ y ∈ l1, ((Lit.int .i64 y.f0).wf = true) ∧ (((Lit.int .i64 y.f1).wf = true) ∧ (((Lit.int .i64 y.f2).wf = true) ∧ (((Lit.int .i64 y.f3).wf = true) ∧ (((Lit.int .i64 y.f4).wf = true)))))) → ∃ k, palletlaw19_EventWrites.f k l0 l1 = some true := by
  intro l m hl1 hl2 hl hm1 hm2 hm
  have wl := ws_of hl
  have wm := ws_of hm
  obtain ⟨k, hk⟩ : ∃ k : Nat, k = 1100000500 := ⟨1100000500, rfl⟩
  refine ⟨k + 1, ?_⟩
  have J : ∀ b : Bool, (b = false → l.length ≤ 20010 ∧ m.length ≤ 300) → palletlaw19_EventWrites.j0 (k + 1) l m true b = some true := by
    intro b hb
    rw [palletlaw19_EventWrites.j0]
    cases b with
    | true => rw [if_pos rfl]
    | false =>
      obtain ⟨h1, h2⟩ := hb rfl
      rw [if_neg (by decide)]
      exact writes_l0 l m wl wm h1 h2 m.length k 0 (by omega) (by omega) (by omega)
  unfold palletlaw19_EventWrites.f
  rw [live_eq (by omega), Option.bind_some, if_pos rfl]
  by_cases c1 : (l.length : Int) > 300
  · rw [if_pos c1]
    by_cases c2 : (l.length : Int) ≤ 20000
    · rw [if_pos c2]
      exact J _ (fun h => by cases h)
    rw [if_neg c2]
    by_cases c3 : (l.length : Int) > 20010
    · rw [if_pos c3]
      exact J _ (fun h => by cases h)
    rw [if_neg c3]
    exact J _ (fun h => by have := of_decide_eq_false h; omega)
  rw [if_neg c1, if_neg (by omega)]
  exact J _ (fun h => by have := of_decide_eq_false h; omega)
end Go.Proofs.YtcbjbgleflbpmaaDoor.Pure
