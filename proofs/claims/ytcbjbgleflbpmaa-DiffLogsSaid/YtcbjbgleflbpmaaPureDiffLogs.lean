/- How any two logs part, or which one is none, and where: the program and the document say the same. Conditions: none but that each number is a byte, and each text's length a slice's. -/
import Derived.Test.YtcbjbgleflbpmaaDiffU
import Derived.Test.YtcbjbgleflbpmaaEv19
import Derived.Test.YtcbjbgleflbpmaaPrint0
import Derived.Test.YtcbjbgleflbpmaaPrint15
import Derived.Test.YtcbjbgleflbpmaaPrint23
import Derived.Test.YtcbjbgleflbpmaaPrint24
set_option linter.unusedVariables false
set_option linter.unusedSimpArgs false
namespace Go.Proofs.Ytcbjbgleflbpmaa.Pure
open Go Go.RowKit Go.Proofs.Ytcbjbgleflbpmaa.Print Go.Proofs.YtcbjbgleflbpmaaW.PrintWords Go.Proofs.YtcbjbgleflbpmaaW.PrintLast Go.Proofs.YtcbjbgleflbpmaaW.PrintMore Go.Proofs.Ytcbjbgleflbpmaa.Ev19 Go.Proofs.Ytcbjbgleflbpmaa.Wire Go.Proofs.Ytcbjbgleflbpmaa.Wire2
theorem dl_len (l : List Nat) : ∀ (n a : Nat) (xs : List E), (dl l n a xs).1.length ≤ xs.length + n
  | 0, a, xs => by
    rw [dl]
    split <;> simp
  | n + 1, a, xs => by
    rw [dl]
    split
    · split
      · simp
      · have := dl_len l n (re l a).2.2 (xs ++ [(re l a).2.1])
        rw [List.length_append, List.length_singleton] at this
        omega
    · simp
theorem dc_len (l : List Nat) : (dc l).1.length ≤ 20000 := by
  unfold dc
  split
  · simp
  split
  · simp
  split
  · unfold dcb
    split
    · split
      · split
        · simp
        · have := dl_len (l.take (l.length - 4)) (WireSpec.dv 0 0 ((l.take (l.length - 4)).drop 5)).1 (5 + (WireSpec.dv 0 0 ((l.take (l.length - 4)).drop 5)).2.1) []
          rw [List.length_nil] at this
          omega
      · simp
    · simp
  · simp
theorem logs_eq {k : Nat} (hk : 11000000 ≤ k) (a b : List Nat) (ha : WireSpec.By a) (hb : WireSpec.By b) (la : a.length ≤ 5000) (lb : b.length ≤ 5000) : ∃ r, diff_Logs.f k (cs a) (cs b) = some r ∧ palletref23_Logs.f k (cs a) (cs b) = some r := by
  unfold diff_Logs.f palletref23_Logs.f
  rw [Decode_eq a ha (by omega) hk, RDecode_eq a ha (by omega) hk, Decode_eq b hb (by omega) hk, RDecode_eq b hb (by omega) hk]
  simp only [Option.bind_some]
  have h1 := dc_len a
  have h2 := dc_len b
  by_cases c1 : (dc a).2.2 = 0
  · rw [if_pos c1, if_pos c1]
    by_cases c2 : (dc b).2.2 = 0
    · rw [if_pos c2, if_pos c2, Diff.events_eq _ _ (by omega) (by omega), Diff.refevents_eq _ _ (by omega) (by omega)]
      exact ⟨_, rfl, rfl⟩
    · rw [if_neg c2, if_neg c2]
      exact ⟨_, rfl, rfl⟩
  · rw [if_neg c1, if_neg c1]
    exact ⟨_, rfl, rfl⟩
theorem DiffLogs : ∀ (l0 : List Int) (l1 : List Int), l0.length ≤ maxLen → l0.length * 1 ≤ 140737488351232 → (∀ y ∈ l0, (Lit.int .u8 y).wf = true) → l1.length ≤ maxLen → l1.length * 1 ≤ 140737488351232 → (∀ y ∈ l1, (Lit.int .u8 y).wf = true) → ∃ k, palletlaw23_DiffLogs.f k l0 l1 = some true := by
  intro a b ha1 ha2 ha hb1 hb2 hb
  obtain ⟨a, rfl, hA⟩ := bytes_of ha
  obtain ⟨b, rfl, hB⟩ := bytes_of hb
  obtain ⟨k, hk⟩ : ∃ k : Nat, k = 11000000 := ⟨11000000, rfl⟩
  refine ⟨k + 1, ?_⟩
  unfold palletlaw23_DiffLogs.f
  rw [Diff.live23 (by omega)]
  simp only [Option.bind_some, if_true, cs_len]
  by_cases c1 : (a.length : Int) > 5000
  · rw [if_pos c1]
    simp [palletlaw23_DiffLogs.j0]
  rw [if_neg c1]
  by_cases c2 : (b.length : Int) > 5000
  · rw [decide_eq_true c2]
    simp [palletlaw23_DiffLogs.j0]
  rw [decide_eq_false c2]
  simp only [palletlaw23_DiffLogs.j0]
  obtain ⟨r, e1, e2⟩ := logs_eq (k := k) (by omega) a b hA hB (by omega) (by omega)
  rw [if_neg (by decide), e1, e2]
  simp
end Go.Proofs.Ytcbjbgleflbpmaa.Pure
