/- Two texts of records, one behind the other, have the records of both; what is wrong with the first one is wrong with both, but where it ends too soon. Conditions: none but that each byte is one. -/
import Derived.Test.YtnmepjpjpillcaaFew02
import Derived.Test.YtnmepjpjpillcaaWire5
import Derived.Test.YtnmepjpjpillcaaPrint0
import Derived.Test.YtnmepjpjpillcaaPrint13
set_option linter.unusedVariables false
set_option linter.unusedSimpArgs false
namespace Go.Proofs.Ytnmepjpjpillcaa.Pure
open Go.RowKit Go.Proofs.Ytnmepjpjpillcaa.Print Go.Proofs.YtnmepjpjpillcaaW.PrintWords Go.Proofs.YtnmepjpjpillcaaW.PrintLast Go.Proofs.YtnmepjpjpillcaaW.PrintMore
open Go Go.Proofs.Ytnmepjpjpillcaa.Len64 Go.Proofs.Ytnmepjpjpillcaa.Wire Go.Proofs.Ytnmepjpjpillcaa.WireSpec Go.Proofs.Ytnmepjpjpillcaa.Wire2 Go.Proofs.Ytnmepjpjpillcaa.Wire3 Go.Proofs.Ytnmepjpjpillcaa.Wire4 Go.Proofs.Ytnmepjpjpillcaa.Wire5 Go.Proofs.Ytnmepjpjpillcaa.Recs
theorem recs_count : ∀ (f : Nat) (t : List Nat), (recs f t).1.length ≤ f := by
  intro f
  induction f with
  | zero => intro t; exact Nat.le_refl _
  | succ f ih =>
    intro t
    rw [recs]
    split
    · simp
    · split
      · simp
      · split
        · simp
        · rw [List.length_cons]
          have := ih (t.drop ((sp1 t).1 + (sp1 t).2.1))
          omega
theorem recs_num (f : Nat) (t : List Nat) : (recs f t).2 = 0 ∨ (recs f t).2 = 3 ∨ (recs f t).2 = 4 ∨ (recs f t).2 = 6 := by
  induction f generalizing t with
  | zero => exact Or.inl rfl
  | succ f ih =>
    rw [recs]
    split
    · exact Or.inl rfl
    · split
      · rename_i h1 h2
        rcases sp1_shape (t := t) with h | ⟨x, h, h3⟩
        · exact absurd h h2
        · rw [h]
          simp only
          omega
      · split
        · exact ih _
        · exact Or.inl rfl
theorem WireJoins : ∀ (l0 : List Int) (l1 : List Int), l0.length ≤ maxLen → l0.length * 1 ≤ 140737488351232 → (∀ y ∈ l0, (Lit.int .u8 y).wf = true) → l1.length ≤ maxLen → l1.length * 1 ≤ 140737488351232 → (∀ y ∈ l1, (Lit.int .u8 y).wf = true) → ∃ k, palletlaw02_WireJoins.f k l0 l1 = some true := by
  intro l0 l1 _ _ h0 _ _ h1
  obtain ⟨a, rfl, ha⟩ := bytes_of h0
  obtain ⟨b, rfl, hb⟩ := bytes_of h1
  obtain ⟨k, hk⟩ : ∃ k : Nat, k = 40000 := ⟨_, rfl⟩
  refine ⟨k + 1, ?_⟩
  unfold palletlaw02_WireJoins.f
  rw [live2 (by omega), Option.bind_some, few2 (by omega), Option.bind_some, cs_len, cs_len]
  by_cases c : a.length ≤ 3000 ∧ b.length ≤ 3000
  case neg => rw [decide_eq_false c, if_neg (by decide)]
  obtain ⟨c1, c2⟩ := c
  have hab : By (a ++ b) := ha.append hb
  have lab : (a ++ b).length = a.length + b.length := List.length_append
  have r1 := Records_eq (k := k + 1) a ha (by omega) 0 a.length (by omega) (by omega) (by omega)
  have r2 := Records_eq (k := k + 1) b hb (by omega) 0 b.length (by omega) (by omega) (by omega)
  have r3 := Records_eq (k := k + 1) (a ++ b) hab (by omega) 0 (a.length + b.length) (by omega) (by omega) (by omega)
  have r4 := Records_eq (k := k + 1) (a ++ b) hab (by omega) a.length b.length (by omega) (by omega) (by omega)
  rw [List.drop_left] at r4
  rw [show ((0 : Nat) : Int) = 0 from rfl, List.drop_zero] at r1 r2 r3
  have n1 := recs_count a.length a
  have n2 := recs_count b.length b
  have n3 := recs_count (a.length + b.length) (a ++ b)
  rw [decide_eq_true ⟨c1, c2⟩, if_pos rfl, r1, Option.bind_some, r2, Option.bind_some, if_pos (by rw [List.length_nil]; omega), Option.bind_some, List.nil_append, cs_len, if_pos (by omega), ← cs_append, r3, Option.bind_some, Option.bind_some, cs_len, if_pos (by omega), ← cs_append, r4, Option.bind_some]
  simp only
  rw [SameAll_eq _ _ (recs_by _ _ hb) (recs_by _ _ hb) (by omega) (by omega), decide_eq_true rfl, Option.bind_some, if_pos rfl, bne_self_eq_false, palletlaw02_WireJoins.j0, if_neg (by decide)]
  have he := recs_num a.length a
  by_cases e : (recs a.length a).2 = 0
  · have j := recs_append_ok a.length a b b.length ha hb (Nat.le_refl _) (Nat.le_refl _) e
    rw [if_pos (by omega)]
    by_cases f : (recs b.length b).2 = 0
    · rw [if_neg (fun h => h f)] at j
      rw [if_pos (by omega), if_pos rfl, j]
      simp only
      rw [if_pos (by rfl), List.length_nil, List.length_map, if_pos (by omega), Option.bind_some, List.nil_append, List.length_map, List.length_map, if_pos (by omega), ← List.map_append, SameAll_eq]
      · simp
      · intro x hx
        rcases List.mem_append.1 hx with h | h
        · exact recs_by _ _ ha x h
        · exact recs_by _ _ hb x h
      · intro x hx
        rcases List.mem_append.1 hx with h | h
        · exact recs_by _ _ ha x h
        · exact recs_by _ _ hb x h
      · rw [List.length_append]; omega
      · rw [List.length_append]; omega
    · rw [if_pos f] at j
      rw [if_neg (by omega), if_pos rfl, j]
      simp
  · rw [if_neg (by omega), if_pos rfl]
    by_cases e3 : (recs a.length a).2 = 3
    · rw [if_pos (by omega)]
    · have j := recs_append_bad a.length a b b.length ha hb (Nat.le_refl _) e e3
      rw [if_neg (by omega), j]
      simp
end Go.Proofs.Ytnmepjpjpillcaa.Pure
