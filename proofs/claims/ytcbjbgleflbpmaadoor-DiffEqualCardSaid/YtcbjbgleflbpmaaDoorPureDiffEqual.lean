/- Two logs are equal just if their bytes are the same; else the longest beginning that both have is told. Conditions: none but that each number is of its kind, and each list's length a slice's. -/
import Derived.Test.YtcbjbgleflbpmaaDoorBaseDiffEqual
import Derived.Test.YtcbjbgleflbpmaaDoorPrint0
import Derived.Test.YtcbjbgleflbpmaaDoorPrint11
import Derived.Test.YtcbjbgleflbpmaaDoorPrint21
import Derived.Test.YtcbjbgleflbpmaaDoorPrint22
set_option linter.unusedVariables false
set_option linter.unusedSimpArgs false
namespace Go.Proofs.YtcbjbgleflbpmaaDoor.Pure
open Go Go.RowKit Go.Proofs.YtcbjbgleflbpmaaDoor.Print Go.Proofs.YtcbjbgleflbpmaaDoorW.PrintWords Go.Proofs.YtcbjbgleflbpmaaDoorW.PrintLast Go.Proofs.YtcbjbgleflbpmaaDoorW.PrintMore Go.Proofs.YtcbjbgleflbpmaaDoor.Ev19 Go.Proofs.YtcbjbgleflbpmaaDoor.Wire Go.Proofs.YtcbjbgleflbpmaaDoor.Wire2
theorem pre_self : ∀ a : List E, Diff.pre a a = a.length
  | [] => rfl
  | x :: a => by
    rw [Diff.pre, if_pos rfl, pre_self a, List.length_cons]
theorem pre_all {a b : List E} (h1 : Diff.pre a b = a.length) (h2 : Diff.pre a b = b.length) : a = b := by
  have h := (Diff.take_same a b (n := a.length) (by omega) (by omega)).2 (by omega)
  rwa [List.take_length, List.take_of_length_le (by omega)] at h
theorem enc_same {a b : List E} (ha : okL a = true) (hb : okL b = true) (wa : Ws a) (wb : Ws b) : palletref02_Same.f (cs (enc a)) (cs (enc b)) = some (decide (a = b)) := by
  have h := CrcFn.Same_eq (enc_by (okL_iff.1 ha).2.1) (enc_by (okL_iff.1 hb).2.1)
  refine h.trans (congrArg some ?_)
  by_cases e : a = b
  · rw [decide_eq_true e, decide_eq_true (by rw [e])]
  · rw [decide_eq_false e, decide_eq_false fun c => e (enc_inj ha hb wa wb c)]
theorem logs {k : Nat} (hk : 11000000 ≤ k) {a b : List E} (ha : okL a = true) (hb : okL b = true) (wa : Ws a) (wb : Ws b) (la : a.length ≤ 300) (lb : b.length ≤ 300) :
    diff_Logs.f k (cs (enc a)) (cs (enc b)) = (some (Diff.dpart a b)).bind fun t => some (t.1, t.2.1, t.2.2.1, t.2.2.2.1, t.2.2.2.2.1, t.2.2.2.2.2.1, t.2.2.2.2.2.2.1, t.2.2.2.2.2.2.2.1, t.2.2.2.2.2.2.2.2.1, t.2.2.2.2.2.2.2.2.2.1, t.2.2.2.2.2.2.2.2.2.2.1, t.2.2.2.2.2.2.2.2.2.2.2, 0, 0, 0) := by
  obtain ⟨a1, a2, a3⟩ := okL_iff.1 ha
  obtain ⟨b1, b2, b3⟩ := okL_iff.1 hb
  have l1 := lbody_len a2 wa a1
  have l2 := lbody_len b2 wb b1
  have n1 := enc_len a
  have n2 := enc_len b
  unfold diff_Logs.f
  rw [Decode_eq _ (enc_by a2) (by omega) hk, Option.bind_some, dc_enc ha wa, if_pos rfl, Decode_eq _ (enc_by b2) (by omega) hk, Option.bind_some, dc_enc hb wb, if_pos rfl, Diff.events_eq _ _ (by dsimp only; omega) (by dsimp only; omega)]
theorem rd_E (xs : List E) (j : Nat) : rd_T30 xs (j : Int) = xs.getD j Diff.z := Diff.rd_eq xs j
theorem equal_j1 {k : Nat} (hk : 11000010 ≤ k) {a b : List E} (ha : okL a = true) (hb : okL b = true) (wa : Ws a) (wb : Ws b) (la : a.length ≤ 300) (lb : b.length ≤ 300) :
    palletlaw23_DiffEqual.j1 k a b true (cs (enc a)) (cs (enc b)) false = some true := by
  obtain ⟨k, rfl⟩ : ∃ m, k = m + 2 := ⟨k - 2, by omega⟩
  have hl := Diff.pre_left a b
  have hr := Diff.pre_right a b
  have hne := Diff.pre_ne a b
  have tk := (Diff.take_same a b (n := Diff.pre a b) hl hr).2 (Nat.le_refl _)
  rw [palletlaw23_DiffEqual.j1, if_neg (by simp), logs (by omega) ha hb wa wb la lb]
  simp only [Option.bind_some]
  rw [if_pos trivial, if_pos trivial, if_pos trivial, enc_same ha hb wa wb, Option.bind_some]
  have e1 : (Diff.dpart a b).1 = (Diff.pre a b : Int) := by
    unfold Diff.dpart Diff.tup
    split <;> split <;> rfl
  rw [e1]
  have sm : palletref19_Same.f (k + 1) (a.take (Diff.pre a b)) (b.take (Diff.pre a b)) = some true := by
    rw [Diff.same_eq _ _ (by rw [List.length_take]; omega) (by rw [List.length_take]; omega), decide_eq_true tk]
  by_cases h1 : Diff.pre a b = a.length
  · by_cases h2 : Diff.pre a b = b.length
    · have hab := pre_all h1 h2
      have ed : Diff.dpart a b = Diff.tup (Diff.pre a b) 0 Diff.z Diff.z := by
        unfold Diff.dpart
        rw [if_pos h1, if_pos h2]
      rw [ed, decide_eq_true hab, if_neg (by simp [Diff.tup]), if_neg (by omega), if_neg (by omega), if_neg (by omega), if_pos (by omega), if_pos (by omega), if_pos (by omega), Int.toNat_natCast, sm, Option.bind_some]
      simp only [Diff.tup]
      rw [palletlaw23_DiffEqual.j2, if_neg (by simp), if_pos rfl, if_pos rfl, if_pos (by omega), beq_iff_eq.mpr (by omega)]
    · have hab : ¬ a = b := fun h => h2 (by rw [h1, h])
      have ed : Diff.dpart a b = Diff.tup (Diff.pre a b) 2 Diff.z (b.getD (Diff.pre a b) Diff.z) := by
        unfold Diff.dpart
        rw [if_pos h1, if_neg h2]
      rw [ed, decide_eq_false hab, if_neg (by simp [Diff.tup]), if_neg (by omega), if_neg (by omega), if_neg (by omega), if_pos (by omega), if_pos (by omega), if_pos (by omega), Int.toNat_natCast, sm, Option.bind_some]
      simp only [Diff.tup]
      rw [palletlaw23_DiffEqual.j2, if_neg (by simp), if_neg (by decide), if_neg (by decide), if_pos rfl, if_pos rfl, if_pos (by omega), if_pos (by omega), if_pos (by omega), rd_E]
      simp
  · by_cases h2 : Diff.pre a b = b.length
    · have hab : ¬ a = b := fun h => h1 (by rw [h2, h])
      have ed : Diff.dpart a b = Diff.tup (Diff.pre a b) 3 (a.getD (Diff.pre a b) Diff.z) Diff.z := by
        unfold Diff.dpart
        rw [if_neg h1, if_pos h2]
      rw [ed, decide_eq_false hab, if_neg (by simp [Diff.tup]), if_neg (by omega), if_neg (by omega), if_neg (by omega), if_pos (by omega), if_pos (by omega), if_pos (by omega), Int.toNat_natCast, sm, Option.bind_some]
      simp only [Diff.tup]
      rw [palletlaw23_DiffEqual.j2, if_neg (by simp), if_neg (by decide), if_neg (by decide), if_neg (by decide), if_pos rfl, if_pos rfl, if_pos (by omega), if_pos (by omega), if_pos (by omega), rd_E]
      simp
    · have hab : ¬ a = b := fun h => h1 (by rw [h, pre_self])
      have ed : Diff.dpart a b = Diff.tup (Diff.pre a b) 1 (a.getD (Diff.pre a b) Diff.z) (b.getD (Diff.pre a b) Diff.z) := by
        unfold Diff.dpart
        rw [if_neg h1, if_neg h2]
      have nn := hne (by omega) (by omega)
      rw [ed, decide_eq_false hab, if_neg (by simp [Diff.tup]), if_neg (by omega), if_neg (by omega), if_neg (by omega), if_pos (by omega), if_pos (by omega), if_pos (by omega), Int.toNat_natCast, sm, Option.bind_some]
      simp only [Diff.tup]
      rw [palletlaw23_DiffEqual.j2, if_neg (by simp), if_neg (by decide), if_pos rfl, if_pos rfl, if_pos (by omega), if_pos (by omega), if_pos (by omega), rd_E, rd_E, if_pos (by simp), if_pos (by simp)]
      have nb : Diff.beqE (a.getD (Diff.pre a b) Diff.z) (b.getD (Diff.pre a b) Diff.z) = false := by
        rw [Diff.beqE_eq]
        exact decide_eq_false nn
      revert nb
      unfold Diff.beqE
      generalize a.getD (Diff.pre a b) Diff.z = x
      generalize b.getD (Diff.pre a b) Diff.z = y
      intro nb
      refine congrArg some ?_
      revert nb
      cases (x.f0 == y.f0) <;> cases (x.f1 == y.f1) <;> cases (x.f2 == y.f2) <;> cases (x.f3 == y.f3) <;> cases (x.f4 == y.f4) <;> simp
theorem DiffEqual : ∀ (l0 : List (S30)) (l1 : List (S30)), l0.length ≤ maxLen → l0.length * 40 ≤ 140737488351232 → (∀ y ∈ l0, ((Lit.int .i64 y.f0).wf = true) ∧ (((Lit.int .i64 y.f1).wf = true) ∧ (((Lit.int .i64 y.f2).wf = true) ∧ (((Lit.int .i64 y.f3).wf = true) ∧ (((Lit.int .i64 y.f4).wf = true)))))) → l1.length ≤ maxLen → l1.length * 40 ≤ 140737488351232 → (∀ y ∈ l1, ((Lit.int .i64 y.f0).wf = true) ∧ (((Lit.int .i64 y.f1).wf = true) ∧ (((Lit.int .i64 y.f2).wf = true) ∧ (((Lit.int .i64 y.f3).wf = true) ∧ (((Lit.int .i64 y.f4).wf = true)))))) → ∃ k, palletlaw23_DiffEqual.f k l0 l1 = some true := by
  intro a b ha1 ha2 ha hb1 hb2 hb
  have wa : Ws a := ws_of ha
  have wb : Ws b := ws_of hb
  refine ⟨11000100, ?_⟩
  unfold palletlaw23_DiffEqual.f
  rw [Diff.live23 (by omega), Option.bind_some, if_pos rfl]
  by_cases c1 : (a.length : Int) > 300
  · rw [if_pos c1, show (11000100 : Nat) = 11000099 + 1 from rfl, palletlaw23_DiffEqual.j0, if_pos rfl]
  rw [if_neg c1]
  by_cases c2 : (b.length : Int) > 300
  · rw [decide_eq_true c2, show (11000100 : Nat) = 11000099 + 1 from rfl, palletlaw23_DiffEqual.j0, if_pos rfl]
  rw [decide_eq_false c2, show (11000100 : Nat) = 11000099 + 1 from rfl, palletlaw23_DiffEqual.j0, if_neg (by simp), Encode_eq a wa (by omega) (by omega), Encode_eq b wb (by omega) (by omega), Option.bind_some, Option.bind_some]
  have bad : ∀ x y, palletlaw23_DiffEqual.j1 11000099 a b true x y true = some true := fun x y => by
    rw [show (11000099 : Nat) = 11000098 + 1 from rfl, palletlaw23_DiffEqual.j1, if_pos rfl]
  by_cases oa : okL a = true
  · rw [if_pos oa, if_pos rfl]
    by_cases ob : okL b = true
    · rw [if_pos ob, show ((cs (enc b), (0 : Int)).2 != 0) = false from rfl]
      exact equal_j1 (by omega) oa ob wa wb (by omega) (by omega)
    · rw [if_neg ob, show ((([] : List Int), (1 : Int)).2 != 0) = true from rfl]
      exact bad _ _
  · rw [if_neg oa, if_neg (by simp)]
    exact bad _ _
end Go.Proofs.YtcbjbgleflbpmaaDoor.Pure
