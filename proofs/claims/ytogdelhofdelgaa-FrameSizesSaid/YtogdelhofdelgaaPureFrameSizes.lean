/- Frames that can be written take eight bytes more than their slot's number, and thirteen at the most; two of them are the same bytes just if they are the same frame. Conditions: none but the kinds of the values. -/
import Derived.Test.YtogdelhofdelgaaFrame08
import Derived.Test.YtogdelhofdelgaaPrint0
import Derived.Test.YtogdelhofdelgaaPrint8
import Derived.Test.YtogdelhofdelgaaPrint9
set_option linter.unusedVariables false
set_option linter.unusedSimpArgs false
namespace Go.Proofs.Ytogdelhofdelgaa.Pure
open Go Go.RowKit Go.Proofs.Ytogdelhofdelgaa.Print Go.Proofs.YtogdelhofdelgaaW.PrintWords Go.Proofs.YtogdelhofdelgaaW.PrintLast Go.Proofs.YtogdelhofdelgaaW.PrintMore Go.Proofs.Ytogdelhofdelgaa.Wire Go.Proofs.Ytogdelhofdelgaa.WireSpec Go.Proofs.Ytogdelhofdelgaa.Wire2 Go.Proofs.Ytogdelhofdelgaa.Wire3 Go.Proofs.Ytogdelhofdelgaa.Wire4 Go.Proofs.Ytogdelhofdelgaa.Set08 Go.Proofs.Ytogdelhofdelgaa.Frame08
theorem FrameSizes : ∀ (a0_0 : Int) (a0_1 : Int) (a0_2 : Int) (a0_3 : Int) (a1_0 : Int) (a1_1 : Int) (a1_2 : Int) (a1_3 : Int), (Lit.int .i64 a0_0).wf = true → (Lit.int .i64 a0_1).wf = true → (Lit.int .u64 a0_2).wf = true → (Lit.int .u16 a0_3).wf = true → (Lit.int .i64 a1_0).wf = true → (Lit.int .i64 a1_1).wf = true → (Lit.int .u64 a1_2).wf = true → (Lit.int .u16 a1_3).wf = true → ∃ k, palletlaw08_FrameSizes.f k a0_0 a0_1 a0_2 a0_3 a1_0 a1_1 a1_2 a1_3 = some true := by
  intro a0 a1 a2 a3 c0 c1 c2 c3 h0 h1 h2 h3 g0 g1 g2 g3
  obtain ⟨n, rfl, hn⟩ := u64_of h2
  obtain ⟨g, rfl, hg⟩ := u16_of h3
  obtain ⟨n', rfl, hn'⟩ := u64_of g2
  obtain ⟨g', rfl, hg'⟩ := u16_of g3
  refine ⟨100, ?_⟩
  unfold palletlaw08_FrameSizes.f
  rw [live8, Option.bind_some, if_pos rfl, Write_eq (by decide) a0 a1 n g hn hg, Option.bind_some, Write_eq (by decide) c0 c1 n' g' hn' hg', Option.bind_some]
  by_cases p : Fok a0 a1 (n : Int)
  · by_cases q : Fok c0 c1 (n' : Int)
    · have p' := p
      have q' := q
      unfold Fok at p' q'
      have hv : (vb n).length ≤ 5 := vb_len n 4 (by omega)
      rw [if_pos p, if_pos q, if_pos rfl, show (100 : Nat) = 99 + 1 from rfl, palletlaw08_FrameSizes.j0, if_neg (show ¬ ((0 : Int) != 0) = true by decide), if_pos rfl]
      have e := RVary_eq (k := 99) [] [n] (fun m hm => by rw [List.mem_singleton.1 hm]; exact hn) (by show 1 ≤ _; omega) (by show 0 ≤ _; omega) (by show 1 + _ ≤ _; omega)
      have e2 : ([] : List Nat) ++ vbs [n] = vb n := by
        rw [vbs_cons]
        show _ ++ [] = _
        rw [List.append_nil]
      rw [e2] at e
      have w1 := fw_by (n := n) (g := g) (show a0.toNat < 256 by omega) (show a1.toNat < 256 by omega)
      have w2 := fw_by (n := n') (g := g') (show c0.toNat < 256 by omega) (show c1.toNat < 256 by omega)
      show ((palletref02_Vary.f 99 (cs []) (cs [n])).bind fun t => if ((cs (fw a0.toNat a1.toNat n g)).length : Int) = wrap64 (8 + (t.length : Int)) then (if ((cs (fw a0.toNat a1.toNat n g)).length : Int) ≤ 13 then ((palletref02_Same.f (cs (fw a0.toNat a1.toNat n g)) (cs (fw c0.toNat c1.toNat n' g'))).bind fun t => some ((a0 == c0 && (a1 == c1 && ((n : Int) == (n' : Int) && ((g : Int) == (g' : Int))))) == t)) else some false) else some false) = some true
      rw [e, Option.bind_some, cs_len, cs_len, fw_len, Set08.w64 (by omega) (by omega), if_pos (by omega), if_pos (by omega), same_eq _ _ w1 w2, Option.bind_some]
      refine congrArg some ?_
      rw [beq_iff_eq, Bool.eq_iff_iff]
      simp only [Bool.and_eq_true, beq_iff_eq, decide_eq_true_eq]
      constructor
      · rintro ⟨rfl, rfl, e1, e2⟩
        obtain rfl : n = n' := by omega
        obtain rfl : g = g' := by omega
        rfl
      · intro e
        obtain ⟨e1, e2, e3, e4⟩ := fb_inj hn hn' hg hg' e
        exact ⟨by omega, by omega, by omega, by omega⟩
    · rw [if_pos p, if_neg q, if_pos rfl]
      rfl
  · rw [if_neg p, if_neg (by decide)]
    rfl
end Go.Proofs.Ytogdelhofdelgaa.Pure
