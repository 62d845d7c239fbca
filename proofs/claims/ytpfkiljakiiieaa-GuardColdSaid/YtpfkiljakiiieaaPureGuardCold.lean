/- A guardian that does not know the time lets through the first node that starts, in its own slot alone, and knows the time then; one that is off lets all through, and learns nothing. Conditions: none but that each number is of its kind. -/
import Derived.Test.YtpfkiljakiiieaaGuardPass
import Derived.Test.YtpfkiljakiiieaaPrint0
import Derived.Test.YtpfkiljakiiieaaPrint3
import Derived.Test.YtpfkiljakiiieaaPrint21
set_option linter.unusedVariables false
set_option linter.unusedSimpArgs false
namespace Go.Proofs.Ytpfkiljakiiieaa.Pure
open Go.RowKit Go.Proofs.Ytpfkiljakiiieaa.Print Go.Proofs.YtpfkiljakiiieaaW.PrintWords Go.Proofs.YtpfkiljakiiieaaW.PrintLast Go.Proofs.YtpfkiljakiiieaaW.PrintMore Go.Proofs.Ytpfkiljakiiieaa.Medl

theorem near_zero {S : Int} (h : 1 ≤ S) : near S 0 = (0, 0) := by
  have := near_of (S := S) (q := 0) (r := 0) h (by omega) (by omega)
  rwa [Int.zero_mul, Int.add_zero] at this
theorem GuardCold : ∀ (a0_0 : Int) (a0_1 : Int) (a0_2 : Int) (a0_3 : Int) (a0_4 : Int) (a1 : Int) (a2 : Int) (a3_0 : Int) (a3_1 : Int) (a3_2 : Int) (a3_3 : Int) (a4 : Int), (Lit.int .i64 a0_0).wf = true → (Lit.int .i64 a0_1).wf = true → (Lit.int .i64 a0_2).wf = true → (Lit.int .i64 a0_3).wf = true → (Lit.int .i64 a0_4).wf = true → (Lit.int .i64 a1).wf = true → (Lit.int .i64 a2).wf = true → (Lit.int .i64 a3_0).wf = true → (Lit.int .i64 a3_1).wf = true → (Lit.int .u64 a3_2).wf = true → (Lit.int .u16 a3_3).wf = true → (Lit.int .i64 a4).wf = true → ∃ k, palletlaw12_GuardCold.f k a0_0 a0_1 a0_2 a0_3 a0_4 a1 a2 a3_0 a3_1 a3_2 a3_3 a4 = some true := by
  intro n s l f w p node fk ff fs fm t hn hs hl hf hw hp hnode hfk hff hfs hfm ht
  have hfs := wfu64 hfs
  obtain ⟨k, hk⟩ : ∃ k : Nat, k = 30 := ⟨30, rfl⟩
  refine ⟨k + 3, ?_⟩
  unfold palletlaw12_GuardCold.f
  rw [live12 (by omega)]
  simp only [Option.bind_some, if_true]
  by_cases h : Ok n s l f w
  case neg =>
    rw [check_no h]
    simp [palletlaw12_GuardCold.j0]
  rw [check_ok h]
  simp only [Option.bind_some, if_true]
  by_cases c1 : p < 1
  · rw [if_pos c1]; simp [palletlaw12_GuardCold.j0]
  rw [if_neg c1]
  by_cases c2 : p > 1000000000
  · rw [if_pos c2]; simp [palletlaw12_GuardCold.j0]
  rw [if_neg c2]
  by_cases c3 : node < 0
  · rw [if_pos c3]; simp [palletlaw12_GuardCold.j0]
  rw [if_neg c3]
  by_cases c4 : node ≥ n
  · rw [if_pos c4]; simp [palletlaw12_GuardCold.j0]
  rw [if_neg c4]
  by_cases c5 : t < 0
  · rw [if_pos c5]; simp [palletlaw12_GuardCold.j0]
  rw [if_neg c5, refmay01_one (by omega)]
  by_cases c6 : Tm t
  case neg =>
    rw [decide_eq_false c6]
    simp [palletlaw12_GuardCold.j0]
  rw [decide_eq_true c6]
  simp only [Option.bind_some, Bool.not_true]
  have hsc : Sc n s l f w p := ⟨h, by omega, by omega⟩
  have r := sp_range hsc
  have t0 : Tm 0 := by decide
  have hpa : Pa n s l f w p false 0 0 node t := ⟨hsc, ⟨.inr ⟨rfl, rfl⟩, by omega, t0⟩, ⟨by omega, by omega⟩, by omega, c6⟩
  have h5 := c6
  unfold Tm at h5
  have htb : Tm (t - l * p) := by unfold Tm; omega
  simp only [palletlaw12_GuardCold.j0]
  rw [if_neg (by decide), pass_go (by omega) hpa, if_neg (by decide)]
  simp only [Option.bind_some, if_true, beq_self_eq_true, Bool.not_true, Bool.or_false, palletlaw12_GuardCold.j1]
  rw [if_neg (by decide), show k + 1 = k + 1 from rfl, pass_go (by omega) hpa, if_pos rfl]
  obtain ⟨x, e, hx⟩ := passes_cold (n := n) (s := s) (l := l) (f := f) (w := w) (k := k) (S := s * p) (L := l * p) (W := w * p) (gs := 0) (ga := 0) (node := node) (b := wrap64 (t - l * p)) (fk := fk) (ff := ff) (fs := fs) (fm := fm) (on := true) hfs.1
  rw [e, w64 (x := t - l * p) (by omega) (by omega)]
  simp only [Option.bind_some, decide_eq_true_eq]
  by_cases q : fk = 2 ∧ ff = node ∧ Ok n s l f w ∧ fs ≤ 4294967296 ∧ fs % n = node
  · obtain ⟨q1, q2, q3, q4, q5⟩ := id q
    rw [if_pos q, hx q, owner_ok h hfs.1 q4]
    simp only [Option.bind_some, if_true]
    rw [if_pos q1, if_pos q2]
    simp only [palletlaw12_GuardCold.j2, q5, beq_self_eq_true, bne_self_eq_false, if_true]
    rw [if_neg (by decide)]
    have hpa2 : Pa n s l f w p true fs (t - l * p) node t := ⟨hsc, ⟨.inl rfl, q4, htb⟩, ⟨by omega, by omega⟩, by omega, c6⟩
    have hpk : Pk n (s * p) (w * p) fs (t - l * p) node (t - l * p) := by
      unfold Pk
      rw [Int.sub_self, near_zero (by omega)]
      exact ⟨t0, Int.le_refl _, by omega, by omega, by omega, by omega, by rw [show fs + ((0 : Int), (0 : Int)).1 = fs from Int.add_zero _]; exact q5⟩
    rw [pass_known (by omega) hfs.1 hpa2, if_pos hpk, Int.sub_self, near_zero (by omega)]
    simp only [Option.bind_some, if_true, Int.add_zero, beq_self_eq_true, Bool.and_self]
    rw [gcheck_eq (by omega), if_pos hpa2.2.1]
    rfl
  · rw [if_neg q]
    simp only [Option.bind_some]
    have hne : ∀ b, (decide (medl_Owner.f n s l f w fs = some (node, 0)) = b) → True := fun _ _ => trivial
    have fin : palletlaw12_GuardCold.j2 (k + 1) p node t true false false n s l f w fk ff fs fm true false 0 0 = some true := by
      simp [palletlaw12_GuardCold.j2]
    by_cases q3 : fs ≤ 4294967296
    · rw [owner_ok h hfs.1 q3]
      simp only [Option.bind_some, if_true]
      by_cases q1 : fk = 2
      · rw [if_pos q1]
        by_cases q2 : ff = node
        · rw [if_pos q2]
          have q5 : (fs % n == node) = false := by
            rw [beq_eq_false_iff_ne]
            exact fun q5 => q ⟨q1, q2, h, q3, q5⟩
          rw [q5]
          exact fin
        · rw [if_neg q2]
          exact fin
      · rw [if_neg q1]
        exact fin
    · rw [owner_no (fun z => q3 z.2)]
      simp only [Option.bind_some, if_true]
      split
      · split
        · rw [if_neg (by decide)]
          exact fin
        · exact fin
      · exact fin
end Go.Proofs.Ytpfkiljakiiieaa.Pure
