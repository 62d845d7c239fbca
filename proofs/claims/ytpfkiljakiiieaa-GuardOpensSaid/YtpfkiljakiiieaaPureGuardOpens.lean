/- What a node sends while the guardian is open for it passes, at both ends, too; a picosecond ahead, or behind, it does not; what any other node sends then does not. Conditions: none but that each number is of its kind. -/
import Derived.Test.YtpfkiljakiiieaaGuardPass
import Derived.Test.YtpfkiljakiiieaaMedlNx
import Derived.Test.YtpfkiljakiiieaaPrint0
import Derived.Test.YtpfkiljakiiieaaPrint20
import Derived.Test.YtpfkiljakiiieaaPrint24
import Derived.Test.YtpfkiljakiiieaaPrint25
set_option linter.unusedVariables false
set_option linter.unusedSimpArgs false
namespace Go.Proofs.Ytpfkiljakiiieaa.Pure
open Go.RowKit Go.Proofs.Ytpfkiljakiiieaa.Print Go.Proofs.YtpfkiljakiiieaaW.PrintWords Go.Proofs.YtpfkiljakiiieaaW.PrintLast Go.Proofs.YtpfkiljakiiieaaW.PrintMore Go.Proofs.Ytpfkiljakiiieaa.Medl

section
variable {n s l f w p : Int}
/-- What is known where a guardian tells when it opens. -/
structure Open (n s l f w p gs ga node from_ to_ : Int) : Prop where
  sc : Sc n s l f w p
  gd : Gd true gs ga
  na : 0 ≤ node
  nb : node < n
  x : nx n gs node ≤ 4294967296
  at_ : Tm (ga + (s * p * (nx n gs node - gs) + l * p))
  fr : from_ = ga + (s * p * (nx n gs node - gs) + l * p) - w * p
  tt : to_ = ga + (s * p * (nx n gs node - gs) + l * p) + w * p
theorem opens_eq {k : Nat} (hk : 5 ≤ k) (known : Bool) {gs ga node : Int} (on : Bool) (hgs : 0 ≤ gs) : ∃ a b e, guard_Opens.f k on known gs ga n s l f w p node = some (a, b, e) ∧ (e = 0 → known = true ∧ Open n s l f w p gs ga node a b) := by
  obtain ⟨k, rfl⟩ : ∃ m, k = m + 1 := ⟨k - 1, by omega⟩
  unfold guard_Opens.f
  by_cases h1 : Sc n s l f w p
  case neg =>
    obtain ⟨a, b, c, e⟩ := scaled_no h1
    rw [e]
    exact ⟨0, 0, 1, by simp [guard_Opens.j0], fun q => by cases q⟩
  have r := sp_range h1
  rw [scaled_ok h1]
  simp only [Option.bind_some, if_true]
  rw [gcheck_eq (by omega)]
  by_cases h2 : Gd known gs ga
  case neg =>
    rw [if_neg h2]
    exact ⟨0, 0, 1, by simp [guard_Opens.j0], fun q => by cases q⟩
  rw [if_pos h2]
  simp only [Option.bind_some, if_true]
  by_cases h3 : known = true
  case neg =>
    rw [if_neg h3]
    exact ⟨0, 0, 1, by simp [guard_Opens.j0], fun q => by cases q⟩
  subst h3
  rw [if_pos rfl, gnode_eq]
  simp only [Option.bind_some]
  by_cases h4 : 0 ≤ node ∧ node < n
  case neg =>
    rw [decide_eq_false h4]
    exact ⟨0, 0, 1, by simp [guard_Opens.j0], fun q => by cases q⟩
  rw [decide_eq_true h4]
  simp only [guard_Opens.j0, Bool.not_true]
  obtain ⟨k, rfl⟩ : ∃ m, k = m + 1 := ⟨k - 1, by omega⟩
  have rn := nx_range h1.1 hgs h4.1 h4.2
  have hn2 := h1.1.2.1
  rw [if_neg (by decide), next_ok h1.1 k hgs h2.2.1 h4.1 h4.2]
  by_cases h5 : nx n gs node > 4294967296
  · rw [if_pos h5]
    exact ⟨0, 0, 2, by simp, fun q => by cases q⟩
  rw [if_neg h5]
  simp only [Option.bind_some, if_true]
  have hP : 0 ≤ s * p * (nx n gs node - gs) := Int.mul_nonneg (by omega) (by omega)
  have hP2 : s * p * (nx n gs node - gs) ≤ (1048576 * 1000000000) * 16 := Int.mul_le_mul r.2.1 (by omega) (by omega) (by omega)
  rw [u64 (x := nx n gs node - gs) (by omega) (by omega), w64 (x := nx n gs node - gs) (by omega) (by omega), w64 (x := s * p * (nx n gs node - gs)) (by omega) (by omega), w64 (x := s * p * (nx n gs node - gs) + l * p) (by omega) (by omega), add_eq (by omega), if_pos ⟨h2.2.2, by unfold Tm; omega⟩]
  by_cases h6 : Tm (ga + (s * p * (nx n gs node - gs) + l * p))
  case neg =>
    rw [if_neg h6]
    exact ⟨0, 0, 2, by simp, fun q => by cases q⟩
  rw [if_pos h6]
  simp only [Option.bind_some, if_true]
  have hW : Tm (w * p) := by unfold Tm; omega
  rw [sub_eq (by omega), if_pos ⟨h6, hW⟩]
  by_cases h7 : Tm (ga + (s * p * (nx n gs node - gs) + l * p) - w * p)
  case neg =>
    rw [if_neg h7]
    exact ⟨0, 0, 2, by simp, fun q => by cases q⟩
  rw [if_pos h7]
  simp only [Option.bind_some, if_true]
  rw [add_eq (by omega), if_pos ⟨h6, hW⟩]
  by_cases h8 : Tm (ga + (s * p * (nx n gs node - gs) + l * p) + w * p)
  case neg =>
    rw [if_neg h8]
    exact ⟨0, 0, 2, by simp, fun q => by cases q⟩
  rw [if_pos h8]
  exact ⟨ga + (s * p * (nx n gs node - gs) + l * p) - w * p, ga + (s * p * (nx n gs node - gs) + l * p) + w * p, 0, by simp only [Option.bind_some, if_true], fun _ => ⟨trivial, ⟨h1, h2, h4.1, h4.2, by omega, h6, rfl, rfl⟩⟩⟩
theorem widths (h : Sc n s l f w p) : l * p ≤ s * p ∧ w * p ≤ l * p ∧ 2 * (w * p) + 2 ≤ s * p := by
  obtain ⟨⟨g1, g2, h1, h2, h3, h4, h5, h6, h7, h8, h9, h10⟩, h11, h12⟩ := h
  have hlp : l * p ≤ s * p := Int.mul_le_mul h4 (Int.le_refl p) (by omega) (by omega)
  have hwp : w * p ≤ l * p := Int.mul_le_mul h9 (Int.le_refl p) (by omega) (by omega)
  have hsum : (2 * w + 2) * p ≤ s * p := Int.mul_le_mul (by omega) (Int.le_refl p) (by omega) (by omega)
  rw [Int.add_mul, Int.mul_assoc] at hsum
  exact ⟨hlp, hwp, by omega⟩
section
variable {gs ga node from_ to_ : Int}
theorem Open.near_in (o : Open n s l f w p gs ga node from_ to_) (hgs : 0 ≤ gs) {t : Int} (h1 : from_ ≤ t) (h2 : t ≤ to_) : near (s * p) (t - l * p - ga) = (nx n gs node - gs, t - (ga + (s * p * (nx n gs node - gs) + l * p))) := by
  have r := sp_range o.sc
  have wd := widths o.sc
  have e1 := o.fr
  have e2 := o.tt
  rw [show t - l * p - ga = (nx n gs node - gs) * (s * p) + (t - (ga + (s * p * (nx n gs node - gs) + l * p))) by rw [Int.mul_comm (nx n gs node - gs) (s * p)]; omega]
  exact near_of (by omega) (by omega) (by omega)
theorem Open.tm (o : Open n s l f w p gs ga node from_ to_) (hgs : 0 ≤ gs) {t : Int} (h1 : from_ - 1 ≤ t) (h2 : t ≤ to_ + 1) : Tm (t - l * p - ga) := by
  have r := sp_range o.sc
  have wd := widths o.sc
  have e1 := o.fr
  have e2 := o.tt
  have rn := nx_range o.sc.1 hgs o.na o.nb
  have hn2 := o.sc.1.2.1
  have hP : 0 ≤ s * p * (nx n gs node - gs) := Int.mul_nonneg (by omega) (by omega)
  have hP2 : s * p * (nx n gs node - gs) ≤ (1048576 * 1000000000) * 16 := Int.mul_le_mul r.2.1 (by omega) (by omega) (by omega)
  unfold Tm
  omega
theorem Open.passes (o : Open n s l f w p gs ga node from_ to_) (hgs : 0 ≤ gs) (hf1 : 1 ≤ from_) (hto : Tm (to_ + 1)) {t : Int} (h1 : from_ ≤ t) (h2 : t ≤ to_) {k : Nat} (hk : 5 ≤ k) :
    guard_Pass.f k true true gs ga n s l f w p node 0 0 0 0 t = some (true, true, nx n gs node, t - l * p, true, 0) := by
  have r := sp_range o.sc
  have e1 := o.fr
  have e2 := o.tt
  have hto2 := hto
  unfold Tm at hto2
  have rn := nx_range o.sc.1 hgs o.na o.nb
  have hn2 := o.sc.1.2.1
  have hpa : Pa n s l f w p true gs ga node t := ⟨o.sc, o.gd, ⟨o.na, o.nb⟩, by omega, by unfold Tm; omega⟩
  have hnear := o.near_in hgs h1 h2
  have hpk : Pk n (s * p) (w * p) gs ga node (t - l * p) := by
    unfold Pk
    rw [hnear]
    refine ⟨o.tm hgs (by omega) (by omega), ?_, ?_, ?_, ?_, ?_, ?_⟩
    · show 0 ≤ nx n gs node - gs; omega
    · show nx n gs node - gs ≤ 4294967296; omega
    · show -(w * p) ≤ t - (ga + (s * p * (nx n gs node - gs) + l * p)); omega
    · show t - (ga + (s * p * (nx n gs node - gs) + l * p)) ≤ w * p; omega
    · show gs + (nx n gs node - gs) ≤ 4294967296; have := o.x; omega
    · show (gs + (nx n gs node - gs)) % n = node
      rw [show gs + (nx n gs node - gs) = nx n gs node by omega]
      exact nx_mod o.sc.1 hgs o.na o.nb
  rw [pass_known hk hgs hpa, if_pos hpk, hnear]
  show some (true, true, gs + (nx n gs node - gs), t - l * p, true, 0) = _
  rw [show gs + (nx n gs node - gs) = nx n gs node by omega]
theorem Open.other (o : Open n s l f w p gs ga node from_ to_) (hgs : 0 ≤ gs) {t other : Int} (h1 : from_ ≤ t) (h2 : t ≤ to_) (hne : other ≠ node) {k : Nat} (hk : 5 ≤ k) :
    ∃ e, guard_Pass.f k true true gs ga n s l f w p other 0 0 0 0 t = some (true, true, gs, ga, false, e) := by
  by_cases hpa : Pa n s l f w p true gs ga other t
  · rw [pass_known hk hgs hpa, if_neg]
    · exact ⟨_, rfl⟩
    · intro q
      have q6 := q.2.2.2.2.2.2
      rw [o.near_in hgs h1 h2] at q6
      apply hne
      rw [← q6]
      show (gs + (nx n gs node - gs)) % n = node
      rw [show gs + (nx n gs node - gs) = nx n gs node by omega]
      exact nx_mod o.sc.1 hgs o.na o.nb
  · exact ⟨_, pass_no (by omega) hpa⟩
theorem Open.beside (o : Open n s l f w p gs ga node from_ to_) (hgs : 0 ≤ gs) (hf1 : 1 ≤ from_) (hto : Tm (to_ + 1)) {t : Int} (ht : t = from_ - 1 ∨ t = to_ + 1) {k : Nat} (hk : 5 ≤ k) :
    guard_Pass.f k true true gs ga n s l f w p node 0 0 0 0 t = some (true, true, gs, ga, false, 0) := by
  have r := sp_range o.sc
  have wd := widths o.sc
  have e1 := o.fr
  have e2 := o.tt
  have hto2 := hto
  unfold Tm at hto2
  have hpa : Pa n s l f w p true gs ga node t := ⟨o.sc, o.gd, ⟨o.na, o.nb⟩, by omega, by unfold Tm; omega⟩
  rw [pass_known hk hgs hpa, if_neg]
  intro q
  have q4 := q.2.2.2.1
  have q5 := q.2.2.2.2.1
  have ha := near_all (S := s * p) (far := t - l * p - ga) (by omega)
  generalize (near (s * p) (t - l * p - ga)).1 = a at *
  generalize (near (s * p) (t - l * p - ga)).2 = b at *
  have e : (a - (nx n gs node - gs)) * (s * p) = t - l * p - ga - b - s * p * (nx n gs node - gs) := by rw [Int.sub_mul, Int.mul_comm (nx n gs node - gs) (s * p)]; omega
  rcases Int.lt_trichotomy a (nx n gs node - gs) with h | h | h
  · have := Int.mul_le_mul_of_nonneg_right (show a - (nx n gs node - gs) ≤ -1 by omega) (show 0 ≤ s * p by omega)
    omega
  · rw [show a - (nx n gs node - gs) = 0 by omega, Int.zero_mul] at e
    omega
  · have := Int.mul_le_mul_of_nonneg_right (show 1 ≤ a - (nx n gs node - gs) by omega) (show 0 ≤ s * p by omega)
    omega
theorem opens_l1 (o : Open n s l f w p gs ga node from_ to_) (hgs : 0 ≤ gs) (hf1 : 1 ≤ from_) (hto : Tm (to_ + 1)) (ys : List Int) (hys : ∀ t ∈ ys, t = from_ - 1 ∨ t = to_ + 1) (hlen : ys.length ≤ 5) (d : Nat) : ∀ (k i : Nat), i ≤ ys.length → ys.length - i = d → d + 6 ≤ k →
    palletlaw12_GuardOpens.l1 k p node true ys (ys.length : Int) (i : Int) true true gs ga n s l f w = some true := by
  induction d with
  | zero =>
    intro k i hi hd hk
    obtain ⟨k, rfl⟩ : ∃ m, k = m + 1 := ⟨k - 1, by omega⟩
    simp only [palletlaw12_GuardOpens.l1]
    rw [if_neg (by omega)]
  | succ d ih =>
    intro k i hi hd hk
    obtain ⟨k, rfl⟩ : ∃ m, k = m + 1 := ⟨k - 1, by omega⟩
    have hlt : i < ys.length := by omega
    have hy := hys (ys.getD i 0) (by rw [List.getD_eq_getElem?_getD, List.getElem?_eq_getElem hlt]; exact List.getElem_mem hlt)
    simp only [palletlaw12_GuardOpens.l1]
    rw [if_pos (by omega), if_pos (by omega), if_pos (by omega), rd_nat, o.beside hgs hf1 hto hy (by omega)]
    simp only [Option.bind_some, if_true, beq_self_eq_true, Bool.not_true, Bool.or_false]
    rw [if_neg (by decide), if_neg (by decide), w64 (x := (i : Int) + 1) (by omega) (by omega), show (i : Int) + 1 = ((i + 1 : Nat) : Int) by omega]
    exact ih k (i + 1) (by omega) (by omega) (by omega)
theorem opens_l0 (o : Open n s l f w p gs ga node from_ to_) (hgs : 0 ≤ gs) (hf1 : 1 ≤ from_) (hto : Tm (to_ + 1)) (other : Int) (ys : List Int) (hys : ∀ t ∈ ys, from_ ≤ t ∧ t ≤ to_) (hlen : ys.length ≤ 5) (d : Nat) : ∀ (k i : Nat), i ≤ ys.length → ys.length - i = d → 2 * d + 20 ≤ k →
    palletlaw12_GuardOpens.l0 k p node other true from_ to_ ys (ys.length : Int) (i : Int) true true gs ga n s l f w = some true := by
  have r := sp_range o.sc
  have hto2 := hto
  unfold Tm at hto2
  have rn := nx_range o.sc.1 hgs o.na o.nb
  induction d with
  | zero =>
    intro k i hi hd hk
    obtain ⟨k, rfl⟩ : ∃ m, k = m + 1 := ⟨k - 1, by omega⟩
    have e1 := o.fr
    have e2 := o.tt
    simp only [palletlaw12_GuardOpens.l0]
    rw [if_neg (by omega), w64 (x := from_ - 1) (by omega) (by omega), w64 (x := to_ + 1) (by omega) (by omega)]
    simp only [Option.bind_some]
    exact opens_l1 o hgs hf1 hto [from_ - 1, to_ + 1] (by simp) (by simp) 2 k 0 (by simp) (by simp) (by omega)
  | succ d ih =>
    intro k i hi hd hk
    obtain ⟨k, rfl⟩ : ∃ m, k = m + 2 := ⟨k - 2, by omega⟩
    have hlt : i < ys.length := by omega
    have hy := hys (ys.getD i 0) (by rw [List.getD_eq_getElem?_getD, List.getElem?_eq_getElem hlt]; exact List.getElem_mem hlt)
    simp only [palletlaw12_GuardOpens.l0]
    rw [if_pos (by omega), if_pos (by omega), if_pos (by omega), rd_nat]
    generalize ys.getD i 0 = t at *
    rw [o.passes hgs hf1 hto hy.1 hy.2 (by omega)]
    simp only [Option.bind_some, if_true]
    rw [if_neg (by omega), w64 (x := l * p) (by omega) (by omega), w64 (x := t - l * p) (by omega) (by omega)]
    simp only [palletlaw12_GuardOpens.j2, bne_self_eq_false]
    rw [if_neg (by decide)]
    have next : palletlaw12_GuardOpens.l0 k p node other true from_ to_ ys (ys.length : Int) (wrap64 ((i : Int) + 1)) true true gs ga n s l f w = some true := by
      rw [w64 (x := (i : Int) + 1) (by omega) (by omega), show (i : Int) + 1 = ((i + 1 : Nat) : Int) by omega]
      exact ih k (i + 1) (by omega) (by omega) (by omega)
    by_cases ho : other = node
    · subst ho
      rw [o.passes hgs hf1 hto hy.1 hy.2 (by omega)]
      simp only [Option.bind_some, if_true]
      exact next
    · obtain ⟨e, he⟩ := o.other hgs hy.1 hy.2 ho (k := k) (by omega)
      rw [he]
      simp only [Option.bind_some]
      rw [if_neg ho, if_neg (by decide)]
      split
      · rw [if_neg (by simp)]
        exact next
      · exact next
end
end
theorem GuardOpens : ∀ (a0_0 : Bool) (a0_1 : Bool) (a0_2 : Int) (a0_3 : Int) (a1_0 : Int) (a1_1 : Int) (a1_2 : Int) (a1_3 : Int) (a1_4 : Int) (a2 : Int) (a3 : Int) (a4 : Int) (a5 : Int), (Lit.int .u64 a0_2).wf = true → (Lit.int .i64 a0_3).wf = true → (Lit.int .i64 a1_0).wf = true → (Lit.int .i64 a1_1).wf = true → (Lit.int .i64 a1_2).wf = true → (Lit.int .i64 a1_3).wf = true → (Lit.int .i64 a1_4).wf = true → (Lit.int .i64 a2).wf = true → (Lit.int .i64 a3).wf = true → (Lit.int .i64 a4).wf = true → (Lit.int .i64 a5).wf = true → ∃ k, palletlaw12_GuardOpens.f k a0_0 a0_1 a0_2 a0_3 a1_0 a1_1 a1_2 a1_3 a1_4 a2 a3 a4 a5 = some true := by
  intro on known gs ga n s l f w p node other a5 hgs hga hn hs hl hf hw hp hnode hother ha5
  have hgs := wfu64 hgs
  have ha5 := wf64 ha5
  obtain ⟨k, hk⟩ : ∃ k : Nat, k = 40 := ⟨40, rfl⟩
  refine ⟨k + 1, ?_⟩
  unfold palletlaw12_GuardOpens.f
  rw [live12 (by omega)]
  simp only [Option.bind_some, if_true]
  obtain ⟨a, b, e, he, ho⟩ := opens_eq (n := n) (s := s) (l := l) (f := f) (w := w) (p := p) (k := k + 1) (by omega) known (gs := gs) (ga := ga) (node := node) true hgs.1
  rw [he]
  simp only [Option.bind_some]
  by_cases h0 : e = 0
  case neg =>
    rw [if_neg h0]
    simp [palletlaw12_GuardOpens.j0]
  obtain ⟨rfl, o⟩ := ho h0
  rw [if_pos h0]
  have r := sp_range o.sc
  have e1 := o.fr
  have e2 := o.tt
  have hat := o.at_
  unfold Tm at hat
  by_cases c1 : a < 1
  · rw [if_pos c1]
    simp [palletlaw12_GuardOpens.j0]
  rw [if_neg c1, if_neg (by omega), w64 (x := b + 1) (by omega) (by omega), refmay01_one (by omega)]
  simp only [Option.bind_some]
  by_cases c2 : Tm (b + 1)
  case neg =>
    rw [decide_eq_false c2]
    simp [palletlaw12_GuardOpens.j0]
  rw [decide_eq_true c2]
  simp only [palletlaw12_GuardOpens.j0, Bool.not_true]
  have hm : 0 < b - a + 1 := by omega
  have hm2 : b - a + 1 ≤ 1048576 * 1000000000 * 2 + 1 := by omega
  rw [if_neg (by decide), w64 (x := b - a) (by omega) (by omega), w64 (x := b - a + 1) (by omega) (by omega), if_neg (by omega)]
  have hmod : -(b - a + 1) < Int.tmod a5 (b - a + 1) ∧ Int.tmod a5 (b - a + 1) < b - a + 1 := by
    have e1 := Int.lt_tmod_of_pos a5 hm
    have e2 := Int.tmod_lt_of_pos a5 hm
    omega
  generalize Int.tmod a5 (b - a + 1) = q at *
  rw [w64 (x := q + b) (by omega) (by omega), w64 (x := q + b - a) (by omega) (by omega), w64 (x := q + b - a + 1) (by omega) (by omega), Int.tmod_eq_emod_of_nonneg (by omega)]
  have hz0 : 0 ≤ (q + b - a + 1) % (b - a + 1) := Int.emod_nonneg _ (by omega)
  have hz1 : (q + b - a + 1) % (b - a + 1) < b - a + 1 := Int.emod_lt_of_pos _ hm
  generalize (q + b - a + 1) % (b - a + 1) = z at *
  rw [w64 (x := a + z) (by omega) (by omega)]
  simp only [Option.bind_some]
  refine opens_l0 o hgs.1 (by omega) c2 other [a, a + z, b] (fun t ht => ?_) (by simp) 3 k 0 (by simp) (by simp) (by omega)
  simp only [List.mem_cons, List.not_mem_nil, or_false] at ht
  omega
end Go.Proofs.Ytpfkiljakiiieaa.Pure
