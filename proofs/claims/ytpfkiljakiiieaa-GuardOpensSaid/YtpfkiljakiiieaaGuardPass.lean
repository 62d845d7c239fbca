/- What passes a guardian (layer 12), as printed. -/
import Derived.Test.YtpfkiljakiiieaaGuard
import Derived.Test.YtpfkiljakiiieaaGuardNear
import Derived.Test.YtpfkiljakiiieaaPrint0
import Derived.Test.YtpfkiljakiiieaaPrint18
import Derived.Test.YtpfkiljakiiieaaPrint19
import Derived.Test.YtpfkiljakiiieaaPrint20
set_option linter.unusedVariables false
set_option linter.unusedSimpArgs false
namespace Go.Proofs.Ytpfkiljakiiieaa.Medl
open Go.RowKit Go.Proofs.Ytpfkiljakiiieaa.Print Go.Proofs.YtpfkiljakiiieaaW.PrintWords Go.Proofs.YtpfkiljakiiieaaW.PrintLast Go.Proofs.YtpfkiljakiiieaaW.PrintMore
/-- A guardian that may be. -/
def Gd (known : Bool) (gs ga : Int) : Prop := (known = true ∨ (gs = 0 ∧ ga = 0)) ∧ gs ≤ 4294967296 ∧ Tm ga
instance (known : Bool) (gs ga : Int) : Decidable (Gd known gs ga) := by unfold Gd; infer_instance
theorem gcheck_eq {k : Nat} (hk : 2 ≤ k) (on known : Bool) (gs ga : Int) : guard_Check.f k on known gs ga = some (if Gd known gs ga then 0 else 1) := by
  unfold guard_Check.f
  cases known with
  | true =>
    rw [if_pos rfl]
    by_cases h : gs > 4294967296
    · rw [if_pos h, if_neg (fun q => by have := q.2.1; omega)]
    · rw [if_neg h, may_one hk]
      by_cases ht : Tm ga
      · rw [decide_eq_true ht, if_pos (show Gd true gs ga from ⟨.inl rfl, by omega, ht⟩)]
        rfl
      · rw [decide_eq_false ht, if_neg (fun q => ht q.2.2)]
        rfl
  | false =>
    rw [if_neg (by decide)]
    by_cases h0 : gs = 0 ∧ ga = 0
    · obtain ⟨rfl, rfl⟩ := h0
      rw [if_neg (by decide), if_neg (by omega), may_one hk, decide_eq_true (show Tm 0 by decide), if_pos (show Gd false 0 0 by decide)]
      rfl
    · rw [if_pos (by simp; omega), if_neg (fun q => by rcases q.1 with h | h; cases h; exact h0 h)]
theorem gnode_eq (n s l f w node : Int) : guard_node.f n s l f w node = some (decide (0 ≤ node ∧ node < n)) := by
  unfold guard_node.f
  by_cases h : node ≥ 0
  · rw [if_pos h]
    congr 1
    rw [decide_eq_decide]
    omega
  · rw [if_neg h, decide_eq_false (by omega)]
theorem mx_gt {r W : Int} (h : -4611686018427387904 ≤ r) (h2 : r ≤ 4611686018427387904) : mx r (wrap64 (-r)) > W ↔ ¬ (-W ≤ r ∧ r ≤ W) := by
  rw [w64 (x := -r) (by omega) (by omega)]
  unfold mx
  split <;> omega
section
variable {n s l f w p : Int}
theorem near_range {S x : Int} (h1 : 1 ≤ S) (hS : S ≤ 1125899906842624) (h2 : Tm x) : -4611686018427387904 ≤ (near S x).1 ∧ (near S x).1 ≤ 4611686018427387904 ∧ -1125899906842624 ≤ (near S x).2 ∧ (near S x).2 ≤ 1125899906842624 := by
  have ha := near_all (S := S) (far := x) h1
  have hb := near_half (S := S) (far := x) h1
  unfold Tm at h2
  refine ⟨?_, ?_, by omega, by omega⟩
  · by_cases hc : 0 ≤ (near S x).1
    · omega
    · have := Int.mul_le_mul_of_nonpos_left (show (near S x).1 ≤ 0 by omega) (show 1 ≤ S by omega)
      omega
  · by_cases hc : (near S x).1 ≤ 0
    · omega
    · have := Int.mul_le_mul_of_nonneg_left (show 1 ≤ S by omega) (show 0 ≤ (near S x).1 by omega)
      omega
/-- What passes a guardian that knows the time. -/
def Pk (n S W gs ga node b : Int) : Prop :=
  Tm (b - ga) ∧ 0 ≤ (near S (b - ga)).1 ∧ (near S (b - ga)).1 ≤ 4294967296 ∧ -W ≤ (near S (b - ga)).2 ∧ (near S (b - ga)).2 ≤ W ∧ gs + (near S (b - ga)).1 ≤ 4294967296 ∧ (gs + (near S (b - ga)).1) % n = node
instance (n S W gs ga node b : Int) : Decidable (Pk n S W gs ga node b) := by unfold Pk; infer_instance
theorem passes_known (h : Ok n s l f w) {k : Nat} (hk : 3 ≤ k) {S L W gs ga node b fk ff fs fm : Int} {on : Bool} (h1 : 1 ≤ S) (hS : S ≤ 1125899906842624) (hgs : 0 ≤ gs) (hgs2 : gs ≤ 4294967296) (hga : Tm ga) (hb : Tm b) :
    ∃ x, guard_scale_passes.f k S L W on true gs ga n s l f w node fk ff fs fm b = some (x, decide (Pk n S W gs ga node b)) ∧ (Pk n S W gs ga node b → x = gs + (near S (b - ga)).1) := by
  unfold guard_scale_passes.f
  rw [if_pos rfl, sub_eq hk, if_pos ⟨hb, hga⟩]
  by_cases ht : Tm (b - ga)
  · have r := near_range h1 hS ht
    have ht2 := ht
    unfold Tm at ht2
    rw [if_pos ht]
    simp only [Option.bind_some, if_true]
    rw [slots_eq h1 hS (by omega) (by omega)]
    simp only [Option.bind_some]
    by_cases c1 : (near S (b - ga)).1 < 0
    · rw [if_pos c1, decide_eq_false (fun q => by have := q.2.1; omega)]
      exact ⟨_, rfl, fun q => absurd q.2.1 (by omega)⟩
    rw [if_neg c1]
    by_cases c2 : (near S (b - ga)).1 > 4294967296
    · rw [if_pos c2, decide_eq_false (fun q => by have := q.2.2.1; omega)]
      exact ⟨_, rfl, fun q => absurd q.2.2.1 (by omega)⟩
    rw [if_neg c2]
    by_cases c3 : -W ≤ (near S (b - ga)).2 ∧ (near S (b - ga)).2 ≤ W
    · rw [if_neg (fun q => (mx_gt (by omega) (by omega)).1 q c3), u64 (x := (near S (b - ga)).1) (by omega) (by omega), u64 (x := gs + (near S (b - ga)).1) (by omega) (by omega)]
      by_cases c4 : gs + (near S (b - ga)).1 ≤ 4294967296
      · rw [owner_ok h (by omega) c4]
        simp only [Option.bind_some, if_true]
        refine ⟨_, ?_, fun _ => rfl⟩
        congr 2
        rw [Bool.eq_iff_iff]
        simp only [beq_iff_eq, decide_eq_true_eq]
        exact ⟨fun q => ⟨ht, by omega, by omega, c3.1, c3.2, c4, q⟩, fun q => q.2.2.2.2.2.2⟩
      · rw [owner_no (fun q => c4 q.2), decide_eq_false (fun q => c4 q.2.2.2.2.2.1)]
        exact ⟨_, rfl, fun q => absurd q.2.2.2.2.2.1 c4⟩
    · rw [if_pos ((mx_gt (by omega) (by omega)).2 c3), decide_eq_false (fun q => c3 ⟨q.2.2.2.1, q.2.2.2.2.1⟩)]
      exact ⟨_, rfl, fun q => absurd ⟨q.2.2.2.1, q.2.2.2.2.1⟩ c3⟩
  · rw [if_neg ht, decide_eq_false (fun q => ht q.1)]
    exact ⟨_, rfl, fun q => absurd q.1 ht⟩
theorem passes_cold {k : Nat} {S L W gs ga node b fk ff fs fm : Int} {on : Bool} (hfs : 0 ≤ fs) :
    ∃ x, guard_scale_passes.f k S L W on false gs ga n s l f w node fk ff fs fm b = some (x, decide (fk = 2 ∧ ff = node ∧ Ok n s l f w ∧ fs ≤ 4294967296 ∧ fs % n = node)) ∧ ((fk = 2 ∧ ff = node ∧ Ok n s l f w ∧ fs ≤ 4294967296 ∧ fs % n = node) → x = fs) := by
  unfold guard_scale_passes.f
  rw [if_neg (by decide)]
  by_cases c1 : fk = 2
  · rw [if_pos c1]
    by_cases c2 : ff = node
    · rw [if_pos c2]
      by_cases c3 : Ok n s l f w ∧ fs ≤ 4294967296
      · rw [owner_ok c3.1 hfs c3.2]
        simp only [Option.bind_some, if_true]
        refine ⟨_, ?_, fun _ => rfl⟩
        congr 2
        rw [Bool.eq_iff_iff]
        simp only [beq_iff_eq, decide_eq_true_eq]
        exact ⟨fun q => ⟨c1, c2, c3.1, c3.2, q⟩, fun q => q.2.2.2.2⟩
      · rw [owner_no c3, decide_eq_false (fun q => c3 ⟨q.2.2.1, q.2.2.2.1⟩)]
        exact ⟨_, rfl, fun q => absurd ⟨q.2.2.1, q.2.2.2.1⟩ c3⟩
    · rw [if_neg c2, decide_eq_false (fun q => c2 q.2.1)]
      exact ⟨_, rfl, fun q => absurd q.2.1 c2⟩
  · rw [if_neg c1, decide_eq_false (fun q => c1 q.1)]
    exact ⟨_, rfl, fun q => absurd q.1 c1⟩
/-- The arguments of a pass may be. -/
def Pa (n s l f w p : Int) (known : Bool) (gs ga node t : Int) : Prop := Sc n s l f w p ∧ Gd known gs ga ∧ (0 ≤ node ∧ node < n) ∧ 0 ≤ t ∧ Tm t
instance (known : Bool) (gs ga node t : Int) : Decidable (Pa n s l f w p known gs ga node t) := by unfold Pa; infer_instance
theorem pass_no {k : Nat} (hk : 4 ≤ k) {on known : Bool} {gs ga node t fk ff fs fm : Int} (h : ¬ Pa n s l f w p known gs ga node t) :
    guard_Pass.f k on known gs ga n s l f w p node fk ff fs fm t = some (on, known, gs, ga, false, 1) := by
  unfold guard_Pass.f
  obtain ⟨k, rfl⟩ : ∃ m, k = m + 1 := ⟨k - 1, by omega⟩
  by_cases h1 : Sc n s l f w p
  · rw [scaled_ok h1]
    simp only [Option.bind_some, if_true]
    rw [gcheck_eq (by omega)]
    by_cases h2 : Gd known gs ga
    · rw [if_pos h2, gnode_eq]
      simp only [Option.bind_some, if_true]
      by_cases h3 : 0 ≤ node ∧ node < n
      · rw [decide_eq_true h3, if_pos rfl]
        by_cases h4 : t < 0
        · rw [if_pos h4]
          simp [guard_Pass.j0]
        · rw [if_neg h4, may_one (by omega), decide_eq_false (fun q => h ⟨h1, h2, h3, by omega, q⟩)]
          simp [guard_Pass.j0]
      · rw [decide_eq_false h3]
        simp [guard_Pass.j0]
    · rw [if_neg h2]
      simp [guard_Pass.j0]
  · obtain ⟨a, b, c, e⟩ := scaled_no h1
    rw [e]
    simp [guard_Pass.j0]
theorem pass_go {k : Nat} (hk : 4 ≤ k) {on known : Bool} {gs ga node t fk ff fs fm : Int} (h : Pa n s l f w p known gs ga node t) :
    guard_Pass.f (k + 1) on known gs ga n s l f w p node fk ff fs fm t = (if on = true then ((guard_scale_passes.f k (s * p) (l * p) (w * p) on known gs ga n s l f w node fk ff fs fm (wrap64 (t - l * p))).bind fun bt => (if bt.2 = true then (some (true, true, bt.1, wrap64 (t - l * p), true, 0)) else (some (on, known, gs, ga, false, 0)))) else (some (on, known, gs, ga, true, 0))) := by
  unfold guard_Pass.f
  obtain ⟨h1, h2, h3, h4, h5⟩ := h
  rw [scaled_ok h1]
  simp only [Option.bind_some, if_true]
  rw [gcheck_eq (by omega), if_pos h2, gnode_eq, decide_eq_true h3]
  simp only [Option.bind_some, if_true]
  rw [if_neg (by omega), may_one (by omega), decide_eq_true h5]
  simp only [Option.bind_some]
  simp [guard_Pass.j0]
theorem pass_known {k : Nat} (hk : 5 ≤ k) {gs ga node t fk ff fs fm : Int} (hgs : 0 ≤ gs) (h : Pa n s l f w p true gs ga node t) :
    guard_Pass.f k true true gs ga n s l f w p node fk ff fs fm t = some (if Pk n (s * p) (w * p) gs ga node (t - l * p) then (true, true, gs + (near (s * p) (t - l * p - ga)).1, t - l * p, true, 0) else (true, true, gs, ga, false, 0)) := by
  obtain ⟨k, rfl⟩ : ∃ m, k = m + 1 := ⟨k - 1, by omega⟩
  have r := sp_range h.1
  have ht := h.2.2.2
  have h5 := ht.2
  unfold Tm at h5
  have hb : Tm (t - l * p) := by unfold Tm; omega
  rw [pass_go (by omega) h, if_pos rfl, w64 (x := t - l * p) (by omega) (by omega)]
  obtain ⟨x, e, hx⟩ := passes_known (L := l * p) (W := w * p) (fk := fk) (ff := ff) (fs := fs) (fm := fm) (node := node) (on := true) h.1.1 (show 3 ≤ k by omega) (show 1 ≤ s * p by omega) (by omega) hgs h.2.1.2.1 h.2.1.2.2 hb
  rw [e]
  simp only [Option.bind_some, decide_eq_true_eq]
  by_cases q : Pk n (s * p) (w * p) gs ga node (t - l * p)
  · rw [if_pos q, if_pos q, hx q]
  · rw [if_neg q, if_neg q]
end
end Go.Proofs.Ytpfkiljakiiieaa.Medl
