/- Words of this session's own: what the reading of a law's argument tells of its cells, for structs and for slices of whatever is told by a kind. -/
import Derived.Test.YtcofclkgfandfaaGreatWMore
import Derived.Deep.Slices
import Derived.Deep.Fields
import Derived.ChangeArms
import Derived.WideShapes
import Derived.SizedLaws
set_option linter.unusedVariables false
set_option linter.unusedSimpArgs false
namespace Go.Proofs.YtcofclkgfandfaaGreatX
open Go.RowKit Go.ChangeShapes Go.WideShapes Go.Proofs.YtcofclkgfandfaaGreatW.PrintWords Go.Proofs.YtcofclkgfandfaaGreatW.PrintLast
/-- What a reading of type t tells: the cells are those of something of kind d, and it is well formed. -/
def Rd {α : Type} (P : Program) (t : TypeId) (d : Kd α) (wf : α → Prop) : Prop :=
  ∀ (H : Type) (enc : TypeId × Value → H) (w : World) (base : Nat) (spare : Nat → Bool) (held : Bool) (fuel : Nat) (cs : List Value) (x : DataW H × List MemPlace),
    DataW.trod enc P w base spare held fuel t cs = some x → ∃ a : α, d.K w a cs ∧ wf a
section
variable {α β : Type} {P : Program} {t e : TypeId} {d : Kd α} {d' : Kd β} {wf : α → Prop} {wf' : β → Prop}
theorem Rd.int {k : IntKind} (ht : P.underlying t = some (.int k)) : Rd P t (Kd.int k) (fun n => (Lit.int k n).wf = true) := by
  intro H enc w base spare held fuel cs x h
  obtain ⟨n, rfl, _, hn⟩ := DataW.trod_int ht h
  exact ⟨n, rfl, hn⟩
theorem Rd.bool (ht : P.underlying t = some .bool) : Rd P t Kd.bool (fun _ => True) := by
  intro H enc w base spare held fuel cs x h
  obtain ⟨n, rfl, _⟩ := DataW.trod_bool ht h
  exact ⟨n, rfl, trivial⟩
theorem Rd.string (ht : P.underlying t = some .string) : Rd P t Kd.string (fun s => s.size ≤ maxLen) := by
  intro H enc w base spare held fuel cs x h
  obtain ⟨n, rfl, _, hn⟩ := DataW.trod_string ht h
  exact ⟨n, rfl, hn⟩
theorem list_of {p : Nat → α → Prop} : ∀ n, (∀ i, i < n → ∃ x, p i x) → ∃ l : List α, l.length = n ∧ ∀ j x, l[j]? = some x → p j x
  | 0, _ => ⟨[], rfl, fun j x h => by simp at h⟩
  | n + 1, h => by
    obtain ⟨l, hl, hp⟩ := list_of n (fun i hi => h i (by omega))
    obtain ⟨x, hx⟩ := h n (by omega)
    refine ⟨l ++ [x], by simp [hl], fun j y hj => ?_⟩
    by_cases hjn : j < n
    · rw [List.getElem?_append_left (by omega)] at hj
      exact hp j y hj
    · rw [List.getElem?_append_right (by omega)] at hj
      have h0 : j = n := by
        have := (List.getElem?_eq_some_iff.1 hj).1
        simp at this
        omega
      subst h0
      rw [hl] at hj
      simp at hj
      subst hj
      exact hx
theorem Rd.slice (ht : P.underlying t = some (.slice e)) (hc : P.cellsOf e = d.sz) (r : Rd P e d wf) : Rd P t (Kd.slice e d) (fun l => l.length ≤ maxLen ∧ ∀ x ∈ l, wf x) := by
  intro H enc w base spare held fuel cs x h
  rcases Go.Deep.open_slice ht h with ⟨rfl, _⟩ | ⟨a, len, cap, m, n, D, Pl, rfl, hb, hl, hm, hmm, _, hi⟩
  · exact ⟨[], ⟨none, 0, rfl, Nat.le_refl _, Kd.C_nil d w⟩, by simp, by simp⟩
  · obtain ⟨l, hlen, hl2⟩ := list_of (p := fun i x => ∃ cs', w.cells? base (a.add (i * P.cellsOf e)) (P.cellsOf e) = some cs' ∧ d.K w x cs' ∧ wf x) len (fun i hi2 => by
      obtain ⟨cs', h1, h2⟩ := hi i (by rw [hmm]; split <;> omega)
      obtain ⟨x, hk, hw⟩ := r _ _ _ _ _ _ _ _ _ h2
      exact ⟨x, cs', h1, hk, hw⟩)
    subst hlen
    refine ⟨l, ⟨some a, cap, rfl, hl, rfl, ?_, fun _ => ⟨a, rfl, fun j p hj => ?_⟩⟩, by omega, fun x hx => ?_⟩
    · unfold maxLen at hm
      omega
    · obtain ⟨cs', h1, hk, _⟩ := hl2 j p hj
      obtain ⟨_, hcl, hat⟩ := World.cells?_some h1
      refine ⟨cs', by rw [hcl, hc], hk, fun i u hu => ?_⟩
      have hil : i < cs'.length := (List.getElem?_eq_some_iff.1 hu).1
      have := hat i (by omega)
      rw [Go.Deep.add_add, hc] at this
      rw [this, hu]
    · obtain ⟨j, hj⟩ := List.getElem?_of_mem hx
      exact (hl2 j x hj).choose_spec.2.2
/-- The fields of a struct from cell o on. -/
def RdS {α : Type} (P : Program) (fs : Array Field) (o : Nat) (d : Kd α) (wf : α → Prop) : Prop :=
  ∀ (H : Type) (enc : TypeId × Value → H) (w : World) (base : Nat) (spare : Nat → Bool) (held : Bool) (n : Nat) (cs : List Value),
    (∀ (j : Nat) (f : Field), fs[j]? = some f → ∃ y, DataW.trod enc P w base spare held n f.type ((cs.drop f.offset).take (P.cellsOf f.type)) = some y) → cs.length = o + d.sz → ∃ a : α, d.K w a (cs.drop o) ∧ wf a
theorem RdS.last {fs : Array Field} {o i : Nat} {f : Field} (hf : fs[i]? = some f) (ho : f.offset = o) (hc : P.cellsOf f.type = d.sz) (r : Rd P f.type d wf) : RdS P fs o d wf := by
  intro H enc w base spare held n cs hj hl
  obtain ⟨y, hy⟩ := hj i f hf
  rw [ho, hc, List.take_of_length_le (by rw [List.length_drop]; omega)] at hy
  exact r _ _ _ _ _ _ _ _ _ hy
theorem RdS.cons {fs : Array Field} {o i : Nat} {f : Field} (hf : fs[i]? = some f) (ho : f.offset = o) (hc : P.cellsOf f.type = d.sz) (r : Rd P f.type d wf) (r2 : RdS P fs (o + d.sz) d' wf') : RdS P fs o (Kd.pair d d') (fun x => wf x.1 ∧ wf' x.2) := by
  intro H enc w base spare held n cs hj hl
  obtain ⟨y, hy⟩ := hj i f hf
  rw [ho, hc] at hy
  obtain ⟨a, hk, hw⟩ := r _ _ _ _ _ _ _ _ _ hy
  obtain ⟨b, hk2, hw2⟩ := r2 H enc w base spare held n cs hj (by rw [hl]; show o + (d.sz + d'.sz) = _; omega)
  refine ⟨(a, b), ⟨_, _, ?_, hk, hk2⟩, hw, hw2⟩
  rw [← List.drop_drop, List.take_append_drop]
theorem Rd.struct {fs : Array Field} (ht : P.underlying t = some (.struct fs)) (r : RdS P fs 0 d wf) (hs : P.cellsOf t = d.sz) {f : β → α} (g : α → β) (hg : ∀ a, f (g a) = a) : Rd P t (Kd.iso d f) (fun x => wf (f x)) := by
  intro H enc w base spare held fuel cs x h
  obtain ⟨xs, n, _, _, hlen, hxl, hj⟩ := DataW.trod_struct ht h
  obtain ⟨a, hk, hw⟩ := r H enc w base spare held n cs (fun j f hf => by
    have hjl : j < fs.size := (Array.getElem?_eq_some_iff.1 hf).1
    exact ⟨xs[j]'(by omega), by rw [hj j f hf]; exact List.getElem?_eq_getElem (by omega)⟩) (by omega)
  refine ⟨g a, ?_, ?_⟩
  · show d.K w (f (g a)) cs
    rw [hg]
    simpa using hk
  · show wf (f (g a))
    rw [hg]
    exact hw
theorem Rd.imp {wf2 : α → Prop} (r : Rd P t d wf) (h : ∀ x, wf x → wf2 x) : Rd P t d wf2 := by
  intro H enc w base spare held fuel cs x hx
  obtain ⟨a, hk, hw⟩ := r _ _ _ _ _ _ _ _ _ hx
  exact ⟨a, hk, h a hw⟩
theorem Rd.open_ (r : Rd P t d wf) {H : Type} {enc : TypeId × Value → H} {w : World} {base : Nat} {spare : Nat → Bool} {held : Bool} {v : Value} {dd : DataW H} {pp : List MemPlace} (h : DataW.Trod enc P w base spare held t v dd pp) : ∃ a : α, d.K w a v.cells.toList ∧ wf a := by
  obtain ⟨fuel, hf⟩ := h
  exact r _ _ _ _ _ _ _ _ _ hf
end
theorem agg_of {c : Array Value} {l : List Value} (h : (Value.agg c).cells.toList = l) : c = l.toArray := by
  subst h
  rfl
theorem slice_of {a : Option Addr} {n c : Nat} {l : List Value} (h : (Value.slice a n c).cells.toList = l) : l = [.slice a n c] := by
  subst h
  rfl
/-- A law's slice of whatever elements is no longer than its weight allows. -/
theorem sized_any {H : Type} {enc : TypeId × Value → H} {P : Program} {W : World} {base : Nat} {spare : Nat → Bool} {held : Bool} {t e : TypeId} {a : Option Addr} {len cap : Nat} {d : DataW H} {ps : List MemPlace} {ts : List TypeId} {ds : List (DataW H)} {j : Nat}
    (hsz : (DataW.weightsEach P ts ds).all (· ≤ reachBytes) = true) (ht : ts[j]? = some t) (hd : ds[j]? = some d) (hu : P.underlying t = some (.slice e)) {B : Nat} (hB : P.bytesOf e = B)
    (h : DataW.Trod enc P W base spare held t (.slice a len cap) d ps) : len * B ≤ 140737488351232 := by
  obtain ⟨fuel, hf⟩ := h
  rcases Go.Deep.open_slice hu hf with ⟨hcs, _⟩ | ⟨x, l, c, m, n, D, Pl, hcs, _, hl, _, _, hx, _⟩
  · simp [Value.cells] at hcs
    obtain ⟨rfl, rfl, rfl⟩ := hcs
    simp
  · simp [Value.cells] at hcs
    obtain ⟨rfl, rfl, rfl⟩ := hcs
    obtain ⟨hx, _⟩ := Prod.mk.inj hx
    subst hx
    have z := sized_slice hsz ht hd hu
    rw [hB] at z
    simp only [List.length_map, List.length_range] at z
    exact Nat.le_trans (Nat.mul_le_mul_right _ (Nat.le_add_right _ _)) z
end Go.Proofs.YtcofclkgfandfaaGreatX
