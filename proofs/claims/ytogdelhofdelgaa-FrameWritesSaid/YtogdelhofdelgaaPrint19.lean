-- PRINTED by print.py (a twelfth state) out of the translation. Not trusted: Lean checks it.
import Derived.Test.YtogdelhofdelgaaPrint0
import Derived.Test.YtogdelhofdelgaaPrint3
import Derived.Test.YtogdelhofdelgaaPrint16
import Derived.Test.YtogdelhofdelgaaPrint17
import Derived.Test.YtogdelhofdelgaaPrint18
namespace Go.Proofs.Ytogdelhofdelgaa.Print
open Go.RowKit Go.Proofs.YtogdelhofdelgaaW.PrintWords Go.Proofs.YtogdelhofdelgaaW.PrintLast Go.Proofs.YtogdelhofdelgaaW.PrintMore Go.Proofs.YtogdelhofdelgaaX
attribute [local go_sem] str_lss str_geq max2_int min2_int max_two min_two max_three min_three max_four min_four   -- for this text's walks alone
set_option linter.unusedVariables false
set_option linter.unusedSimpArgs false

/-! ### frame_Read: function 21 -/
/-- frame.Read's inner function: a number of a width, if nothing was wrong ahead of it. -/
def frame_Read_1.f (k : Nat) (l : List Int) (e p wd : Int) : Option (Int × Int × Int) := if e = 0 then wire_TakeFixed.f k l p wd else some (0, p, e)
set_option maxHeartbeats 4000000 in
set_option maxRecDepth 100000 in
theorem frame_Read_1.calls (k : Nat) (e p wd n p' e' : Int) (ge gb ga : Nat) (A : Option Addr) (c : Nat) (l : List Int) (w : World)
  (hE : w.heap[ge]? = some (.cells #[.int .i64 e] 28 (0, 0))) (hB : w.heap[gb]? = some (.cells #[.slice A l.length c] 27 (0, 0))) (hP : w.heap[ga]? = some (.cells #[.int .i64 p] 3 (0, 0)))
  (hr : Kd.C (Kd.int .u8) w A l.length l) (hc : l.length ≤ c) (h : frame_Read_1.f k l e p wd = some (n, p', e')) :
  Calls Try.prog 34 #[.int .i64 wd, .pointer (some ⟨ge, 0, none⟩), .pointer (some ⟨gb, 0, none⟩), .pointer (some ⟨ga, 0, none⟩)] w fun r w' => r = .returned (.int .u64 n) ∧ w'.heap[ge]? = some (.cells #[.int .i64 e'] 28 (0, 0)) ∧ w'.heap[ga]? = some (.cells #[.int .i64 p'] 3 (0, 0)) ∧ (∀ j, j ≠ ge → j ≠ ga → w'.heap[j]? = w.heap[j]?) ∧ (∀ B, B ≤ ge → B ≤ ga → Below B w w') := by
 unfold frame_Read_1.f at h
 have hne : ge ≠ ga := blk_ne hE hP (by decide)
 have he : w.cell? ⟨ge, 0, none⟩ = some (.int .i64 e) := (blk_cell hE 0).trans rfl
 have fe : w.frozen? ⟨ge, 0, none⟩ = false := blk_frozen hE 0
 have hb : w.cell? ⟨gb, 0, none⟩ = some (.slice A l.length c) := (blk_cell hB 0).trans rfl
 have ha : w.cell? ⟨ga, 0, none⟩ = some (.int .i64 p) := (blk_cell hP 0).trans rfl
 have fa : w.frozen? ⟨ga, 0, none⟩ = false := blk_frozen hP 0
 have HE := Aside0.mk hE
 have HP := Aside0.mk hP
 clear hE hB hP
 by_cases c0 : e = 0
 ·subst c0
  rw [if_pos rfl] at h
  have H := Aside0.mk h
  clear h
  go_enter Try.func34, Try.ntmps34
  go_wp2_with (first | (go_at_call 35; (refine (wire_TakeFixed.calls k A c l p wd n p' e' _ hr hc H.out).mono ?_); rintro r w1 ⟨rfl, hd⟩; obtain ⟨nd, rfl⟩ := hd.out; clear hd))
  go_ret
  refine ⟨rfl, blk_set (blk_far HE.out hne _) 0 _, blk_far (blk_set HP.out 0 _) (fun q => hne q.symm) _, fun j h1 h2 => (Below.heap_setCell _ _ _ j h1).trans (Below.heap_setCell _ _ _ j h2), fun B h1 h2 => (((pw_below_drewN (Below.refl B w) nd).setCell h2 _).setCell h1 _)⟩
 ·rw [if_neg c0] at h
  simp only [Option.some.injEq, Prod.mk.injEq] at h
  obtain ⟨rfl, rfl, rfl⟩ := h
  go_enter Try.func34, Try.ntmps34
  go_wp2
  go_ret
  exact ⟨rfl, HE.out, HP.out, fun _ _ _ => rfl, fun B _ _ => Below.refl B w⟩
/-- A frame read, as the code reads it: each number read through the inner function. -/
def frame_Read.f (k : Nat) (l : List Int) : Option (Int × Int × Int × Int × Int) := (crc_Open24.f l).bind fun o => if o.2 = 0 then ((frame_Read_1.f k o.1 0 0 1).bind fun h => (frame_Read_1.f k o.1 h.2.2 h.2.1 1).bind fun a => (frame_Read_1.f k o.1 a.2.2 a.2.1 1).bind fun b => (if b.2.2 = 0 then wire_TakeVary.f k o.1 b.2.1 else some (0, b.2.1, b.2.2)).bind fun v => (frame_Read_1.f k o.1 v.2.2 v.2.1 2).bind fun m => if m.2.2 = 0 ∧ h.1 = 161 ∧ m.2.1 = (o.1.length : Int) then ((frame_Check.f k (wrap64 a.1) (wrap64 b.1) v.1 (IntKind.u16.wrap m.1)).bind fun c => some (if c = 0 then (wrap64 a.1, wrap64 b.1, v.1, IntKind.u16.wrap m.1, 0) else (0, 0, 0, 0, 4))) else some (0, 0, 0, 0, 4)) else some (0, 0, 0, 0, o.2)
theorem frame_hmf : ∀ (fn : Fn) (first cap : Array Value) (w : World), (Instr.makeFunc fn first cap).run Try.prog w = .ok (.func fn first cap) w := fun _ _ _ _ => rfl

theorem frame_Read_1.mono : ∀ a0 a1 a2 a3 k, LeO (frame_Read_1.f k a0 a1 a2 a3) (frame_Read_1.f (k + 1) a0 a1 a2 a3) := by
  intro a0 a1 a2 a3 k
  unfold frame_Read_1.f
  exact LeO.ite (wire_TakeFixed.mono _ _ _ _) (LeO.refl _)
theorem frame_Read.mono : ∀ a0 k, LeO (frame_Read.f k a0) (frame_Read.f (k + 1) a0) := by
  intro a0 k
  unfold frame_Read.f
  refine LeO.bind (LeO.refl _) (fun _ => LeO.ite (LeO.bind (frame_Read_1.mono _ _ _ _ _) (fun _ => LeO.bind (frame_Read_1.mono _ _ _ _ _) (fun _ => LeO.bind (frame_Read_1.mono _ _ _ _ _) (fun _ => LeO.bind (LeO.ite (wire_TakeVary.mono _ _ _) (LeO.refl _)) (fun _ => LeO.bind (frame_Read_1.mono _ _ _ _ _) (fun _ => LeO.ite (LeO.bind (frame_Check.mono _ _ _ _ _) (fun _ => LeO.refl _)) (LeO.refl _))))))) (LeO.refl _))
/-- How things stand between the inner function's calls: the four variables, the bytes, what lay there before. -/
structure frame_St (w wi : World) (gb gs ge ga lo hi : Nat) (A : Option Addr) (c : Nat) (o : List Int) (e p s0 s1 s2 s3 : Int) : Prop where
 bb : wi.heap[gb]? = some (.cells #[.slice A o.length c] 27 (0, 0))
 bs : wi.heap[gs]? = some (.cells #[.int .i64 s0, .int .i64 s1, .int .u64 s2, .int .u16 s3] 25 (0, 0))
 be : wi.heap[ge]? = some (.cells #[.int .i64 e] 28 (0, 0))
 bp : wi.heap[ga]? = some (.cells #[.int .i64 p] 3 (0, 0))
 rd : Kd.R (Kd.int .u8) 5 wi lo (fun k => lo ≤ k ∧ k < hi) (.slice A o.length c) o
 bel : Below w.heap.size w wi
 gs_ : w.heap.size ≤ gs
 ge_ : w.heap.size ≤ ge ∧ hi ≤ ge
 ga_ : w.heap.size ≤ ga ∧ hi ≤ ga
 lo_ : gs < lo
section
variable {w wi : World} {gb gs ge ga lo hi : Nat} {A : Option Addr} {c : Nat} {o : List Int} {e p s0 s1 s2 s3 : Int}
theorem frame_St.nes (h : frame_St w wi gb gs ge ga lo hi A c o e p s0 s1 s2 s3) : gb ≠ gs ∧ gb ≠ ge ∧ gb ≠ ga ∧ gs ≠ ge ∧ gs ≠ ga ∧ ge ≠ ga ∧ gs ≠ gb ∧ ge ≠ gb ∧ ga ≠ gb ∧ ge ≠ gs ∧ ga ≠ gs ∧ ga ≠ ge := by
 have a := blk_ne h.bb h.bs (by decide)
 have b := blk_ne h.bb h.be (by decide)
 have c := blk_ne h.bb h.bp (by decide)
 have d := blk_ne h.bs h.be (by decide)
 have e := blk_ne h.bs h.bp (by decide)
 have f := blk_ne h.be h.bp (by decide)
 exact ⟨a, b, c, d, e, f, a.symm, b.symm, c.symm, d.symm, e.symm, f.symm⟩
theorem frame_St.cells (h : frame_St w wi gb gs ge ga lo hi A c o e p s0 s1 s2 s3) : wi.cell? ⟨gb, 0, none⟩ = some (.slice A o.length c) ∧ wi.cell? ⟨ge, 0, none⟩ = some (.int .i64 e) ∧ wi.cell? ⟨ga, 0, none⟩ = some (.int .i64 p) ∧ wi.frozen? ⟨ge, 0, none⟩ = false ∧ wi.frozen? ⟨ga, 0, none⟩ = false :=
 ⟨(blk_cell h.bb 0).trans rfl, (blk_cell h.be 0).trans rfl, (blk_cell h.bp 0).trans rfl, blk_frozen h.be 0, blk_frozen h.bp 0⟩
theorem frame_St.fields (h : frame_St w wi gb gs ge ga lo hi A c o e p s0 s1 s2 s3) : (wi.cell? ⟨gs, 0, none⟩ = some (.int .i64 s0) ∧ wi.cell? ⟨gs, 1, none⟩ = some (.int .i64 s1) ∧ wi.cell? ⟨gs, 2, none⟩ = some (.int .u64 s2) ∧ wi.cell? ⟨gs, 3, none⟩ = some (.int .u16 s3)) ∧ (wi.frozen? ⟨gs, 0, none⟩ = false ∧ wi.frozen? ⟨gs, 1, none⟩ = false ∧ wi.frozen? ⟨gs, 2, none⟩ = false ∧ wi.frozen? ⟨gs, 3, none⟩ = false) :=
 ⟨⟨(blk_cell h.bs 0).trans rfl, (blk_cell h.bs 1).trans rfl, (blk_cell h.bs 2).trans rfl, (blk_cell h.bs 3).trans rfl⟩, blk_frozen h.bs 0, blk_frozen h.bs 1, blk_frozen h.bs 2, blk_frozen h.bs 3⟩
theorem frame_St.rdC (h : frame_St w wi gb gs ge ga lo hi A c o e p s0 s1 s2 s3) : Kd.C (Kd.int .u8) wi A o.length o ∧ o.length ≤ c := by
 have := Kd.R_reads' h.rd
 exact ⟨this.2.2, this.2.1⟩
theorem frame_St.called {wj : World} (h : frame_St w wi gb gs ge ga lo hi A c o e p s0 s1 s2 s3) (hb : Below wi.heap.size wi wj) : frame_St w wj gb gs ge ga lo hi A c o e p s0 s1 s2 s3 :=
 ⟨blk_below h.bb hb, blk_below h.bs hb, blk_below h.be hb, blk_below h.bp hb, Kd.R_below h.rd hb, below_step h.bel hb, h.gs_, h.ge_, h.ga_, h.lo_⟩
theorem frame_St.innerd {wj : World} {e' p' : Int} (h : frame_St w wi gb gs ge ga lo hi A c o e p s0 s1 s2 s3) (he : wj.heap[ge]? = some (.cells #[.int .i64 e'] 28 (0, 0))) (hp : wj.heap[ga]? = some (.cells #[.int .i64 p'] 3 (0, 0)))
  (hk : ∀ j, j ≠ ge → j ≠ ga → wj.heap[j]? = wi.heap[j]?) (hb : ∀ B, B ≤ ge → B ≤ ga → Below B wi wj) : frame_St w wj gb gs ge ga lo hi A c o e' p' s0 s1 s2 s3 := by
 obtain ⟨n1, n2, n3, n4, n5, n6, _⟩ := h.nes
 exact ⟨(hk gb n2 n3).trans h.bb, (hk gs n4 n5).trans h.bs, he, hp, Kd.R_step h.rd (fun k ho _ => hk k (by have := h.ge_; omega) (by have := h.ga_; omega)), h.bel.trans (hb _ h.ge_.1 h.ga_.1), h.gs_, h.ge_, h.ga_, h.lo_⟩
theorem frame_St.setE (h : frame_St w wi gb gs ge ga lo hi A c o e p s0 s1 s2 s3) (v : Int) : frame_St w (wi.setCell ⟨ge, 0, none⟩ (.int .i64 v)) gb gs ge ga lo hi A c o v p s0 s1 s2 s3 := by
 obtain ⟨n1, n2, n3, n4, n5, n6, _⟩ := h.nes
 exact ⟨blk_far h.bb n2 _, blk_far h.bs n4 _, blk_set h.be 0 _, blk_far h.bp n6.symm _, Kd.R_far h.rd (fun k hk => by have := h.ge_; show k ≠ ge; omega) _, h.bel.setCell h.ge_.1 _, h.gs_, h.ge_, h.ga_, h.lo_⟩
theorem frame_St.setP (h : frame_St w wi gb gs ge ga lo hi A c o e p s0 s1 s2 s3) (v : Int) : frame_St w (wi.setCell ⟨ga, 0, none⟩ (.int .i64 v)) gb gs ge ga lo hi A c o e v s0 s1 s2 s3 := by
 obtain ⟨n1, n2, n3, n4, n5, n6, _⟩ := h.nes
 exact ⟨blk_far h.bb n3 _, blk_far h.bs n5 _, blk_far h.be n6 _, blk_set h.bp 0 _, Kd.R_far h.rd (fun k hk => by have := h.ga_; show k ≠ ga; omega) _, h.bel.setCell h.ga_.1 _, h.gs_, h.ge_, h.ga_, h.lo_⟩
theorem frame_St.set0 (h : frame_St w wi gb gs ge ga lo hi A c o e p s0 s1 s2 s3) (v : Int) : frame_St w (wi.setCell ⟨gs, 0, none⟩ (.int .i64 v)) gb gs ge ga lo hi A c o e p v s1 s2 s3 := by
 obtain ⟨n1, n2, n3, n4, n5, n6, _⟩ := h.nes
 exact ⟨blk_far h.bb n1 _, blk_set h.bs 0 _, blk_far h.be n4.symm _, blk_far h.bp n5.symm _, Kd.R_far h.rd (fun k hk => by have := h.lo_; show k ≠ gs; omega) _, h.bel.setCell h.gs_ _, h.gs_, h.ge_, h.ga_, h.lo_⟩
theorem frame_St.set1 (h : frame_St w wi gb gs ge ga lo hi A c o e p s0 s1 s2 s3) (v : Int) : frame_St w (wi.setCell ⟨gs, 1, none⟩ (.int .i64 v)) gb gs ge ga lo hi A c o e p s0 v s2 s3 := by
 obtain ⟨n1, n2, n3, n4, n5, n6, _⟩ := h.nes
 exact ⟨blk_far h.bb n1 _, blk_set h.bs 1 _, blk_far h.be n4.symm _, blk_far h.bp n5.symm _, Kd.R_far h.rd (fun k hk => by have := h.lo_; show k ≠ gs; omega) _, h.bel.setCell h.gs_ _, h.gs_, h.ge_, h.ga_, h.lo_⟩
theorem frame_St.set2 (h : frame_St w wi gb gs ge ga lo hi A c o e p s0 s1 s2 s3) (v : Int) : frame_St w (wi.setCell ⟨gs, 2, none⟩ (.int .u64 v)) gb gs ge ga lo hi A c o e p s0 s1 v s3 := by
 obtain ⟨n1, n2, n3, n4, n5, n6, _⟩ := h.nes
 exact ⟨blk_far h.bb n1 _, blk_set h.bs 2 _, blk_far h.be n4.symm _, blk_far h.bp n5.symm _, Kd.R_far h.rd (fun k hk => by have := h.lo_; show k ≠ gs; omega) _, h.bel.setCell h.gs_ _, h.gs_, h.ge_, h.ga_, h.lo_⟩
theorem frame_St.set3 (h : frame_St w wi gb gs ge ga lo hi A c o e p s0 s1 s2 s3) (v : Int) : frame_St w (wi.setCell ⟨gs, 3, none⟩ (.int .u16 v)) gb gs ge ga lo hi A c o e p s0 s1 s2 v := by
 obtain ⟨n1, n2, n3, n4, n5, n6, _⟩ := h.nes
 exact ⟨blk_far h.bb n1 _, blk_set h.bs 3 _, blk_far h.be n4.symm _, blk_far h.bp n5.symm _, Kd.R_far h.rd (fun k hk => by have := h.lo_; show k ≠ gs; omega) _, h.bel.setCell h.gs_ _, h.gs_, h.ge_, h.ga_, h.lo_⟩
end
theorem frame_first {w w1 w2 w3 w4 w5 : World} {gb gs ge ga : Nat} {A0 A1 : Option Addr} {c0 c2 : Nat} {l0 o : List Int} (HB1 : Below w.heap.size w w1) (HB2 : Below w1.heap.size w1 w2) (HB3 : Below w2.heap.size w2 w3) (HB4 : Below w3.heap.size w3 w4) (e1 : gb = w.heap.size) (e2 : gs = w1.heap.size) (e3 : ge = w3.heap.size) (e4 : ga = ((w4.setCell ⟨gb, 0, none⟩ (.slice A1 o.length c2)).setCell ⟨ge, 0, none⟩ (.int .i64 0)).heap.size)
  (BB : w4.heap[gb]? = some (.cells #[.slice A0 l0.length c0] 27 (0, 0))) (BS : w4.heap[gs]? = some (.cells #[.int .i64 0, .int .i64 0, .int .u64 0, .int .u16 0] 25 (0, 0))) (BE : w4.heap[ge]? = some (.cells #[.int .i64 0] 28 (0, 0))) (BP : w5.heap[ga]? = some (.cells #[.int .i64 0] 3 (0, 0)))
  (HO : Kd.R (Kd.int .u8) 5 w3 w2.heap.size (fun _ => True) (.slice A1 o.length c2) o) (hs : gs < w2.heap.size) (HB5 : Below ((w4.setCell ⟨gb, 0, none⟩ (.slice A1 o.length c2)).setCell ⟨ge, 0, none⟩ (.int .i64 0)).heap.size ((w4.setCell ⟨gb, 0, none⟩ (.slice A1 o.length c2)).setCell ⟨ge, 0, none⟩ (.int .i64 0)) w5) : frame_St w w5 gb gs ge ga w2.heap.size w3.heap.size A1 c2 o 0 0 0 0 0 0 := by
 have n1 : ge ≠ gb := blk_ne BE BB (by decide)
 have n2 : ge ≠ gs := blk_ne BE BS (by decide)
 have n3 : gb ≠ gs := blk_ne BB BS (by decide)
 have z1 := HB1.size
 have z2 := HB2.size
 have z3 := HB3.size
 have z4 := HB4.size
 have hsz : ((w4.setCell ⟨gb, 0, none⟩ (.slice A1 o.length c2)).setCell ⟨ge, 0, none⟩ (.int .i64 0)).heap.size = w4.heap.size := by simp [World.setCell]
 rw [hsz] at e4
 have hb := (((below_step (below_step (below_step HB1 HB2) HB3) HB4).setCell (p := ⟨gb, 0, none⟩) (by show w.heap.size ≤ gb; omega) (.slice A1 o.length c2)).setCell (p := ⟨ge, 0, none⟩) (by show w.heap.size ≤ ge; omega) (.int .i64 0))
 have rd : Kd.R (Kd.int .u8) 5 w3 w2.heap.size (fun k => w2.heap.size ≤ k ∧ k < w3.heap.size) (.slice A1 o.length c2) o := Kd.R_mono (Kd.R_bound HO) (fun k hk => ⟨hk.2.1, hk.2.2.1⟩)
 exact ⟨blk_below (blk_far (blk_set BB 0 _) n1.symm _) HB5, blk_below (blk_far (blk_far BS n3.symm _) n2.symm _) HB5, blk_below (blk_set (blk_far BE n1 _) 0 _) HB5, BP, Kd.R_below (Kd.R_far (Kd.R_far (Kd.R_below rd HB4) (fun k hk => by show k ≠ gb; omega) _) (fun k hk => by show k ≠ ge; omega) _) HB5, below_step hb HB5, by omega, by omega, by omega, hs⟩
set_option maxHeartbeats 8000000 in
set_option maxRecDepth 100000 in
theorem frame_Read.calls (k : Nat) (A0 : Option Addr) (c0 : Nat) (l0 : List Int) (r1 : Int) (r2 : Int) (r3 : Int) (r4 : Int) (r5 : Int) (w : World) (hr0 : Kd.C (Kd.int .u8) w A0 l0.length l0) (hc0 : l0.length ≤ c0) (h : frame_Read.f k l0 = some (r1, r2, r3, r4, r5)) :
  Calls Try.prog 21 #[.slice A0 l0.length c0] w fun e w' => e = .returned (.tuple #[.agg #[.int .i64 r1, .int .i64 r2, .int .u64 r3, .int .u16 r4], .int .i64 r5]) ∧ Below w.heap.size w w' := by
 have hmf := frame_hmf
 unfold frame_Read.f at h
 replace h := Option.bind_eq_some_iff.mp h
 obtain ⟨⟨o, e0⟩, h1, h⟩ := h
 have H1 := Aside0.mk h1
 clear h1
 have HR := Aside0.mk hr0
 have HC := Aside0.mk hc0
 clear hr0 hc0
 by_cases c1 : e0 = 0
 ·subst c1
  rw [if_pos rfl] at h
  replace h := Option.bind_eq_some_iff.mp h
  obtain ⟨⟨n1, p1, e1⟩, f1, h⟩ := h
  replace h := Option.bind_eq_some_iff.mp h
  obtain ⟨⟨n2, p2, e2⟩, f2, h⟩ := h
  replace h := Option.bind_eq_some_iff.mp h
  obtain ⟨⟨n3, p3, e3⟩, f3, h⟩ := h
  replace h := Option.bind_eq_some_iff.mp h
  obtain ⟨⟨n4, p4, e4⟩, fv, h⟩ := h
  replace h := Option.bind_eq_some_iff.mp h
  obtain ⟨⟨n5, p5, e5⟩, f4, h⟩ := h
  have F1 := Aside0.mk f1
  have F2 := Aside0.mk f2
  have F3 := Aside0.mk f3
  have F4 := Aside0.mk f4
  clear f1 f2 f3 f4
  simp only at fv h
  have FV0 := Aside0.mk fv
  have HH := Aside0.mk h
  clear fv h
  go_enter Try.func21, Try.ntmps21
  go_upto_region 6 with (first
   | ((with_reducible refine gate_dst (N := 1) rfl ?_); refine box_event ?hg (N := 1) ?hd (cs := #[.slice A0 l0.length c0]) (t := 27) ?hr ?_; (case hd => rfl); (case hg => rfl); (case hr => first | (go_simp; done) | (go_simp; rfl)); intro gb hgb w1 hbox hb1; have BB := Aside0.mk hbox; have HB1 := Aside0.mk hb1; have HGB := Aside0.mk hgb; have cb1 : w1.cell? ⟨gb, 0, none⟩ = some (.slice A0 l0.length c0) := (blk_cell hbox 0).trans rfl; clear hbox hb1 hgb)
   | ((with_reducible refine gate_dst (N := 2) rfl ?_); refine box_event ?hg (N := 2) ?hd (cs := #[.int .i64 0, .int .i64 0, .int .u64 0, .int .u16 0]) (t := 25) ?hr ?_; (case hd => rfl); (case hg => rfl); (case hr => first | (go_simp; done) | (go_simp; rfl)); intro gs hgs w2 hbox hb2; have BS := Aside0.mk hbox; have HB2 := Aside0.mk hb2; have HGS := Aside0.mk hgs; have BB2 := Aside0.mk (blk_below BB.out hb2); have cb2 : w2.cell? ⟨gb, 0, none⟩ = some (.slice A0 l0.length c0) := (blk_cell BB2.out 0).trans rfl; clear hbox hb2 hgs cb1)
   | (go_at_call 33; (refine (crc_Open24.calls A0 c0 l0 o 0 _ (Kd.C_below (Kd.C_below HR.out HB1.out) HB2.out) HC.out H1.out).mono ?_); rintro r w3 ⟨v, rfl, ho, hb3⟩; obtain ⟨A1, c2, ev⟩ := Kd.R_slice ho; subst ev; have HO := Aside0.mk ho; have HB3 := Aside0.mk hb3; have BB3 := Aside0.mk (blk_below BB2.out hb3); have BS3 := Aside0.mk (blk_below BS.out hb3); have cb3 : w3.cell? ⟨gb, 0, none⟩ = some (.slice A0 l0.length c0) := (blk_cell BB3.out 0).trans rfl; have fb3 : w3.frozen? ⟨gb, 0, none⟩ = false := blk_frozen BB3.out 0; clear ho hb3 cb2)
   | ((with_reducible refine gate_dst (N := 4) rfl ?_); refine box_event ?hg (N := 4) ?hd (cs := #[.int .i64 0]) (t := 28) ?hr ?_; (case hd => rfl); (case hg => rfl); (case hr => first | (go_simp; done) | (go_simp; rfl)); intro ge hge w4 hbox hb4; have BE := Aside0.mk hbox; have HB4 := Aside0.mk hb4; have HGE := Aside0.mk hge; have BB4 := Aside0.mk (blk_below BB3.out hb4); have BS4 := Aside0.mk (blk_below BS3.out hb4); have cb4 : w4.cell? ⟨gb, 0, none⟩ = some (.slice A0 l0.length c0) := (blk_cell BB4.out 0).trans rfl; have fb4 : w4.frozen? ⟨gb, 0, none⟩ = false := blk_frozen BB4.out 0; have ce4 : w4.cell? ⟨ge, 0, none⟩ = some (.int .i64 0) := (blk_cell hbox 0).trans rfl; have fe4 : w4.frozen? ⟨ge, 0, none⟩ = false := blk_frozen hbox 0; have n1 : ge ≠ gb := blk_ne hbox BB4.out (by decide); have n2 : ge ≠ gs := blk_ne hbox BS4.out (by decide); have n3 : gb ≠ gs := blk_ne BB4.out BS4.out (by decide); have s0 : w4.cell? ⟨gs, 0, none⟩ = some (.int .i64 0) := (blk_cell BS4.out 0).trans rfl; have q0 : w4.frozen? ⟨gs, 0, none⟩ = false := blk_frozen BS4.out 0; have s1 : w4.cell? ⟨gs, 1, none⟩ = some (.int .i64 0) := (blk_cell BS4.out 1).trans rfl; have q1 : w4.frozen? ⟨gs, 1, none⟩ = false := blk_frozen BS4.out 1; have s2 : w4.cell? ⟨gs, 2, none⟩ = some (.int .u64 0) := (blk_cell BS4.out 2).trans rfl; have q2 : w4.frozen? ⟨gs, 2, none⟩ = false := blk_frozen BS4.out 2; have s3 : w4.cell? ⟨gs, 3, none⟩ = some (.int .u16 0) := (blk_cell BS4.out 3).trans rfl; have q3 : w4.frozen? ⟨gs, 3, none⟩ = false := blk_frozen BS4.out 3; clear hbox hb4 hge cb3 fb3)
   | ((with_reducible refine gate_dst (N := 5) rfl ?_); refine box_event ?hg (N := 5) ?hd (cs := #[.int .i64 0]) (t := 3) ?hr ?_; (case hd => rfl); (case hg => rfl); (case hr => first | (go_simp; done) | (go_simp; rfl)); intro ga hga w5 hbox hb5; have S5 := Aside0.mk (frame_first HB1.out HB2.out HB3.out HB4.out HGB.out HGS.out HGE.out hga BB4.out BS4.out BE.out hbox HO.out (blk_lt BS.out) hb5); obtain ⟨z1, z2, z3, z4, z5, z6, z7, z8, z9, z10, z11, z12⟩ := S5.out.nes; obtain ⟨m0, m1, m2, m3, m4⟩ := S5.out.cells; obtain ⟨⟨x0, x1, x2, x3⟩, y0, y1, y2, y3⟩ := S5.out.fields; clear hbox hb5 hga cb4 fb4 ce4 fe4 s0 q0 s1 q1 s2 q2 s3 q3 n1 n2 n3)
   | fail)
  clear BB HB1 HGB BS HB2 HGS BB2 HO HB3 BB3 BS3 BE HB4 HGE BB4 BS4 HR HC H1
  go_upto_region 7 with (first
   | (go_at_call 34; (refine (frame_Read_1.calls k 0 0 1 n1 p1 e1 ge gb ga A1 c2 o _ (S5.out.setP 0).be (S5.out.setP 0).bb (S5.out.setP 0).bp (S5.out.setP 0).rdC.1 (S5.out.setP 0).rdC.2 F1.out).mono ?_); rintro r w6 ⟨rfl, he, hp, hk, hb⟩; have S6 := Aside0.mk ((S5.out.setP 0).innerd he hp hk hb); clear he hp hk hb; clear m0 m1 m2 m3 m4 x0 x1 x2 x3 y0 y1 y2 y3; obtain ⟨m0, m1, m2, m3, m4⟩ := S6.out.cells; obtain ⟨⟨x0, x1, x2, x3⟩, y0, y1, y2, y3⟩ := S6.out.fields)
   | fail)
  clear S5
  go_upto_region 8 with (first
   | (go_at_call 34; (refine (frame_Read_1.calls k e1 p1 1 n2 p2 e2 ge gb ga A1 c2 o _ (S6.out).be (S6.out).bb (S6.out).bp (S6.out).rdC.1 (S6.out).rdC.2 F2.out).mono ?_); rintro r w7 ⟨rfl, he, hp, hk, hb⟩; have S7 := Aside0.mk ((S6.out).innerd he hp hk hb); clear he hp hk hb; clear m0 m1 m2 m3 m4 x0 x1 x2 x3 y0 y1 y2 y3; obtain ⟨m0, m1, m2, m3, m4⟩ := S7.out.cells; obtain ⟨⟨x0, x1, x2, x3⟩, y0, y1, y2, y3⟩ := S7.out.fields)
   | fail)
  clear S6
  go_upto_region 9 with (first
   | (go_at_call 34; (refine (frame_Read_1.calls k e2 p2 1 n3 p3 e3 ge gb ga A1 c2 o _ (S7.out.set0 (wrap64 n2)).be (S7.out.set0 (wrap64 n2)).bb (S7.out.set0 (wrap64 n2)).bp (S7.out.set0 (wrap64 n2)).rdC.1 (S7.out.set0 (wrap64 n2)).rdC.2 F3.out).mono ?_); rintro r w8 ⟨rfl, he, hp, hk, hb⟩; have S8 := Aside0.mk ((S7.out.set0 (wrap64 n2)).innerd he hp hk hb); clear he hp hk hb; clear m0 m1 m2 m3 m4 x0 x1 x2 x3 y0 y1 y2 y3; obtain ⟨m0, m1, m2, m3, m4⟩ := S8.out.cells; obtain ⟨⟨x0, x1, x2, x3⟩, y0, y1, y2, y3⟩ := S8.out.fields)
   | fail)
  clear S7
  have fv := FV0.out
  have h := HH.out
  clear FV0 HH
  by_cases c3 : e3 = 0
  ·rw [if_pos c3] at fv
   have FV := Aside0.mk fv
   have HH := Aside0.mk h
   clear fv h
   have c3b : (e3 == 0) = true := beq_iff_eq.mpr c3
   clear c3
   go_upto_region 11 with (first
    | (go_at_call 36; (refine (wire_TakeVary.calls k A1 c2 o p3 n4 p4 e4 _ (S8.out.set1 (wrap64 n3)).rdC.1 (S8.out.set1 (wrap64 n3)).rdC.2 FV.out).mono ?_); rintro r w9 ⟨rfl, hb⟩; have S9 := Aside0.mk ((S8.out.set1 (wrap64 n3)).called hb); clear hb; clear m0 m1 m2 m3 m4 x0 x1 x2 x3 y0 y1 y2 y3; obtain ⟨m0, m1, m2, m3, m4⟩ := S9.out.cells; obtain ⟨⟨x0, x1, x2, x3⟩, y0, y1, y2, y3⟩ := S9.out.fields)
    | fail)
   clear S8
   go_upto_region 12 with (first
    | (go_at_call 34; (refine (frame_Read_1.calls k e4 p4 2 n5 p5 e5 ge gb ga A1 c2 o _ (((S9.out.set2 n4).setP p4).setE e4).be (((S9.out.set2 n4).setP p4).setE e4).bb (((S9.out.set2 n4).setP p4).setE e4).bp (((S9.out.set2 n4).setP p4).setE e4).rdC.1 (((S9.out.set2 n4).setP p4).setE e4).rdC.2 F4.out).mono ?_); rintro r w10 ⟨rfl, he, hp, hk, hb⟩; have S10 := Aside0.mk ((((S9.out.set2 n4).setP p4).setE e4).innerd he hp hk hb); clear he hp hk hb; clear m0 m1 m2 m3 m4 x0 x1 x2 x3 y0 y1 y2 y3; obtain ⟨m0, m1, m2, m3, m4⟩ := S10.out.cells; obtain ⟨⟨x0, x1, x2, x3⟩, y0, y1, y2, y3⟩ := S10.out.fields)
    | fail)
   clear S9
   have h := HH.out
   clear HH
   by_cases d1 : e5 = 0
   ·have d1b : (e5 != 0) = false := bne_eq_false_iff_eq.mpr d1
    by_cases d2 : n1 = 161
    ·have d2b : (n1 != 161) = false := bne_eq_false_iff_eq.mpr d2
     by_cases d3 : p5 = (o.length : Int)
     ·have d3b : (p5 != (o.length : Int)) = false := bne_eq_false_iff_eq.mpr d3
      rw [if_pos ⟨d1, d2, d3⟩] at h
      clear d1 d2 d3
      replace h := Option.bind_eq_some_iff.mp h
      obtain ⟨ck, fc, h⟩ := h
      have FC := Aside0.mk fc
      clear fc
      by_cases d4 : ck = 0
      ·have d4b : (ck != 0) = false := bne_eq_false_iff_eq.mpr d4
       rw [if_pos d4] at h
       clear d4
       simp only [Option.some.injEq, Prod.mk.injEq] at h
       obtain ⟨rfl, rfl, rfl, rfl, rfl⟩ := h
       go_wp2_with (first
        | (go_at_call 24; (refine (frame_Check.calls k _ _ _ _ ck _ FC.out).mono ?_); rintro r w11 ⟨rfl, hb⟩; have S11 := Aside0.mk ((S10.out.set3 (IntKind.u16.wrap n5)).called hb); clear hb; clear m0 m1 m2 m3 m4 x0 x1 x2 x3 y0 y1 y2 y3; obtain ⟨m0, m1, m2, m3, m4⟩ := S11.out.cells; obtain ⟨⟨x0, x1, x2, x3⟩, y0, y1, y2, y3⟩ := S11.out.fields)
        | fail)
       refine bodyPost_ret (results_ct rfl _ _ gs 25 #[.int .i64 (wrap64 n2), .int .i64 (wrap64 n3), .int .u64 n4, .int .u16 (IntKind.u16.wrap n5)] (0, 0) _ rfl ((((S11.out.set0 (wrap64 n2)).set1 (wrap64 n3)).set2 n4).set3 (IntKind.u16.wrap n5)).bs Try.underlying25 rfl (by kernel_rfl)) rfl ?_
       exact ⟨rfl, ((((S11.out.set0 (wrap64 n2)).set1 (wrap64 n3)).set2 n4).set3 (IntKind.u16.wrap n5)).bel⟩
      ·have d4b : (ck != 0) = true := bne_iff_ne.mpr d4
       rw [if_neg d4] at h
       clear d4
       simp only [Option.some.injEq, Prod.mk.injEq] at h
       obtain ⟨rfl, rfl, rfl, rfl, rfl⟩ := h
       go_wp2_with (first
        | (go_at_call 24; (refine (frame_Check.calls k _ _ _ _ ck _ FC.out).mono ?_); rintro r w11 ⟨rfl, hb⟩; have S11 := Aside0.mk ((S10.out.set3 (IntKind.u16.wrap n5)).called hb); clear hb; clear m0 m1 m2 m3 m4 x0 x1 x2 x3 y0 y1 y2 y3; obtain ⟨m0, m1, m2, m3, m4⟩ := S11.out.cells; obtain ⟨⟨x0, x1, x2, x3⟩, y0, y1, y2, y3⟩ := S11.out.fields)
        | fail)
       refine bodyPost_ret (results_ct rfl _ _ gs 25 #[.int .i64 0, .int .i64 0, .int .u64 0, .int .u16 0] (0, 0) _ rfl (((((S11.out).set0 0).set1 0).set2 0).set3 0).bs Try.underlying25 rfl (by kernel_rfl)) rfl ?_
       exact ⟨rfl, (((((S11.out).set0 0).set1 0).set2 0).set3 0).bel⟩
     ·have d3b : (p5 != (o.length : Int)) = true := bne_iff_ne.mpr d3
      rw [if_neg (fun q => d3 q.2.2)] at h
      clear d1 d2 d3
      simp only [Option.some.injEq, Prod.mk.injEq] at h
      obtain ⟨rfl, rfl, rfl, rfl, rfl⟩ := h
      go_wp2_with (first
       | fail)
      refine bodyPost_ret (results_ct rfl _ _ gs 25 #[.int .i64 0, .int .i64 0, .int .u64 0, .int .u16 0] (0, 0) _ rfl (((((S10.out.set3 (IntKind.u16.wrap n5)).set0 0).set1 0).set2 0).set3 0).bs Try.underlying25 rfl (by kernel_rfl)) rfl ?_
      exact ⟨rfl, (((((S10.out.set3 (IntKind.u16.wrap n5)).set0 0).set1 0).set2 0).set3 0).bel⟩
    ·have d2b : (n1 != 161) = true := bne_iff_ne.mpr d2
     rw [if_neg (fun q => d2 q.2.1)] at h
     clear d1 d2
     simp only [Option.some.injEq, Prod.mk.injEq] at h
     obtain ⟨rfl, rfl, rfl, rfl, rfl⟩ := h
     go_wp2_with (first
      | fail)
     refine bodyPost_ret (results_ct rfl _ _ gs 25 #[.int .i64 0, .int .i64 0, .int .u64 0, .int .u16 0] (0, 0) _ rfl (((((S10.out.set3 (IntKind.u16.wrap n5)).set0 0).set1 0).set2 0).set3 0).bs Try.underlying25 rfl (by kernel_rfl)) rfl ?_
     exact ⟨rfl, (((((S10.out.set3 (IntKind.u16.wrap n5)).set0 0).set1 0).set2 0).set3 0).bel⟩
   ·have d1b : (e5 != 0) = true := bne_iff_ne.mpr d1
    rw [if_neg (fun q => d1 q.1)] at h
    clear d1
    simp only [Option.some.injEq, Prod.mk.injEq] at h
    obtain ⟨rfl, rfl, rfl, rfl, rfl⟩ := h
    go_wp2_with (first
     | fail)
    refine bodyPost_ret (results_ct rfl _ _ gs 25 #[.int .i64 0, .int .i64 0, .int .u64 0, .int .u16 0] (0, 0) _ rfl (((((S10.out.set3 (IntKind.u16.wrap n5)).set0 0).set1 0).set2 0).set3 0).bs Try.underlying25 rfl (by kernel_rfl)) rfl ?_
    exact ⟨rfl, (((((S10.out.set3 (IntKind.u16.wrap n5)).set0 0).set1 0).set2 0).set3 0).bel⟩
  ·rw [if_neg c3] at fv
   simp only [Option.some.injEq, Prod.mk.injEq] at fv
   obtain ⟨rfl, rfl, rfl⟩ := fv
   have c3b : (e3 == 0) = false := beq_eq_false_iff_ne.mpr c3
   obtain ⟨rfl, rfl, rfl⟩ : 0 = n5 ∧ p3 = p5 ∧ e3 = e5 := by
    have := F4.out
    unfold frame_Read_1.f at this
    rw [if_neg c3] at this
    simpa only [Option.some.injEq, Prod.mk.injEq] using this
   have d1b : (e3 != 0) = true := bne_iff_ne.mpr c3
   rw [if_neg (fun q => c3 q.1)] at h
   clear c3
   simp only [Option.some.injEq, Prod.mk.injEq] at h
   obtain ⟨rfl, rfl, rfl, rfl, rfl⟩ := h
   go_upto_region 11 with (first
    | fail)
   go_upto_region 12 with (first
    | (go_at_call 34; (refine (frame_Read_1.calls k e3 p3 2 0 p3 e3 ge gb ga A1 c2 o _ (S8.out.set1 (wrap64 n3)).be (S8.out.set1 (wrap64 n3)).bb (S8.out.set1 (wrap64 n3)).bp (S8.out.set1 (wrap64 n3)).rdC.1 (S8.out.set1 (wrap64 n3)).rdC.2 F4.out).mono ?_); rintro r w10 ⟨rfl, he, hp, hk, hb⟩; have S10 := Aside0.mk ((S8.out.set1 (wrap64 n3)).innerd he hp hk hb); clear he hp hk hb; clear m0 m1 m2 m3 m4 x0 x1 x2 x3 y0 y1 y2 y3; obtain ⟨m0, m1, m2, m3, m4⟩ := S10.out.cells; obtain ⟨⟨x0, x1, x2, x3⟩, y0, y1, y2, y3⟩ := S10.out.fields)
    | fail)
   clear S8
   go_wp2_with (first
    | fail)
   refine bodyPost_ret (results_ct rfl _ _ gs 25 #[.int .i64 0, .int .i64 0, .int .u64 0, .int .u16 0] (0, 0) _ rfl (((((S10.out.set3 0).set0 0).set1 0).set2 0).set3 0).bs Try.underlying25 rfl (by kernel_rfl)) rfl ?_
   exact ⟨rfl, (((((S10.out.set3 0).set0 0).set1 0).set2 0).set3 0).bel⟩
 ·have c1b : (e0 != 0) = true := bne_iff_ne.mpr c1
  rw [if_neg c1] at h
  simp only [Option.some.injEq, Prod.mk.injEq] at h
  obtain ⟨rfl, rfl, rfl, rfl, rfl⟩ := h
  go_enter Try.func21, Try.ntmps21
  go_wp2_with (first
   | ((with_reducible refine gate_dst (N := 1) rfl ?_); refine box_event ?hg (N := 1) ?hd (cs := #[.slice A0 l0.length c0]) (t := 27) ?hr ?_; (case hd => rfl); (case hg => rfl); (case hr => first | (go_simp; done) | (go_simp; rfl)); intro gb hgb w1 hbox hb1; have BB := Aside0.mk hbox; have HB1 := Aside0.mk hb1; have HGB := Aside0.mk hgb; have cb1 : w1.cell? ⟨gb, 0, none⟩ = some (.slice A0 l0.length c0) := (blk_cell hbox 0).trans rfl; clear hbox hb1 hgb)
   | ((with_reducible refine gate_dst (N := 2) rfl ?_); refine box_event ?hg (N := 2) ?hd (cs := #[.int .i64 0, .int .i64 0, .int .u64 0, .int .u16 0]) (t := 25) ?hr ?_; (case hd => rfl); (case hg => rfl); (case hr => first | (go_simp; done) | (go_simp; rfl)); intro gs hgs w2 hbox hb2; have BS := Aside0.mk hbox; have HB2 := Aside0.mk hb2; have HGS := Aside0.mk hgs; have BB2 := Aside0.mk (blk_below BB.out hb2); have cb2 : w2.cell? ⟨gb, 0, none⟩ = some (.slice A0 l0.length c0) := (blk_cell BB2.out 0).trans rfl; clear hbox hb2 hgs cb1)
   | (go_at_call 33; (refine (crc_Open24.calls A0 c0 l0 o e0 _ (Kd.C_below (Kd.C_below HR.out HB1.out) HB2.out) HC.out H1.out).mono ?_); rintro r w3 ⟨v, rfl, ho, hb3⟩; obtain ⟨A1, c2, ev⟩ := Kd.R_slice ho; subst ev; have HO := Aside0.mk ho; have HB3 := Aside0.mk hb3; have BB3 := Aside0.mk (blk_below BB2.out hb3); have BS3 := Aside0.mk (blk_below BS.out hb3); have cb3 : w3.cell? ⟨gb, 0, none⟩ = some (.slice A0 l0.length c0) := (blk_cell BB3.out 0).trans rfl; have fb3 : w3.frozen? ⟨gb, 0, none⟩ = false := blk_frozen BB3.out 0; clear ho hb3 cb2)
   | ((with_reducible refine gate_dst (N := 4) rfl ?_); refine box_event ?hg (N := 4) ?hd (cs := #[.int .i64 0]) (t := 28) ?hr ?_; (case hd => rfl); (case hg => rfl); (case hr => first | (go_simp; done) | (go_simp; rfl)); intro ge hge w4 hbox hb4; have BE := Aside0.mk hbox; have HB4 := Aside0.mk hb4; have HGE := Aside0.mk hge; have BB4 := Aside0.mk (blk_below BB3.out hb4); have BS4 := Aside0.mk (blk_below BS3.out hb4); have cb4 : w4.cell? ⟨gb, 0, none⟩ = some (.slice A0 l0.length c0) := (blk_cell BB4.out 0).trans rfl; have fb4 : w4.frozen? ⟨gb, 0, none⟩ = false := blk_frozen BB4.out 0; have ce4 : w4.cell? ⟨ge, 0, none⟩ = some (.int .i64 0) := (blk_cell hbox 0).trans rfl; have fe4 : w4.frozen? ⟨ge, 0, none⟩ = false := blk_frozen hbox 0; have n1 : ge ≠ gb := blk_ne hbox BB4.out (by decide); have n2 : ge ≠ gs := blk_ne hbox BS4.out (by decide); have n3 : gb ≠ gs := blk_ne BB4.out BS4.out (by decide); have s0 : w4.cell? ⟨gs, 0, none⟩ = some (.int .i64 0) := (blk_cell BS4.out 0).trans rfl; have q0 : w4.frozen? ⟨gs, 0, none⟩ = false := blk_frozen BS4.out 0; have s1 : w4.cell? ⟨gs, 1, none⟩ = some (.int .i64 0) := (blk_cell BS4.out 1).trans rfl; have q1 : w4.frozen? ⟨gs, 1, none⟩ = false := blk_frozen BS4.out 1; have s2 : w4.cell? ⟨gs, 2, none⟩ = some (.int .u64 0) := (blk_cell BS4.out 2).trans rfl; have q2 : w4.frozen? ⟨gs, 2, none⟩ = false := blk_frozen BS4.out 2; have s3 : w4.cell? ⟨gs, 3, none⟩ = some (.int .u16 0) := (blk_cell BS4.out 3).trans rfl; have q3 : w4.frozen? ⟨gs, 3, none⟩ = false := blk_frozen BS4.out 3; clear hbox hb4 hge cb3 fb3)
   | fail)
  go_region
  all_goals (try go_wp2)
  refine bodyPost_ret (results_ct rfl _ _ gs 25 #[.int .i64 0, .int .i64 0, .int .u64 0, .int .u16 0] (0, 0) _ rfl (by (with_reducible repeat (first | refine blk_drewN ?_ _ | refine blk_drew ?_)); refine blk_put (cs := #[.int .i64 0, .int .i64 0, .int .u64 0, .int .u16 0]) ?_ 3 _ rfl; refine blk_put (cs := #[.int .i64 0, .int .i64 0, .int .u64 0, .int .u16 0]) ?_ 2 _ rfl; refine blk_put (cs := #[.int .i64 0, .int .i64 0, .int .u64 0, .int .u16 0]) ?_ 1 _ rfl; refine blk_put (cs := #[.int .i64 0, .int .i64 0, .int .u64 0, .int .u16 0]) ?_ 0 _ rfl; exact blk_far (blk_far BS4.out n3.symm _) n2.symm _) Try.underlying25 rfl (by kernel_rfl)) rfl ?_
  have z1 := HB1.out.size
  have z2 := HB2.out.size
  have z3 := HB3.out.size
  have hb := below_step (below_step (below_step HB1.out HB2.out) HB3.out) HB4.out
  have e1 := HGB.out
  have e2 := HGS.out
  have e3 := HGE.out
  exact ⟨by simp, by (with_reducible repeat (first | apply pw_below_drewN | apply below_drew1)); exact (((((hb.setCell (by show w.heap.size ≤ gb; omega) _).setCell (by show w.heap.size ≤ ge; omega) _).setCell (by show w.heap.size ≤ gs; omega) _).setCell (by show w.heap.size ≤ gs; omega) _).setCell (by show w.heap.size ≤ gs; omega) _).setCell (by show w.heap.size ≤ gs; omega) _⟩

end Go.Proofs.Ytogdelhofdelgaa.Print
