-- PRINTED by print.py (a twelfth state) out of the translation. Not trusted: Lean checks it.
import Derived.Test.YtcofclkgfandfaaGreatSq
import Derived.Test.YtcofclkgfandfaaGreatPrint0
import Derived.Test.YtcofclkgfandfaaGreatPrint25
import Derived.Test.YtcofclkgfandfaaGreatPrint6
import Derived.Test.YtcofclkgfandfaaGreatPrint13
namespace Go.Proofs.YtcofclkgfandfaaGreat.Print
set_option maxHeartbeats 8000000
set_option maxRecDepth 100000
open Go.RowKit Go.Proofs.YtcofclkgfandfaaGreatW.PrintWords Go.Proofs.YtcofclkgfandfaaGreatW.PrintLast Go.Proofs.YtcofclkgfandfaaGreatW.PrintMore Go.Proofs.YtcofclkgfandfaaGreatX
attribute [local go_sem] str_lss str_geq max2_int min2_int max_two min_two max_three min_three max_four min_four   -- for this text's walks alone
set_option linter.unusedVariables false
set_option linter.unusedSimpArgs false

/-! ### frame_Read: function 12 -/
/-- frame.Read's inner function: a number of a width, if nothing was wrong ahead of it. -/
def frame_Read_1.f (k : Nat) (l : List Int) (e p wd : Int) : Option (Int × Int × Int) := if e = 0 then wire_TakeFixed.f k l p wd else some (0, p, e)
theorem frame_Read_1.calls (k : Nat) (e p wd n p' e' : Int) (ge gb ga : Nat) (A : Option Addr) (c : Nat) (l : List Int) (w : World)
  (hE : w.heap[ge]? = some (.cells #[.int .i64 e] 36 (0, 0))) (hB : w.heap[gb]? = some (.cells #[.slice A l.length c] 33 (0, 0))) (hP : w.heap[ga]? = some (.cells #[.int .i64 p] 3 (0, 0)))
  (hr : Kd.C (Kd.int .u8) w A l.length l) (hc : l.length ≤ c) (h : frame_Read_1.f k l e p wd = some (n, p', e')) :
  Calls Tryz.prog 45 #[.int .i64 wd, .pointer (some ⟨ge, 0, none⟩), .pointer (some ⟨gb, 0, none⟩), .pointer (some ⟨ga, 0, none⟩)] w fun r w' => r = .returned (.int .u64 n) ∧ w'.heap[ge]? = some (.cells #[.int .i64 e'] 36 (0, 0)) ∧ w'.heap[ga]? = some (.cells #[.int .i64 p'] 3 (0, 0)) ∧ (∀ j, j ≠ ge → j ≠ ga → w'.heap[j]? = w.heap[j]?) ∧ (∀ B, B ≤ ge → B ≤ ga → Below B w w') := by
 unfold frame_Read_1.f at h
 have hne : ge ≠ ga := blk_ne hE hP (by decide)
 have he : w.cell? ⟨ge, 0, none⟩ = some (.int .i64 e) := (blk_cell hE 0).trans rfl
 have fe : w.frozen? ⟨ge, 0, none⟩ = false := blk_frozen hE 0
 have hb : w.cell? ⟨gb, 0, none⟩ = some (.slice A l.length c) := (blk_cell hB 0).trans rfl
 have ha : w.cell? ⟨ga, 0, none⟩ = some (.int .i64 p) := (blk_cell hP 0).trans rfl
 have fa : w.frozen? ⟨ga, 0, none⟩ = false := blk_frozen hP 0
 have HE := asd hE
 have HP := asd hP
 clear hE hB hP
 by_cases c0 : e = 0
 ·subst c0
  rw [if_pos rfl] at h
  have H := asd h
  clear h
  go_enter Tryz.func45, Tryz.ntmps45
  go_wp2_with (first | (go_at_call 46; (refine (wire_TakeFixed.calls k A c l p wd n p' e' _ hr hc H.out).mono ?_); rintro r w1 ⟨rfl, hd⟩; obtain ⟨nd, rfl⟩ := hd.out; clear hd))
  go_ret
  refine ⟨rfl, blk_set (blk_far HE.out hne _) 0 _, blk_far (blk_set HP.out 0 _) (fun q => hne q.symm) _, fun j h1 h2 => (Below.heap_setCell _ _ _ j h1).trans (Below.heap_setCell _ _ _ j h2), fun B h1 h2 => (((pw_below_drewN (Below.refl B w) nd).setCell h2 _).setCell h1 _)⟩
 rw [if_neg c0] at h
 simp only [Option.some.injEq, Prod.mk.injEq] at h
 obtain ⟨rfl, rfl, rfl⟩ := h
 go_enter Tryz.func45, Tryz.ntmps45
 go_wp2
 go_ret
 exact ⟨rfl, HE.out, HP.out, fun _ _ _ => rfl, fun B _ _ => Below.refl B w⟩
/-- A frame read, as the code reads it: each number read through the inner function. -/
def frame_Read.f (k : Nat) (l : List Int) : Option (Int × Int × Int × Int × Int) := (crc_Open24.f l).bind fun o => if o.2 = 0 then ((frame_Read_1.f k o.1 0 0 1).bind fun h => (frame_Read_1.f k o.1 h.2.2 h.2.1 1).bind fun a => (frame_Read_1.f k o.1 a.2.2 a.2.1 1).bind fun b => (if b.2.2 = 0 then wire_TakeVary.f k o.1 b.2.1 else some (0, b.2.1, b.2.2)).bind fun v => (frame_Read_1.f k o.1 v.2.2 v.2.1 2).bind fun m => if m.2.2 = 0 ∧ h.1 = 161 ∧ m.2.1 = (o.1.length : Int) then ((frame_Check.f k (wrap64 a.1) (wrap64 b.1) v.1 (IntKind.u16.wrap m.1)).bind fun c => some (if c = 0 then (wrap64 a.1, wrap64 b.1, v.1, IntKind.u16.wrap m.1, 0) else (0, 0, 0, 0, 4))) else some (0, 0, 0, 0, 4)) else some (0, 0, 0, 0, o.2)
theorem frame_hmf : ∀ (fn : Fn) (first cap : Array Value) (w : World), (Instr.makeFunc fn first cap).run Tryz.prog w = .ok (.func fn first cap) w := fun _ _ _ _ => rfl

/-- How things stand between the inner function's calls: the four variables, the bytes, what lay there before. -/
structure frame_St (w wi : World) (gb gs ge ga lo hi : Nat) (A : Option Addr) (c : Nat) (o : List Int) (e p s0 s1 s2 s3 : Int) : Prop where
 bb : wi.heap[gb]? = some (.cells #[.slice A o.length c] 33 (0, 0))
 bs : wi.heap[gs]? = some (.cells #[.int .i64 s0, .int .i64 s1, .int .u64 s2, .int .u16 s3] 43 (0, 0))
 be : wi.heap[ge]? = some (.cells #[.int .i64 e] 36 (0, 0))
 bp : wi.heap[ga]? = some (.cells #[.int .i64 p] 3 (0, 0))
 rd : Kd.R (Kd.int .u8) 5 wi lo (fun k => lo ≤ k ∧ k < hi) (.slice A o.length c) o
 bel : Below w.heap.size w wi
 gs_ : w.heap.size ≤ gs
 ge_ : w.heap.size ≤ ge ∧ hi ≤ ge
 ga_ : w.heap.size ≤ ga ∧ hi ≤ ga
 lo_ : gs < lo
section
variable {w wi : World} {gb gs ge ga lo hi : Nat} {A : Option Addr} {c : Nat} {o : List Int} {e p s0 s1 s2 s3 : Int}
theorem frame_St.nes (h : frame_St w wi gb gs ge ga lo hi A c o e p s0 s1 s2 s3) : gb ≠ gs ∧ gb ≠ ge ∧ gb ≠ ga ∧ gs ≠ ge ∧ gs ≠ ga ∧ ge ≠ ga ∧ gs ≠ gb ∧ ge ≠ gb ∧ ga ≠ gb ∧ ge ≠ gs ∧ ga ≠ gs ∧ ga ≠ ge := by
 have a := blk_ne h.bb h.bs (by decide)
 have b := blk_ne h.bb h.be (by decide)
 have c := blk_ne h.bb h.bp (by decide)
 have d := blk_ne h.bs h.be (by decide)
 have e := blk_ne h.bs h.bp (by decide)
 have f := blk_ne h.be h.bp (by decide)
 exact ⟨a, b, c, d, e, f, a.symm, b.symm, c.symm, d.symm, e.symm, f.symm⟩
theorem frame_St.cells (h : frame_St w wi gb gs ge ga lo hi A c o e p s0 s1 s2 s3) : wi.cell? ⟨gb, 0, none⟩ = some (.slice A o.length c) ∧ wi.cell? ⟨ge, 0, none⟩ = some (.int .i64 e) ∧ wi.cell? ⟨ga, 0, none⟩ = some (.int .i64 p) ∧ wi.frozen? ⟨ge, 0, none⟩ = false ∧ wi.frozen? ⟨ga, 0, none⟩ = false :=
 ⟨(blk_cell h.bb 0).trans rfl, (blk_cell h.be 0).trans rfl, (blk_cell h.bp 0).trans rfl, blk_frozen h.be 0, blk_frozen h.bp 0⟩
theorem frame_St.fields (h : frame_St w wi gb gs ge ga lo hi A c o e p s0 s1 s2 s3) : (wi.cell? ⟨gs, 0, none⟩ = some (.int .i64 s0) ∧ wi.cell? ⟨gs, 1, none⟩ = some (.int .i64 s1) ∧ wi.cell? ⟨gs, 2, none⟩ = some (.int .u64 s2) ∧ wi.cell? ⟨gs, 3, none⟩ = some (.int .u16 s3)) ∧ (wi.frozen? ⟨gs, 0, none⟩ = false ∧ wi.frozen? ⟨gs, 1, none⟩ = false ∧ wi.frozen? ⟨gs, 2, none⟩ = false ∧ wi.frozen? ⟨gs, 3, none⟩ = false) :=
 ⟨⟨(blk_cell h.bs 0).trans rfl, (blk_cell h.bs 1).trans rfl, (blk_cell h.bs 2).trans rfl, (blk_cell h.bs 3).trans rfl⟩, blk_frozen h.bs 0, blk_frozen h.bs 1, blk_frozen h.bs 2, blk_frozen h.bs 3⟩
theorem frame_St.rdC (h : frame_St w wi gb gs ge ga lo hi A c o e p s0 s1 s2 s3) : Kd.C (Kd.int .u8) wi A o.length o ∧ o.length ≤ c := by
 have := Kd.R_reads' h.rd
 exact ⟨this.2.2, this.2.1⟩
theorem frame_St.called {wj : World} (h : frame_St w wi gb gs ge ga lo hi A c o e p s0 s1 s2 s3) (hb : Below wi.heap.size wi wj) : frame_St w wj gb gs ge ga lo hi A c o e p s0 s1 s2 s3 :=
 ⟨blk_below h.bb hb, blk_below h.bs hb, blk_below h.be hb, blk_below h.bp hb, Kd.R_below h.rd hb, below_step h.bel hb, h.gs_, h.ge_, h.ga_, h.lo_⟩
theorem frame_St.innerd {wj : World} {e' p' : Int} (h : frame_St w wi gb gs ge ga lo hi A c o e p s0 s1 s2 s3) (he : wj.heap[ge]? = some (.cells #[.int .i64 e'] 36 (0, 0))) (hp : wj.heap[ga]? = some (.cells #[.int .i64 p'] 3 (0, 0)))
  (hk : ∀ j, j ≠ ge → j ≠ ga → wj.heap[j]? = wi.heap[j]?) (hb : ∀ B, B ≤ ge → B ≤ ga → Below B wi wj) : frame_St w wj gb gs ge ga lo hi A c o e' p' s0 s1 s2 s3 := by
 obtain ⟨n1, n2, n3, n4, n5, n6, _⟩ := h.nes
 exact ⟨(hk gb n2 n3).trans h.bb, (hk gs n4 n5).trans h.bs, he, hp, Kd.R_step h.rd (fun k ho _ => hk k (by have := h.ge_; omega) (by have := h.ga_; omega)), h.bel.trans (hb _ h.ge_.1 h.ga_.1), h.gs_, h.ge_, h.ga_, h.lo_⟩
theorem frame_St.setE (h : frame_St w wi gb gs ge ga lo hi A c o e p s0 s1 s2 s3) (v : Int) : frame_St w (wi.setCell ⟨ge, 0, none⟩ (.int .i64 v)) gb gs ge ga lo hi A c o v p s0 s1 s2 s3 := by
 obtain ⟨n1, n2, n3, n4, n5, n6, _⟩ := h.nes
 exact ⟨blk_far h.bb n2 _, blk_far h.bs n4 _, blk_set h.be 0 _, blk_far h.bp n6.symm _, Kd.R_far h.rd (fun k hk => by have := h.ge_; show k ≠ ge; omega) _, h.bel.setCell h.ge_.1 _, h.gs_, h.ge_, h.ga_, h.lo_⟩
theorem frame_St.setP (h : frame_St w wi gb gs ge ga lo hi A c o e p s0 s1 s2 s3) (v : Int) : frame_St w (wi.setCell ⟨ga, 0, none⟩ (.int .i64 v)) gb gs ge ga lo hi A c o e v s0 s1 s2 s3 := by
 obtain ⟨n1, n2, n3, n4, n5, n6, _⟩ := h.nes
 exact ⟨blk_far h.bb n3 _, blk_far h.bs n5 _, blk_far h.be n6 _, blk_set h.bp 0 _, Kd.R_far h.rd (fun k hk => by have := h.ga_; show k ≠ ga; omega) _, h.bel.setCell h.ga_.1 _, h.gs_, h.ge_, h.ga_, h.lo_⟩
theorem frame_St.set0 (h : frame_St w wi gb gs ge ga lo hi A c o e p s0 s1 s2 s3) (v : Int) : frame_St w (wi.setCell ⟨gs, 0, none⟩ (.int .i64 v)) gb gs ge ga lo hi A c o e p v s1 s2 s3 := by
 obtain ⟨n1, n2, n3, n4, n5, n6, _⟩ := h.nes
 exact ⟨blk_far h.bb n1 _, blk_set h.bs 0 _, blk_far h.be n4.symm _, blk_far h.bp n5.symm _, Kd.R_far h.rd (fun k hk => by have := h.lo_; show k ≠ gs; omega) _, h.bel.setCell h.gs_ _, h.gs_, h.ge_, h.ga_, h.lo_⟩
theorem frame_St.set1 (h : frame_St w wi gb gs ge ga lo hi A c o e p s0 s1 s2 s3) (v : Int) : frame_St w (wi.setCell ⟨gs, 1, none⟩ (.int .i64 v)) gb gs ge ga lo hi A c o e p s0 v s2 s3 := by
 obtain ⟨n1, n2, n3, n4, n5, n6, _⟩ := h.nes
 exact ⟨blk_far h.bb n1 _, blk_set h.bs 1 _, blk_far h.be n4.symm _, blk_far h.bp n5.symm _, Kd.R_far h.rd (fun k hk => by have := h.lo_; show k ≠ gs; omega) _, h.bel.setCell h.gs_ _, h.gs_, h.ge_, h.ga_, h.lo_⟩
theorem frame_St.set2 (h : frame_St w wi gb gs ge ga lo hi A c o e p s0 s1 s2 s3) (v : Int) : frame_St w (wi.setCell ⟨gs, 2, none⟩ (.int .u64 v)) gb gs ge ga lo hi A c o e p s0 s1 v s3 := by
 obtain ⟨n1, n2, n3, n4, n5, n6, _⟩ := h.nes
 exact ⟨blk_far h.bb n1 _, blk_set h.bs 2 _, blk_far h.be n4.symm _, blk_far h.bp n5.symm _, Kd.R_far h.rd (fun k hk => by have := h.lo_; show k ≠ gs; omega) _, h.bel.setCell h.gs_ _, h.gs_, h.ge_, h.ga_, h.lo_⟩
theorem frame_St.set3 (h : frame_St w wi gb gs ge ga lo hi A c o e p s0 s1 s2 s3) (v : Int) : frame_St w (wi.setCell ⟨gs, 3, none⟩ (.int .u16 v)) gb gs ge ga lo hi A c o e p s0 s1 s2 v := by
 obtain ⟨n1, n2, n3, n4, n5, n6, _⟩ := h.nes
 exact ⟨blk_far h.bb n1 _, blk_set h.bs 3 _, blk_far h.be n4.symm _, blk_far h.bp n5.symm _, Kd.R_far h.rd (fun k hk => by have := h.lo_; show k ≠ gs; omega) _, h.bel.setCell h.gs_ _, h.gs_, h.ge_, h.ga_, h.lo_⟩
end
theorem frame_first {w w1 w2 w3 w4 w5 : World} {gb gs ge ga : Nat} {A0 A1 : Option Addr} {c0 c2 : Nat} {l0 o : List Int} (HB1 : Below w.heap.size w w1) (HB2 : Below w1.heap.size w1 w2) (HB3 : Below w2.heap.size w2 w3) (HB4 : Below w3.heap.size w3 w4) (e1 : gb = w.heap.size) (e2 : gs = w1.heap.size) (e3 : ge = w3.heap.size) (e4 : ga = ((w4.setCell ⟨gb, 0, none⟩ (.slice A1 o.length c2)).setCell ⟨ge, 0, none⟩ (.int .i64 0)).heap.size)
  (BB : w4.heap[gb]? = some (.cells #[.slice A0 l0.length c0] 33 (0, 0))) (BS : w4.heap[gs]? = some (.cells #[.int .i64 0, .int .i64 0, .int .u64 0, .int .u16 0] 43 (0, 0))) (BE : w4.heap[ge]? = some (.cells #[.int .i64 0] 36 (0, 0))) (BP : w5.heap[ga]? = some (.cells #[.int .i64 0] 3 (0, 0)))
  (HO : Kd.R (Kd.int .u8) 5 w3 w2.heap.size (fun _ => True) (.slice A1 o.length c2) o) (hs : gs < w2.heap.size) (HB5 : Below ((w4.setCell ⟨gb, 0, none⟩ (.slice A1 o.length c2)).setCell ⟨ge, 0, none⟩ (.int .i64 0)).heap.size ((w4.setCell ⟨gb, 0, none⟩ (.slice A1 o.length c2)).setCell ⟨ge, 0, none⟩ (.int .i64 0)) w5) : frame_St w w5 gb gs ge ga w2.heap.size w3.heap.size A1 c2 o 0 0 0 0 0 0 := by
 have n1 : ge ≠ gb := blk_ne BE BB (by decide)
 have n2 : ge ≠ gs := blk_ne BE BS (by decide)
 have n3 : gb ≠ gs := blk_ne BB BS (by decide)
 have z1 := HB1.size
 have z2 := HB2.size
 have z3 := HB3.size
 have z4 := HB4.size
 have hsz : ((w4.setCell ⟨gb, 0, none⟩ (.slice A1 o.length c2)).setCell ⟨ge, 0, none⟩ (.int .i64 0)).heap.size = w4.heap.size := by simp [World.setCell]
 rw [hsz] at e4
 have hb := (((below_step (below_step (below_step HB1 HB2) HB3) HB4).setCell (p := ⟨gb, 0, none⟩) (by show w.heap.size ≤ gb; omega) (.slice A1 o.length c2)).setCell (p := ⟨ge, 0, none⟩) (by show w.heap.size ≤ ge; omega) (.int .i64 0))
 have rd : Kd.R (Kd.int .u8) 5 w3 w2.heap.size (fun k => w2.heap.size ≤ k ∧ k < w3.heap.size) (.slice A1 o.length c2) o := Kd.R_mono (Kd.R_bound HO) (fun k hk => ⟨hk.2.1, hk.2.2.1⟩)
 exact ⟨blk_below (blk_far (blk_set BB 0 _) n1.symm _) HB5, blk_below (blk_far (blk_far BS n3.symm _) n2.symm _) HB5, blk_below (blk_set (blk_far BE n1 _) 0 _) HB5, BP, Kd.R_below (Kd.R_far (Kd.R_far (Kd.R_below rd HB4) (fun k hk => by show k ≠ gb; omega) _) (fun k hk => by show k ≠ ge; omega) _) HB5, below_step hb HB5, by omega, by omega, by omega, hs⟩
theorem frame_Read.calls (k : Nat) (A0 : Option Addr) (c0 : Nat) (l0 : List Int) (r1 r2 r3 r4 r5 : Int) (w : World) (hr0 : Kd.C (Kd.int .u8) w A0 l0.length l0) (hc0 : l0.length ≤ c0) (h : frame_Read.f k l0 = some (r1, r2, r3, r4, r5)) :
  Calls Tryz.prog 12 #[.slice A0 l0.length c0] w fun e w' => e = .returned (.tuple #[.agg #[.int .i64 r1, .int .i64 r2, .int .u64 r3, .int .u16 r4], .int .i64 r5]) ∧ Below w.heap.size w w' := by
 have hmf := frame_hmf
 unfold frame_Read.f at h
 replace h := Option.bind_eq_some_iff.mp h
 obtain ⟨⟨o, e0⟩, h1, h⟩ := h
 have H1 := asd h1
 clear h1
 have HR := asd hr0
 have HC := asd hc0
 clear hr0 hc0
 by_cases c1 : e0 = 0
 ·subst c1
  rw [if_pos rfl] at h
  replace h := Option.bind_eq_some_iff.mp h
  obtain ⟨⟨n1, p1, e1⟩, f1, h⟩ := h
  replace h := Option.bind_eq_some_iff.mp h
  obtain ⟨⟨n2, p2, e2⟩, f2, h⟩ := h
  replace h := Option.bind_eq_some_iff.mp h
  obtain ⟨⟨n3, p3, e3⟩, f3, h⟩ := h
  replace h := Option.bind_eq_some_iff.mp h
  obtain ⟨⟨n4, p4, e4⟩, fv, h⟩ := h
  replace h := Option.bind_eq_some_iff.mp h
  obtain ⟨⟨n5, p5, e5⟩, f4, h⟩ := h
  have F1 := asd f1
  have F2 := asd f2
  have F3 := asd f3
  have F4 := asd f4
  clear f1 f2 f3 f4
  simp only at fv h
  have FV0 := asd fv
  have HH := asd h
  clear fv h
  go_enter Tryz.func12, Tryz.ntmps12
  go_upto_region 6 with (first
   | ((with_reducible refine gate_dst (N := 1) rfl ?_); refine bx (N := 1) (cs := #[.slice A0 l0.length c0]) (t := 33) ?_; intro gb hgb w1 hbox hb1; have BB := asd hbox; have HB1 := asd hb1; have HGB := asd hgb; have cb1 : w1.cell? ⟨gb, 0, none⟩ = some (.slice A0 l0.length c0) := (blk_cell hbox 0).trans rfl; clear hbox hb1 hgb)
   | (refine bG 2 #[.int .i64 0, .int .i64 0, .int .u64 0, .int .u16 0] 43 ?_; intro gs hgs w2 BS hb2; have HB2 := asd hb2; have HGS := asd hgs; have BB2 := asd (blk_below BB.out hb2); have cb2 : w2.cell? ⟨gb, 0, none⟩ = some (.slice A0 l0.length c0) := (blk_cell BB2.out 0).trans rfl; clear hb2 hgs cb1)
   | (go_at_call 44; (refine (crc_Open24.calls A0 c0 l0 o 0 _ (Kd.C_below (Kd.C_below HR.out HB1.out) HB2.out) HC.out H1.out).mono ?_); rintro r w3 ⟨v, rfl, ho, hb3⟩; obtain ⟨A1, c2, ev⟩ := Kd.R_slice ho; subst ev; have HO := asd ho; have HB3 := asd hb3; have BB3 := asd (blk_below BB2.out hb3); have BS3 := asd (blk_below BS.out hb3); have cb3 : w3.cell? ⟨gb, 0, none⟩ = some (.slice A0 l0.length c0) := (blk_cell BB3.out 0).trans rfl; have fb3 : w3.frozen? ⟨gb, 0, none⟩ = false := blk_frozen BB3.out 0; clear ho hb3 cb2)
   | ((with_reducible refine gate_dst (N := 4) rfl ?_); refine bx (N := 4) (cs := #[.int .i64 0]) (t := 36) ?_; intro ge hge w4 hbox hb4; have BE := asd hbox; have HB4 := asd hb4; have HGE := asd hge; have BB4 := asd (blk_below BB3.out hb4); have BS4 := asd (blk_below BS3.out hb4); have cb4 : w4.cell? ⟨gb, 0, none⟩ = some (.slice A0 l0.length c0) := (blk_cell BB4.out 0).trans rfl; have fb4 : w4.frozen? ⟨gb, 0, none⟩ = false := blk_frozen BB4.out 0; have ce4 : w4.cell? ⟨ge, 0, none⟩ = some (.int .i64 0) := (blk_cell hbox 0).trans rfl; have fe4 : w4.frozen? ⟨ge, 0, none⟩ = false := blk_frozen hbox 0; have n1 : ge ≠ gb := blk_ne hbox BB4.out (by decide); have n2 : ge ≠ gs := blk_ne hbox BS4.out (by decide); have n3 : gb ≠ gs := blk_ne BB4.out BS4.out (by decide); have s0 : w4.cell? ⟨gs, 0, none⟩ = some (.int .i64 0) := (blk_cell BS4.out 0).trans rfl; have q0 : w4.frozen? ⟨gs, 0, none⟩ = false := blk_frozen BS4.out 0; have s1 : w4.cell? ⟨gs, 1, none⟩ = some (.int .i64 0) := (blk_cell BS4.out 1).trans rfl; have q1 : w4.frozen? ⟨gs, 1, none⟩ = false := blk_frozen BS4.out 1; have s2 : w4.cell? ⟨gs, 2, none⟩ = some (.int .u64 0) := (blk_cell BS4.out 2).trans rfl; have q2 : w4.frozen? ⟨gs, 2, none⟩ = false := blk_frozen BS4.out 2; have s3 : w4.cell? ⟨gs, 3, none⟩ = some (.int .u16 0) := (blk_cell BS4.out 3).trans rfl; have q3 : w4.frozen? ⟨gs, 3, none⟩ = false := blk_frozen BS4.out 3; clear hbox hb4 hge cb3 fb3)
   | ((with_reducible refine gate_dst (N := 5) rfl ?_); refine bx (N := 5) (cs := #[.int .i64 0]) (t := 3) ?_; intro ga hga w5 hbox hb5; have S5 := asd (frame_first HB1.out HB2.out HB3.out HB4.out HGB.out HGS.out HGE.out hga BB4.out BS4.out BE.out hbox HO.out (blk_lt BS.out) hb5); obtain ⟨z1, z2, z3, z4, z5, z6, z7, z8, z9, z10, z11, z12⟩ := S5.out.nes; obtain ⟨m0, m1, m2, m3, m4⟩ := S5.out.cells; obtain ⟨⟨x0, x1, x2, x3⟩, y0, y1, y2, y3⟩ := S5.out.fields; clear hbox hb5 hga cb4 fb4 ce4 fe4 s0 q0 s1 q1 s2 q2 s3 q3 n1 n2 n3)
   | fail)
  clear BB HB1 HGB BS HB2 HGS BB2 HO HB3 BB3 BS3 BE HB4 HGE BB4 BS4 HR HC H1
  go_upto_region 7 with (first
   | (go_at_call 45; (refine (frame_Read_1.calls k 0 0 1 n1 p1 e1 ge gb ga A1 c2 o _ (S5.out.setP 0).be (S5.out.setP 0).bb (S5.out.setP 0).bp (S5.out.setP 0).rdC.1 (S5.out.setP 0).rdC.2 F1.out).mono ?_); rintro r w6 ⟨rfl, he, hp, hk, hb⟩; have S6 := asd ((S5.out.setP 0).innerd he hp hk hb); clear he hp hk hb; clear m0 m1 m2 m3 m4 x0 x1 x2 x3 y0 y1 y2 y3; obtain ⟨m0, m1, m2, m3, m4⟩ := S6.out.cells; obtain ⟨⟨x0, x1, x2, x3⟩, y0, y1, y2, y3⟩ := S6.out.fields)
   | fail)
  clear S5
  go_upto_region 8 with (first
   | (go_at_call 45; (refine (frame_Read_1.calls k e1 p1 1 n2 p2 e2 ge gb ga A1 c2 o _ (S6.out).be (S6.out).bb (S6.out).bp (S6.out).rdC.1 (S6.out).rdC.2 F2.out).mono ?_); rintro r w7 ⟨rfl, he, hp, hk, hb⟩; have S7 := asd ((S6.out).innerd he hp hk hb); clear he hp hk hb; clear m0 m1 m2 m3 m4 x0 x1 x2 x3 y0 y1 y2 y3; obtain ⟨m0, m1, m2, m3, m4⟩ := S7.out.cells; obtain ⟨⟨x0, x1, x2, x3⟩, y0, y1, y2, y3⟩ := S7.out.fields)
   | fail)
  clear S6
  go_upto_region 9 with (first
   | (go_at_call 45; (refine (frame_Read_1.calls k e2 p2 1 n3 p3 e3 ge gb ga A1 c2 o _ (S7.out.set0 (wrap64 n2)).be (S7.out.set0 (wrap64 n2)).bb (S7.out.set0 (wrap64 n2)).bp (S7.out.set0 (wrap64 n2)).rdC.1 (S7.out.set0 (wrap64 n2)).rdC.2 F3.out).mono ?_); rintro r w8 ⟨rfl, he, hp, hk, hb⟩; have S8 := asd ((S7.out.set0 (wrap64 n2)).innerd he hp hk hb); clear he hp hk hb; clear m0 m1 m2 m3 m4 x0 x1 x2 x3 y0 y1 y2 y3; obtain ⟨m0, m1, m2, m3, m4⟩ := S8.out.cells; obtain ⟨⟨x0, x1, x2, x3⟩, y0, y1, y2, y3⟩ := S8.out.fields)
   | fail)
  clear S7
  have fv := FV0.out
  have h := HH.out
  clear FV0 HH
  by_cases c3 : e3 = 0
  ·rw [if_pos c3] at fv
   have FV := asd fv
   have HH := asd h
   clear fv h
   have c3b : (e3 == 0) = true := beq_iff_eq.mpr c3
   clear c3
   go_upto_region 11 with (first
    | (go_at_call 47; (refine (wire_TakeVary.calls k A1 c2 o p3 n4 p4 e4 _ (S8.out.set1 (wrap64 n3)).rdC.1 (S8.out.set1 (wrap64 n3)).rdC.2 FV.out).mono ?_); rintro r w9 ⟨rfl, hb⟩; have S9 := asd ((S8.out.set1 (wrap64 n3)).called hb); clear hb; clear m0 m1 m2 m3 m4 x0 x1 x2 x3 y0 y1 y2 y3; obtain ⟨m0, m1, m2, m3, m4⟩ := S9.out.cells; obtain ⟨⟨x0, x1, x2, x3⟩, y0, y1, y2, y3⟩ := S9.out.fields)
    | fail)
   clear S8
   go_upto_region 12 with (first
    | (go_at_call 45; (refine (frame_Read_1.calls k e4 p4 2 n5 p5 e5 ge gb ga A1 c2 o _ (((S9.out.set2 n4).setP p4).setE e4).be (((S9.out.set2 n4).setP p4).setE e4).bb (((S9.out.set2 n4).setP p4).setE e4).bp (((S9.out.set2 n4).setP p4).setE e4).rdC.1 (((S9.out.set2 n4).setP p4).setE e4).rdC.2 F4.out).mono ?_); rintro r w10 ⟨rfl, he, hp, hk, hb⟩; have S10 := asd ((((S9.out.set2 n4).setP p4).setE e4).innerd he hp hk hb); clear he hp hk hb; clear m0 m1 m2 m3 m4 x0 x1 x2 x3 y0 y1 y2 y3; obtain ⟨m0, m1, m2, m3, m4⟩ := S10.out.cells; obtain ⟨⟨x0, x1, x2, x3⟩, y0, y1, y2, y3⟩ := S10.out.fields)
    | fail)
   clear S9
   have h := HH.out
   clear HH
   by_cases d1 : e5 = 0
   ·have d1b : (e5 != 0) = false := bne_eq_false_iff_eq.mpr d1
    by_cases d2 : n1 = 161
    ·have d2b : (n1 != 161) = false := bne_eq_false_iff_eq.mpr d2
     by_cases d3 : p5 = (o.length : Int)
     ·have d3b : (p5 != (o.length : Int)) = false := bne_eq_false_iff_eq.mpr d3
      rw [if_pos ⟨d1, d2, d3⟩] at h
      clear d1 d2 d3
      replace h := Option.bind_eq_some_iff.mp h
      obtain ⟨ck, fc, h⟩ := h
      have FC := asd fc
      clear fc
      by_cases d4 : ck = 0
      ·have d4b : (ck != 0) = false := bne_eq_false_iff_eq.mpr d4
       rw [if_pos d4] at h
       clear d4
       simp only [Option.some.injEq, Prod.mk.injEq] at h
       obtain ⟨rfl, rfl, rfl, rfl, rfl⟩ := h
       go_wp2_with (first
        | (go_at_call 48; (refine (frame_Check.calls k _ _ _ _ ck _ FC.out).mono ?_); rintro r w11 ⟨rfl, hb⟩; have S11 := asd ((S10.out.set3 (IntKind.u16.wrap n5)).called hb); clear hb; clear m0 m1 m2 m3 m4 x0 x1 x2 x3 y0 y1 y2 y3; obtain ⟨m0, m1, m2, m3, m4⟩ := S11.out.cells; obtain ⟨⟨x0, x1, x2, x3⟩, y0, y1, y2, y3⟩ := S11.out.fields)
        | fail)
       refine bodyPost_ret (results_ct rfl _ _ gs 43 #[.int .i64 (wrap64 n2), .int .i64 (wrap64 n3), .int .u64 n4, .int .u16 (IntKind.u16.wrap n5)] (0, 0) _ rfl ((((S11.out.set0 (wrap64 n2)).set1 (wrap64 n3)).set2 n4).set3 (IntKind.u16.wrap n5)).bs Tryz.underlying43 rfl (by kernel_rfl)) rfl ?_
       exact ⟨rfl, ((((S11.out.set0 (wrap64 n2)).set1 (wrap64 n3)).set2 n4).set3 (IntKind.u16.wrap n5)).bel⟩
      have d4b : (ck != 0) = true := bne_iff_ne.mpr d4
      rw [if_neg d4] at h
      clear d4
      simp only [Option.some.injEq, Prod.mk.injEq] at h
      obtain ⟨rfl, rfl, rfl, rfl, rfl⟩ := h
      go_wp2_with (first
       | (go_at_call 48; (refine (frame_Check.calls k _ _ _ _ ck _ FC.out).mono ?_); rintro r w11 ⟨rfl, hb⟩; have S11 := asd ((S10.out.set3 (IntKind.u16.wrap n5)).called hb); clear hb; clear m0 m1 m2 m3 m4 x0 x1 x2 x3 y0 y1 y2 y3; obtain ⟨m0, m1, m2, m3, m4⟩ := S11.out.cells; obtain ⟨⟨x0, x1, x2, x3⟩, y0, y1, y2, y3⟩ := S11.out.fields)
       | fail)
      refine bodyPost_ret (results_ct rfl _ _ gs 43 #[.int .i64 0, .int .i64 0, .int .u64 0, .int .u16 0] (0, 0) _ rfl (((((S11.out).set0 0).set1 0).set2 0).set3 0).bs Tryz.underlying43 rfl (by kernel_rfl)) rfl ?_
      exact ⟨rfl, (((((S11.out).set0 0).set1 0).set2 0).set3 0).bel⟩
     have d3b : (p5 != (o.length : Int)) = true := bne_iff_ne.mpr d3
     rw [if_neg (fun q => d3 q.2.2)] at h
     clear d1 d2 d3
     simp only [Option.some.injEq, Prod.mk.injEq] at h
     obtain ⟨rfl, rfl, rfl, rfl, rfl⟩ := h
     go_wp2_with (first
      | fail)
     refine bodyPost_ret (results_ct rfl _ _ gs 43 #[.int .i64 0, .int .i64 0, .int .u64 0, .int .u16 0] (0, 0) _ rfl (((((S10.out.set3 (IntKind.u16.wrap n5)).set0 0).set1 0).set2 0).set3 0).bs Tryz.underlying43 rfl (by kernel_rfl)) rfl ?_
     exact ⟨rfl, (((((S10.out.set3 (IntKind.u16.wrap n5)).set0 0).set1 0).set2 0).set3 0).bel⟩
    have d2b : (n1 != 161) = true := bne_iff_ne.mpr d2
    rw [if_neg (fun q => d2 q.2.1)] at h
    clear d1 d2
    simp only [Option.some.injEq, Prod.mk.injEq] at h
    obtain ⟨rfl, rfl, rfl, rfl, rfl⟩ := h
    go_wp2_with (first
     | fail)
    refine bodyPost_ret (results_ct rfl _ _ gs 43 #[.int .i64 0, .int .i64 0, .int .u64 0, .int .u16 0] (0, 0) _ rfl (((((S10.out.set3 (IntKind.u16.wrap n5)).set0 0).set1 0).set2 0).set3 0).bs Tryz.underlying43 rfl (by kernel_rfl)) rfl ?_
    exact ⟨rfl, (((((S10.out.set3 (IntKind.u16.wrap n5)).set0 0).set1 0).set2 0).set3 0).bel⟩
   have d1b : (e5 != 0) = true := bne_iff_ne.mpr d1
   rw [if_neg (fun q => d1 q.1)] at h
   clear d1
   simp only [Option.some.injEq, Prod.mk.injEq] at h
   obtain ⟨rfl, rfl, rfl, rfl, rfl⟩ := h
   go_wp2_with (first
    | fail)
   refine bodyPost_ret (results_ct rfl _ _ gs 43 #[.int .i64 0, .int .i64 0, .int .u64 0, .int .u16 0] (0, 0) _ rfl (((((S10.out.set3 (IntKind.u16.wrap n5)).set0 0).set1 0).set2 0).set3 0).bs Tryz.underlying43 rfl (by kernel_rfl)) rfl ?_
   exact ⟨rfl, (((((S10.out.set3 (IntKind.u16.wrap n5)).set0 0).set1 0).set2 0).set3 0).bel⟩
  rw [if_neg c3] at fv
  simp only [Option.some.injEq, Prod.mk.injEq] at fv
  obtain ⟨rfl, rfl, rfl⟩ := fv
  have c3b : (e3 == 0) = false := beq_eq_false_iff_ne.mpr c3
  obtain ⟨rfl, rfl, rfl⟩ : 0 = n5 ∧ p3 = p5 ∧ e3 = e5 := by
   have := F4.out
   unfold frame_Read_1.f at this
   rw [if_neg c3] at this
   simpa only [Option.some.injEq, Prod.mk.injEq] using this
  have d1b : (e3 != 0) = true := bne_iff_ne.mpr c3
  rw [if_neg (fun q => c3 q.1)] at h
  clear c3
  simp only [Option.some.injEq, Prod.mk.injEq] at h
  obtain ⟨rfl, rfl, rfl, rfl, rfl⟩ := h
  go_upto_region 11 with (first
   | fail)
  go_upto_region 12 with (first
   | (go_at_call 45; (refine (frame_Read_1.calls k e3 p3 2 0 p3 e3 ge gb ga A1 c2 o _ (S8.out.set1 (wrap64 n3)).be (S8.out.set1 (wrap64 n3)).bb (S8.out.set1 (wrap64 n3)).bp (S8.out.set1 (wrap64 n3)).rdC.1 (S8.out.set1 (wrap64 n3)).rdC.2 F4.out).mono ?_); rintro r w10 ⟨rfl, he, hp, hk, hb⟩; have S10 := asd ((S8.out.set1 (wrap64 n3)).innerd he hp hk hb); clear he hp hk hb; clear m0 m1 m2 m3 m4 x0 x1 x2 x3 y0 y1 y2 y3; obtain ⟨m0, m1, m2, m3, m4⟩ := S10.out.cells; obtain ⟨⟨x0, x1, x2, x3⟩, y0, y1, y2, y3⟩ := S10.out.fields)
   | fail)
  clear S8
  go_wp2_with (first
   | fail)
  refine bodyPost_ret (results_ct rfl _ _ gs 43 #[.int .i64 0, .int .i64 0, .int .u64 0, .int .u16 0] (0, 0) _ rfl (((((S10.out.set3 0).set0 0).set1 0).set2 0).set3 0).bs Tryz.underlying43 rfl (by kernel_rfl)) rfl ?_
  exact ⟨rfl, (((((S10.out.set3 0).set0 0).set1 0).set2 0).set3 0).bel⟩
 have c1b : (e0 != 0) = true := bne_iff_ne.mpr c1
 rw [if_neg c1] at h
 simp only [Option.some.injEq, Prod.mk.injEq] at h
 obtain ⟨rfl, rfl, rfl, rfl, rfl⟩ := h
 go_enter Tryz.func12, Tryz.ntmps12
 go_wp2_with (first
  | ((with_reducible refine gate_dst (N := 1) rfl ?_); refine bx (N := 1) (cs := #[.slice A0 l0.length c0]) (t := 33) ?_; intro gb hgb w1 hbox hb1; have BB := asd hbox; have HB1 := asd hb1; have HGB := asd hgb; have cb1 : w1.cell? ⟨gb, 0, none⟩ = some (.slice A0 l0.length c0) := (blk_cell hbox 0).trans rfl; clear hbox hb1 hgb)
  | (refine bG 2 #[.int .i64 0, .int .i64 0, .int .u64 0, .int .u16 0] 43 ?_; intro gs hgs w2 BS hb2; have HB2 := asd hb2; have HGS := asd hgs; have BB2 := asd (blk_below BB.out hb2); have cb2 : w2.cell? ⟨gb, 0, none⟩ = some (.slice A0 l0.length c0) := (blk_cell BB2.out 0).trans rfl; clear hb2 hgs cb1)
  | (go_at_call 44; (refine (crc_Open24.calls A0 c0 l0 o e0 _ (Kd.C_below (Kd.C_below HR.out HB1.out) HB2.out) HC.out H1.out).mono ?_); rintro r w3 ⟨v, rfl, ho, hb3⟩; obtain ⟨A1, c2, ev⟩ := Kd.R_slice ho; subst ev; have HO := asd ho; have HB3 := asd hb3; have BB3 := asd (blk_below BB2.out hb3); have BS3 := asd (blk_below BS.out hb3); have cb3 : w3.cell? ⟨gb, 0, none⟩ = some (.slice A0 l0.length c0) := (blk_cell BB3.out 0).trans rfl; have fb3 : w3.frozen? ⟨gb, 0, none⟩ = false := blk_frozen BB3.out 0; clear ho hb3 cb2)
  | ((with_reducible refine gate_dst (N := 4) rfl ?_); refine bx (N := 4) (cs := #[.int .i64 0]) (t := 36) ?_; intro ge hge w4 hbox hb4; have BE := asd hbox; have HB4 := asd hb4; have HGE := asd hge; have BB4 := asd (blk_below BB3.out hb4); have BS4 := asd (blk_below BS3.out hb4); have cb4 : w4.cell? ⟨gb, 0, none⟩ = some (.slice A0 l0.length c0) := (blk_cell BB4.out 0).trans rfl; have fb4 : w4.frozen? ⟨gb, 0, none⟩ = false := blk_frozen BB4.out 0; have ce4 : w4.cell? ⟨ge, 0, none⟩ = some (.int .i64 0) := (blk_cell hbox 0).trans rfl; have fe4 : w4.frozen? ⟨ge, 0, none⟩ = false := blk_frozen hbox 0; have n1 : ge ≠ gb := blk_ne hbox BB4.out (by decide); have n2 : ge ≠ gs := blk_ne hbox BS4.out (by decide); have n3 : gb ≠ gs := blk_ne BB4.out BS4.out (by decide); have s0 : w4.cell? ⟨gs, 0, none⟩ = some (.int .i64 0) := (blk_cell BS4.out 0).trans rfl; have q0 : w4.frozen? ⟨gs, 0, none⟩ = false := blk_frozen BS4.out 0; have s1 : w4.cell? ⟨gs, 1, none⟩ = some (.int .i64 0) := (blk_cell BS4.out 1).trans rfl; have q1 : w4.frozen? ⟨gs, 1, none⟩ = false := blk_frozen BS4.out 1; have s2 : w4.cell? ⟨gs, 2, none⟩ = some (.int .u64 0) := (blk_cell BS4.out 2).trans rfl; have q2 : w4.frozen? ⟨gs, 2, none⟩ = false := blk_frozen BS4.out 2; have s3 : w4.cell? ⟨gs, 3, none⟩ = some (.int .u16 0) := (blk_cell BS4.out 3).trans rfl; have q3 : w4.frozen? ⟨gs, 3, none⟩ = false := blk_frozen BS4.out 3; clear hbox hb4 hge cb3 fb3)
  | fail)
 go_region
 all_goals (try go_wp2)
 refine bodyPost_ret (results_ct rfl _ _ gs 43 #[.int .i64 0, .int .i64 0, .int .u64 0, .int .u16 0] (0, 0) _ rfl (by (with_reducible repeat (first | refine blk_drewN ?_ _ | refine blk_drew ?_)); refine blk_put (cs := #[.int .i64 0, .int .i64 0, .int .u64 0, .int .u16 0]) ?_ 3 _ rfl; refine blk_put (cs := #[.int .i64 0, .int .i64 0, .int .u64 0, .int .u16 0]) ?_ 2 _ rfl; refine blk_put (cs := #[.int .i64 0, .int .i64 0, .int .u64 0, .int .u16 0]) ?_ 1 _ rfl; refine blk_put (cs := #[.int .i64 0, .int .i64 0, .int .u64 0, .int .u16 0]) ?_ 0 _ rfl; exact blk_far (blk_far BS4.out n3.symm _) n2.symm _) Tryz.underlying43 rfl (by kernel_rfl)) rfl ?_
 have z1 := HB1.out.size
 have z2 := HB2.out.size
 have z3 := HB3.out.size
 have hb := below_step (below_step (below_step HB1.out HB2.out) HB3.out) HB4.out
 have e1 := HGB.out
 have e2 := HGS.out
 have e3 := HGE.out
 exact ⟨by simp, by (with_reducible repeat (first | apply pw_below_drewN | apply below_drew1)); exact (((((hb.setCell (by show w.heap.size ≤ gb; omega) _).setCell (by show w.heap.size ≤ ge; omega) _).setCell (by show w.heap.size ≤ gs; omega) _).setCell (by show w.heap.size ≤ gs; omega) _).setCell (by show w.heap.size ≤ gs; omega) _).setCell (by show w.heap.size ≤ gs; omega) _⟩

-- NOT PRINTED: function 39 (node_run_joins)

theorem bits_Sub64.run (x y : Int) (w : World) : (callFunc 127 #[.int .u64 x, .int .u64 y, .int .u64 0]).run Tryz.prog w = .ok (.value (.tuple #[.int .u64 (sub64Lo x y), .int .u64 (sub64Hi x y)])) w := by
 rw [run_callFunc_extern Tryz.func127 (by kernel_rfl) (by kernel_rfl) (by kernel_rfl) (e := sub64Entry0) (by kernel_rfl)]
 exact sub64_run0 x y w


/-! ### osc_Ticks: function 84 -/
def osc_Ticks.j0 : Nat → Int → Int → Bool → Int → Int → Int → Option (Int × Int)
 | 0, _, _, _, _, _, _ => none
 | k + 1, x1, x6, x29, x553000, x553001, x553002 => if x29 = true then (some (0, 1)) else ((bits_Mul64.f (IntKind.u64.wrap ((IntKind.u64.wrap (x1)) + 1)) 1000000000).bind fun bt559 => (if (IntKind.u64.wrap (bt559.1 - (sub64Hi bt559.2 (IntKind.u64.wrap ((IntKind.u64.wrap (x553002)) + 1))))) ≥ (IntKind.u64.wrap (x6)) then (some (1099511627776, 0)) else ((bits_Div64.f k (IntKind.u64.wrap (bt559.1 - (sub64Hi bt559.2 (IntKind.u64.wrap ((IntKind.u64.wrap (x553002)) + 1))))) (sub64Lo bt559.2 (IntKind.u64.wrap ((IntKind.u64.wrap (x553002)) + 1))) (IntKind.u64.wrap (x6))).bind fun bt561 => (some (wrap64 (mn bt561.1 1099511627776), 0)))))
def osc_Ticks.f (k : Nat) (a0_0 a0_1 a0_2 a1 : Int) : Option (Int × Int) := (osc_Rate.f a0_0 a0_1 a0_2).bind fun bt553 => (if bt553.2 = 0 then (if a1 < 0 then (osc_Ticks.j0 k a1 bt553.1 true a0_0 a0_1 a0_2) else ((pico_May.f k (([a1] : List Int))).bind fun t558 => (osc_Ticks.j0 k a1 bt553.1 (!t558) a0_0 a0_1 a0_2))) else (osc_Ticks.j0 k a1 bt553.1 true a0_0 a0_1 a0_2))
theorem osc_Ticks.calls (k : Nat) (a0_0 a0_1 a0_2 a1 r1 r2 : Int) (w : World) (h : osc_Ticks.f k a0_0 a0_1 a0_2 a1 = some (r1, r2)) :
  Calls Tryz.prog 84 #[.agg #[.int .i64 a0_0, .int .i64 a0_1, .int .i64 a0_2], .int .i64 a1] w fun e w' => e = .returned (.tuple #[.int .i64 r1, .int .i64 r2]) ∧ Below w.heap.size w w' := by
 have hext127 := bits_Sub64.run
 have hu26 := Tryz.underlying26
 have HB := asd (Below.refl w.heap.size w)
 have H : ((osc_Rate.f a0_0 a0_1 a0_2).bind fun bt553 => (if bt553.2 = 0 then (if a1 < 0 then (osc_Ticks.j0 k a1 bt553.1 true a0_0 a0_1 a0_2) else ((pico_May.f k (([a1] : List Int))).bind fun t558 => (osc_Ticks.j0 k a1 bt553.1 (!t558) a0_0 a0_1 a0_2))) else (osc_Ticks.j0 k a1 bt553.1 true a0_0 a0_1 a0_2))) = some (r1, r2) := h
 clear h
 obtain ⟨⟨t553, t554⟩, A3, H⟩ := bio H
 try dsimp only at H
 have HC4 := asd H
 clear H
 go_enter Tryz.func84, Tryz.ntmps84
 go_upto_region 2 with (first | (refine bG 2 #[.int .i64 a0_0, .int .i64 a0_1, .int .i64 a0_2] 26 ?_; intro gb552 hg w5 BK552 hb; have GW552 := bz HB hg; have GE552 := bz HB hg; replace HB := bs HB hb; clear hb hg; have hcz6 := ca3 BK552) | ((with_reducible refine gate_callee (f := 123) rfl ?_); refine gC (some 15) Tryz.func123 (osc_Rate.calls a0_0 a0_1 a0_2 t553 t554 _ A3.out) ?_; rintro e w7 ⟨rfl, hb⟩; refine ⟨_, rfl, ?_⟩; replace BK552 := bb BK552 hb; replace HB := bs HB hb; (try clear hb)))
 (try simp only [Act.put, List.setIfInBounds_toArray, List.set_cons_zero, List.set_cons_succ])
 go_cut [29] (fun v29 wc => ∃ (kq : Nat) (x29_3 : Bool), v29 = .bool x29_3 ∧ Aside0 (osc_Ticks.j0 kq a1 t553 x29_3 a0_0 a0_1 a0_2 = some (r1, r2)) ∧ Aside0 (kq ≤ k) ∧ Aside0 (wc.heap[gb552]? = some (.cells #[.int .i64 a0_0, .int .i64 a0_1, .int .i64 a0_2] 26 (0, 0))) ∧ Aside0 (Below w.heap.size w wc))
 case first =>
  have H := HC4.out
  clear HC4
  by_cases c8 : t554 = 0
  ·rw [if_pos c8] at H
   have c8b0 := beq_iff_eq.mpr c8
   have c8b1 := bne_eq_false_iff_eq.mpr c8
   clear c8
   (first | rw [c8b0] | (simp only [i64_w, i32_w]; rw [c8b0]) | skip)
   by_cases c9 : a1 < 0
   ·rw [if_pos c9] at H
    have c9b0 := decide_eq_true c9
    clear c9
    have H' := asd H
    clear H
    go_wp2
    go_meet
    case rel => exact ⟨_, (true), au, H', ⟨by first | omega | exact Nat.le_refl _⟩, be BK552, ⟨bse HB⟩⟩
   rw [if_neg c9] at H
   have c9b0 := decide_eq_false c9
   clear c9
   obtain ⟨y555, hy555⟩ : ∃ y_ : List Int, y_ = (([a1] : List Int)) := ⟨_, rfl⟩
   replace H : ((pico_May.f k y555).bind fun t558 => (osc_Ticks.j0 k a1 t553 (!t558) a0_0 a0_1 a0_2)) = some (r1, r2) := by first | (rw [hy555]; with_reducible exact H) | (have H2_ := (Option.bind_some _ _).symm.trans H; rw [hy555]; with_reducible exact H2_) | (have H2_ := (Option.bind_some _ _).symm.trans H; with_reducible exact H2_) | with_reducible exact H | (rw [hy555]; exact H) | exact H
   have Ny555 := asd hy555
   clear hy555
   obtain ⟨t558, A10, H⟩ := bio H
   have H' := asd H
   clear H
   go_wp2_with (first | ((with_reducible refine gate_dst (N := 26) rfl ?_); (try (refine gate_guard (by rfl) ?_; dsimp only)); refine Kd.R_lit (Kd.int .i64) _ 2 ?hg (N := 26) ?hd (xs := ([a1] : List Int)) (inner := [.int .i64 a1]) (ok := fun _ => True) (okp := fun _ => True) ?hr ?hp (fun _ hk => hk) trivial (Below.refl _ _) (Nat.le_refl _) (by simp) ?_; (case hd => rfl); (case hg => rfl); (case hr => first | (go_simp; done) | (go_simp; rfl)); (case hp => exact (Reps.one (show Kd.M (Kd.int .i64) _ _ _ a1 [.int .i64 a1] from rfl) (Reps.none _ _))); intro v556 w11 ho12 hb hg_ hnew_; clear hg_ hnew_; (first | rw [← Ny555.out] at ho12 | (simp only [Int.reduceToNat] at ho12; rw [← Ny555.out] at ho12)); have HO557 := rl ho12 HB; replace BK552 := bb BK552 hb; replace HB := bs HB hb; clear hb ho12; obtain ⟨Ao13, co13, eo13⟩ := Kd.R_slice HO557.out; subst eo13) | (go_at_call 34; (with_reducible refine (pico_May.calls k _ _ y555 t558 _ ?side1 ?side2 A10.out).mono ?_); (case side1 => exact cr (Kd.R_reads' HO557.out).2.2); (case side2 => exact (Kd.R_reads' HO557.out).2.1); rintro e w14 ⟨rfl, hb⟩; replace HO557 := rb HO557 hb; replace BK552 := bb BK552 hb; replace HB := bs HB hb; (try clear hb)))
   go_meet
   case rel => exact ⟨_, (!t558), au, H', ⟨by first | omega | exact Nat.le_refl _⟩, be BK552, ⟨bse HB⟩⟩
  rw [if_neg c8] at H
  have c8b0 := beq_eq_false_iff_ne.mpr c8
  have c8b1 := bne_iff_ne.mpr c8
  (first | rw [c8b0] | (simp only [i64_w, i32_w]; rw [c8b0]) | skip)
  have H' := asd H
  clear H
  go_wp2
  go_meet
  case rel => exact ⟨_, (true), au, H', ⟨by first | omega | exact Nat.le_refl _⟩, be BK552, ⟨bse HB⟩⟩
 case rest =>
  clear HC4
  try clear c1
  try clear p2
  try clear c8
  try clear c8b0
  try clear c8b1
  try clear c9
  try clear c9b0
  try clear c12
  try clear hcz6
  try clear hcz6
  try clear hcz6
  try clear hcz6
  try clear hcz6
  try clear hcz6
  obtain ⟨kq, x29_3, rfl, HA, HJ3, BK552, HB⟩ := hcut
  cases kq with
  | zero => exact absurd HA.out (by simp [osc_Ticks.j0])
  | succ kj3 =>
   have H := HA.out
   clear HA
   simp only [osc_Ticks.j0] at H
   by_cases c15 : x29_3 = true
   ·subst c15
    rw [if_pos rfl] at H
    simp only [Option.some.injEq, Prod.mk.injEq] at H
    obtain ⟨rfl, rfl⟩ := H
    go_wp2
    go_ret2
    exact xo (bse HB)
   replace c15 := Bool.eq_false_iff.mpr c15
   subst c15
   rw [if_neg (show ¬ (false = true) by decide)] at H
   obtain ⟨⟨t559, t560⟩, A16, H⟩ := bio H
   try dsimp only at H
   by_cases c17 : (IntKind.u64.wrap (t559 - (sub64Hi t560 (IntKind.u64.wrap ((IntKind.u64.wrap (a0_2)) + 1))))) ≥ (IntKind.u64.wrap (t553))
   ·rw [if_pos c17] at H
    have c17b0 := decide_eq_true c17
    clear c17
    simp only [Option.some.injEq, Prod.mk.injEq] at H
    obtain ⟨rfl, rfl⟩ := H
    go_wp2_with (first | ((with_reducible refine gate_callee (f := 124) rfl ?_); refine gC (some 34) Tryz.func124 (bits_Mul64.calls (IntKind.u64.wrap ((IntKind.u64.wrap (a1)) + 1)) 1000000000 t559 t560 _ A16.out) ?_; rintro e w' ⟨rfl, ⟨nd, rfl⟩⟩; refine ⟨_, rfl, ?_⟩; have hcz18 := ca3 BK552))
    go_ret2
    exact xo (bse HB)
   rw [if_neg c17] at H
   have c17b0 := decide_eq_false c17
   clear c17
   obtain ⟨⟨t561, t562⟩, A19, H⟩ := bio H
   try dsimp only at H
   obtain ⟨ji20, hji20⟩ : ∃ j_ : Int, (mn t561 1099511627776) = j_ := ⟨_, rfl⟩
   replace H : (some (wrap64 (ji20), 0)) = some (r1, r2) := by first | (rw [hji20] at H; exact H) | (simp only [hji20] at H ⊢; exact H)
   (try rw [hji20] at A16)
   (try rw [hji20] at A19)
   (try (have hji20h : ji20 ≤ 1099511627776 := by (rw [← hji20]; unfold mn; (repeat' split) <;> omega)))
   (try (have hji20g : ji20 ≤ 64 := by omega))
   have hji20_ : (if 1099511627776 < t561 then 1099511627776 else t561) = ji20 := hji20
   simp only [Option.some.injEq, Prod.mk.injEq] at H
   obtain ⟨rfl, rfl⟩ := H
   go_wp2_with (first | ((with_reducible refine gate_callee (f := 124) rfl ?_); refine gC (some 34) Tryz.func124 (bits_Mul64.calls (IntKind.u64.wrap ((IntKind.u64.wrap (a1)) + 1)) 1000000000 t559 t560 _ A16.out) ?_; rintro e w' ⟨rfl, ⟨nd, rfl⟩⟩; refine ⟨_, rfl, ?_⟩; have hcz21 := ca3 BK552) | ((with_reducible refine gate_callee (f := 126) rfl ?_); refine gC (some 58) Tryz.func126 (bits_Div64.calls kj3 (IntKind.u64.wrap (t559 - (sub64Hi t560 (IntKind.u64.wrap ((IntKind.u64.wrap (a0_2)) + 1))))) (sub64Lo t560 (IntKind.u64.wrap ((IntKind.u64.wrap (a0_2)) + 1))) (IntKind.u64.wrap (t553)) t561 t562 _ A19.out) ?_; rintro e w' ⟨rfl, ⟨nd, rfl⟩⟩; refine ⟨_, rfl, ?_⟩))
   go_ret2
   exact ⟨by first | rfl | (simp [errW_none, errW_some] <;> rfl) | (simp only [← hji20]; first | rfl | (simp [errW_none, errW_some] <;> rfl)) | (simp [*, errW_none, errW_some] <;> rfl), bse HB⟩

/-! ### medl_Off: function 85 -/
def medl_Off.f (a0_0 a0_1 a0_2 a0_3 a0_4 a1 : Int) : Option (Int × Bool × Int) := (medl_Check.f a0_0 a0_1 a0_2 a0_3 a0_4).bind fun t564 => (if t564 = 0 then (if (wrap64 (a1 - a0_2)) > a1 then (some (0, false, 2)) else ((medl_within.f (wrap64 (a1 - a0_2)) (wrap64 (-a0_4)) a0_4).bind fun t565 => (some (wrap64 (a1 - a0_2), t565, 0)))) else (some (0, false, t564)))
theorem medl_Off.calls (a0_0 a0_1 a0_2 a0_3 a0_4 a1 r1 : Int) (r2 : Bool) (r3 : Int) (w : World) (h : medl_Off.f a0_0 a0_1 a0_2 a0_3 a0_4 a1 = some (r1, r2, r3)) :
  Calls Tryz.prog 85 #[.agg #[.int .i64 a0_0, .int .i64 a0_1, .int .i64 a0_2, .int .i64 a0_3, .int .i64 a0_4], .int .i64 a1] w fun e w' => e = .returned (.tuple #[.int .i64 r1, .bool r2, .int .i64 r3]) ∧ Below w.heap.size w w' := by
 have hu23 := Tryz.underlying23
 have HB := asd (Below.refl w.heap.size w)
 have H : ((medl_Check.f a0_0 a0_1 a0_2 a0_3 a0_4).bind fun t564 => (if t564 = 0 then (if (wrap64 (a1 - a0_2)) > a1 then (some (0, false, 2)) else ((medl_within.f (wrap64 (a1 - a0_2)) (wrap64 (-a0_4)) a0_4).bind fun t565 => (some (wrap64 (a1 - a0_2), t565, 0)))) else (some (0, false, t564)))) = some (r1, r2, r3) := h
 clear h
 obtain ⟨t564, A3, H⟩ := bio H
 by_cases c4 : t564 = 0
 ·rw [if_pos c4] at H
  have c4b0 := beq_iff_eq.mpr c4
  have c4b1 := bne_eq_false_iff_eq.mpr c4
  clear c4
  by_cases c5 : (wrap64 (a1 - a0_2)) > a1
  ·rw [if_pos c5] at H
   have c5b0 := decide_eq_true c5
   clear c5
   simp only [Option.some.injEq, Prod.mk.injEq] at H
   obtain ⟨rfl, rfl, rfl⟩ := H
   go_enter Tryz.func85, Tryz.ntmps85
   go_wp2_with (first | (refine bG 2 #[.int .i64 a0_0, .int .i64 a0_1, .int .i64 a0_2, .int .i64 a0_3, .int .i64 a0_4] 23 ?_; intro gb563 hg w6 BK563 hb; have GW563 := bz HB hg; have GE563 := bz HB hg; replace HB := bs HB hb; clear hb hg; have hcz7 := cf5 BK563) | ((with_reducible refine gate_callee (f := 31) rfl ?_); refine gC (some 10) Tryz.func31 (medl_Check.calls a0_0 a0_1 a0_2 a0_3 a0_4 t564 _ A3.out) ?_; rintro e w8 ⟨rfl, hb⟩; refine ⟨_, rfl, ?_⟩; replace BK563 := bb BK563 hb; replace HB := bs HB hb; (try clear hb); have hcz9 := cf5 BK563))
   go_ret3
   exact xo (bse HB)
  rw [if_neg c5] at H
  have c5b0 := decide_eq_false c5
  clear c5
  obtain ⟨t565, A10, H⟩ := bio H
  simp only [Option.some.injEq, Prod.mk.injEq] at H
  obtain ⟨rfl, rfl, rfl⟩ := H
  go_enter Tryz.func85, Tryz.ntmps85
  go_wp2_with (first | (refine bG 2 #[.int .i64 a0_0, .int .i64 a0_1, .int .i64 a0_2, .int .i64 a0_3, .int .i64 a0_4] 23 ?_; intro gb563 hg w11 BK563 hb; have GW563 := bz HB hg; have GE563 := bz HB hg; replace HB := bs HB hb; clear hb hg; have hcz12 := cf5 BK563) | ((with_reducible refine gate_callee (f := 31) rfl ?_); refine gC (some 10) Tryz.func31 (medl_Check.calls a0_0 a0_1 a0_2 a0_3 a0_4 t564 _ A3.out) ?_; rintro e w13 ⟨rfl, hb⟩; refine ⟨_, rfl, ?_⟩; replace BK563 := bb BK563 hb; replace HB := bs HB hb; (try clear hb); have hcz14 := cf5 BK563) | ((with_reducible refine gate_callee (f := 75) rfl ?_); refine gC (some 28) Tryz.func75 (medl_within.calls (wrap64 (a1 - a0_2)) (wrap64 (-a0_4)) a0_4 t565 _ A10.out) ?_; rintro e w' ⟨rfl, ⟨nd, rfl⟩⟩; refine ⟨_, rfl, ?_⟩))
  go_ret3
  exact xo (bse HB)
 rw [if_neg c4] at H
 have c4b0 := beq_eq_false_iff_ne.mpr c4
 have c4b1 := bne_iff_ne.mpr c4
 simp only [Option.some.injEq, Prod.mk.injEq] at H
 obtain ⟨rfl, rfl, rfl⟩ := H
 go_enter Tryz.func85, Tryz.ntmps85
 go_wp2_with (first | (refine bG 2 #[.int .i64 a0_0, .int .i64 a0_1, .int .i64 a0_2, .int .i64 a0_3, .int .i64 a0_4] 23 ?_; intro gb563 hg w15 BK563 hb; have GW563 := bz HB hg; have GE563 := bz HB hg; replace HB := bs HB hb; clear hb hg; have hcz16 := cf5 BK563) | ((with_reducible refine gate_callee (f := 31) rfl ?_); refine gC (some 10) Tryz.func31 (medl_Check.calls a0_0 a0_1 a0_2 a0_3 a0_4 t564 _ A3.out) ?_; rintro e w17 ⟨rfl, hb⟩; refine ⟨_, rfl, ?_⟩; replace BK563 := bb BK563 hb; replace HB := bs HB hb; (try clear hb)))
 go_ret3
 exact xo (bse HB)


/-! ### member_Judge: function 86 -/
mutual
def member_Judge.j0 : Nat → Int → Int → Int → Int → Int → Int → Int → Int → Int → Int → Option (Int × Int)
 | 0, _, _, _, _, _, _, _, _, _, _ => none
 | k + 1, x1, x2, x3, x13, x568000, x568001, x568002, x568003, x572000, x572001 => if x13 = 0 then ((frame_With.f x2 x572001).bind fun t573 => (if x568001 = x572001 then (member_Judge.j1 k x1 x2 t573 (x568002 != x3) x568000 x568001 x568002 x568003 x572000 x572001) else (member_Judge.j1 k x1 x2 t573 true x568000 x568001 x568002 x568003 x572000 x572001))) else (some (0, 1))
def member_Judge.j1 : Nat → Int → Int → Int → Bool → Int → Int → Int → Int → Int → Int → Option (Int × Int)
 | 0, _, _, _, _, _, _, _, _, _, _ => none
 | k + 1, x1, x2, x14, x32, x568000, x568001, x568002, x568003, x572000, x572001 => if x32 = true then (some (3, 0)) else (if x568003 = x14 then (some (1, 0)) else (if x572000 = x572001 then (some (3, 0)) else ((frame_Has.f x2 x1).bind fun t574 => (if t574 = true then ((frame_Without.f x14 x1).bind fun t575 => (if x568003 = t575 then (some (2, 0)) else (some (3, 0)))) else (some (3, 0))))))
end
def member_Judge.f (k : Nat) (a0_0 a0_1 a0_2 a0_3 a0_4 a1 a2 a3 a4_0 a4_1 a4_2 a4_3 : Int) : Option (Int × Int) := (member_sit.f a0_0 a0_1 a0_2 a0_3 a0_4 a1 a3).bind fun bt568 => (if bt568.2.2 = 0 then ((frame_Check.f k a4_0 a4_1 a4_2 a4_3).bind fun t572 => (member_Judge.j0 k a1 a2 a3 t572 a4_0 a4_1 a4_2 a4_3 bt568.1 bt568.2.1)) else (member_Judge.j0 k a1 a2 a3 bt568.2.2 a4_0 a4_1 a4_2 a4_3 bt568.1 bt568.2.1))
theorem member_Judge.calls (k : Nat) (a0_0 a0_1 a0_2 a0_3 a0_4 a1 a2 a3 a4_0 a4_1 a4_2 a4_3 r1 r2 : Int) (w : World) (h : member_Judge.f k a0_0 a0_1 a0_2 a0_3 a0_4 a1 a2 a3 a4_0 a4_1 a4_2 a4_3 = some (r1, r2)) :
  Calls Tryz.prog 86 #[.agg #[.int .i64 a0_0, .int .i64 a0_1, .int .i64 a0_2, .int .i64 a0_3, .int .i64 a0_4], .int .i64 a1, .int .u16 a2, .int .u64 a3, .agg #[.int .i64 a4_0, .int .i64 a4_1, .int .u64 a4_2, .int .u16 a4_3]] w fun e w' => e = .returned (.tuple #[.int .i64 r1, .int .i64 r2]) ∧ Below w.heap.size w w' := by
 have hu23 := Tryz.underlying23
 have hu43 := Tryz.underlying43
 have hu148 := Tryz.underlying148
 have HB := asd (Below.refl w.heap.size w)
 have H : ((member_sit.f a0_0 a0_1 a0_2 a0_3 a0_4 a1 a3).bind fun bt568 => (if bt568.2.2 = 0 then ((frame_Check.f k a4_0 a4_1 a4_2 a4_3).bind fun t572 => (member_Judge.j0 k a1 a2 a3 t572 a4_0 a4_1 a4_2 a4_3 bt568.1 bt568.2.1)) else (member_Judge.j0 k a1 a2 a3 bt568.2.2 a4_0 a4_1 a4_2 a4_3 bt568.1 bt568.2.1))) = some (r1, r2) := h
 clear h
 obtain ⟨⟨t568, t569, t570⟩, A6, H⟩ := bio H
 try dsimp only at H
 have HC7 := asd H
 clear H
 go_enter Tryz.func86, Tryz.ntmps86
 go_upto_if 23 with (first | (refine bG 5 #[.int .i64 a0_0, .int .i64 a0_1, .int .i64 a0_2, .int .i64 a0_3, .int .i64 a0_4] 23 ?_; intro gb566 hg w8 BK566 hb; have GW566 := bz HB hg; have GE566 := bz HB hg; replace HB := bs HB hb; clear hb hg) | (refine bG 9 #[.int .i64 a4_0, .int .i64 a4_1, .int .u64 a4_2, .int .u16 a4_3] 43 ?_; intro gb567 hg w9 BK567 hb; have GW567 := bz HB hg; have GE567 := bz HB hg; have NB566_567 := nl BK566 hg; have NB567_566 := nr BK566 hg; replace BK566 := bb BK566 hb; replace HB := bs HB hb; clear hb hg; have hnb10 := NB566_567.out; have hnc10 := NB567_566.out; obtain ⟨hcz11_0, hcz11_1, hcz11_2, hcz11_3, hcz11_4, hfz11_0, hfz11_1, hfz11_2, hfz11_3, hfz11_4⟩ := cf5 BK566) | (go_at_call 128; (with_reducible refine (member_sit.calls a0_0 a0_1 a0_2 a0_3 a0_4 a1 a3 t568 t569 t570 _ A6.out).mono ?_); rintro e w12 ⟨rfl, hb⟩; replace BK566 := bb BK566 hb; replace BK567 := bb BK567 hb; replace HB := bs HB hb; (try clear hb)) | (refine bG 12 #[.int .i64 0, .int .i64 0] 148 ?_; intro gb571 hg w13 BK571 hb; have GW571 := bz HB hg; have GE571 := bz HB hg; have NB566_571 := nl BK566 hg; have NB571_566 := nr BK566 hg; have NB567_571 := nl BK567 hg; have NB571_567 := nr BK567 hg; replace BK566 := bb BK566 hb; replace BK567 := bb BK567 hb; replace HB := bs HB hb; clear hb hg; have hnb14 := NB571_566.out; have hnc14 := NB566_571.out; have hnb15 := NB571_567.out; have hnc15 := NB567_571.out; have hcz16 := ca2 BK571))
 repeat (go_quiet (first | (refine bG 5 #[.int .i64 a0_0, .int .i64 a0_1, .int .i64 a0_2, .int .i64 a0_3, .int .i64 a0_4] 23 ?_; intro gb566 hg w8 n1_ hb; have n0_ := asd (below_step (bse HB) hb); have n2_ := asd ((by rw [hg]; exact (below_size (bse HB)) : w.heap.size ≤ gb566)); have n3_ := asd ((by rw [hg]; exact (below_size (bse HB)) : w.heap.size ≤ gb566)); clear HB; have HB := n0_; have BK566 := n1_; have GW566 := n2_; have GE566 := n3_; clear n0_ n1_ n2_ n3_; clear hb hg) | (refine bG 9 #[.int .i64 a4_0, .int .i64 a4_1, .int .u64 a4_2, .int .u16 a4_3] 43 ?_; intro gb567 hg w9 n2_ hb; have n0_ := asd (blk_below (g := gb566) (o := .cells #[.int .i64 a0_0, .int .i64 a0_1, .int .i64 a0_2, .int .i64 a0_3, .int .i64 a0_4] 23 (0, 0)) (be BK566).out hb); have n1_ := asd (below_step (bse HB) hb); have n3_ := asd ((by rw [hg]; exact (below_size (bse HB)) : w.heap.size ≤ gb567)); have n4_ := asd ((by rw [hg]; exact (below_size (bse HB)) : w.heap.size ≤ gb567)); have n5_ := asd ((by rw [hg]; exact Nat.ne_of_lt (blk_lt (g := gb566) (o := .cells #[.int .i64 a0_0, .int .i64 a0_1, .int .i64 a0_2, .int .i64 a0_3, .int .i64 a0_4] 23 (0, 0)) (be BK566).out) : gb566 ≠ gb567)); have n6_ := asd ((by rw [hg]; exact Nat.ne_of_gt (blk_lt (g := gb566) (o := .cells #[.int .i64 a0_0, .int .i64 a0_1, .int .i64 a0_2, .int .i64 a0_3, .int .i64 a0_4] 23 (0, 0)) (be BK566).out) : gb567 ≠ gb566)); clear BK566; clear HB; have BK566 := n0_; have HB := n1_; have BK567 := n2_; have GW567 := n3_; have GE567 := n4_; have NB566_567 := n5_; have NB567_566 := n6_; clear n0_ n1_ n2_ n3_ n4_ n5_ n6_; clear hb hg; have hnb10 := NB566_567.out; have hnc10 := NB567_566.out; obtain ⟨hcz11_0, hfz11_0, hcz11_1, hfz11_1, hcz11_2, hfz11_2, hcz11_3, hfz11_3, hcz11_4, hfz11_4⟩ := ca5 BK566) | (go_at_call 128; (with_reducible refine (member_sit.calls a0_0 a0_1 a0_2 a0_3 a0_4 a1 a3 t568 t569 t570 _ A6.out).mono ?_); rintro e w12 ⟨rfl, hb⟩; have n0_ := asd (blk_below (g := gb566) (o := .cells #[.int .i64 a0_0, .int .i64 a0_1, .int .i64 a0_2, .int .i64 a0_3, .int .i64 a0_4] 23 (0, 0)) (be BK566).out hb); have n1_ := asd (blk_below (g := gb567) (o := .cells #[.int .i64 a4_0, .int .i64 a4_1, .int .u64 a4_2, .int .u16 a4_3] 43 (0, 0)) (be BK567).out hb); have n2_ := asd (below_step (bse HB) hb); clear BK566; clear BK567; clear HB; have BK566 := n0_; have BK567 := n1_; have HB := n2_; clear n0_ n1_ n2_; (try clear hb); (try clear hb2); (try clear hk); (try clear hi)) | (refine bG 12 #[.int .i64 0, .int .i64 0] 148 ?_; intro gb571 hg w13 n3_ hb; have n0_ := asd (blk_below (g := gb566) (o := .cells #[.int .i64 a0_0, .int .i64 a0_1, .int .i64 a0_2, .int .i64 a0_3, .int .i64 a0_4] 23 (0, 0)) (be BK566).out hb); have n1_ := asd (blk_below (g := gb567) (o := .cells #[.int .i64 a4_0, .int .i64 a4_1, .int .u64 a4_2, .int .u16 a4_3] 43 (0, 0)) (be BK567).out hb); have n2_ := asd (below_step (bse HB) hb); have n4_ := asd ((by rw [hg]; exact (below_size (bse HB)) : w.heap.size ≤ gb571)); have n5_ := asd ((by rw [hg]; exact (below_size (bse HB)) : w.heap.size ≤ gb571)); have n6_ := asd ((by rw [hg]; exact Nat.ne_of_lt (blk_lt (g := gb566) (o := .cells #[.int .i64 a0_0, .int .i64 a0_1, .int .i64 a0_2, .int .i64 a0_3, .int .i64 a0_4] 23 (0, 0)) (be BK566).out) : gb566 ≠ gb571)); have n7_ := asd ((by rw [hg]; exact Nat.ne_of_gt (blk_lt (g := gb566) (o := .cells #[.int .i64 a0_0, .int .i64 a0_1, .int .i64 a0_2, .int .i64 a0_3, .int .i64 a0_4] 23 (0, 0)) (be BK566).out) : gb571 ≠ gb566)); have n8_ := asd ((by rw [hg]; exact Nat.ne_of_lt (blk_lt (g := gb567) (o := .cells #[.int .i64 a4_0, .int .i64 a4_1, .int .u64 a4_2, .int .u16 a4_3] 43 (0, 0)) (be BK567).out) : gb567 ≠ gb571)); have n9_ := asd ((by rw [hg]; exact Nat.ne_of_gt (blk_lt (g := gb567) (o := .cells #[.int .i64 a4_0, .int .i64 a4_1, .int .u64 a4_2, .int .u16 a4_3] 43 (0, 0)) (be BK567).out) : gb571 ≠ gb567)); clear BK566; clear BK567; clear HB; have BK566 := n0_; have BK567 := n1_; have HB := n2_; have BK571 := n3_; have GW571 := n4_; have GE571 := n5_; have NB566_571 := n6_; have NB571_566 := n7_; have NB567_571 := n8_; have NB571_567 := n9_; clear n0_ n1_ n2_ n3_ n4_ n5_ n6_ n7_ n8_ n9_; clear hb hg; have hnb14 := NB571_566.out; have hnc14 := NB566_571.out; have hnb15 := NB571_567.out; have hnc15 := NB567_571.out; have hcz16 := ca2 BK571)); go_upto_if 23 with (first | (refine bG 5 #[.int .i64 a0_0, .int .i64 a0_1, .int .i64 a0_2, .int .i64 a0_3, .int .i64 a0_4] 23 ?_; intro gb566 hg w8 n1_ hb; have n0_ := asd (below_step (bse HB) hb); have n2_ := asd ((by rw [hg]; exact (below_size (bse HB)) : w.heap.size ≤ gb566)); have n3_ := asd ((by rw [hg]; exact (below_size (bse HB)) : w.heap.size ≤ gb566)); clear HB; have HB := n0_; have BK566 := n1_; have GW566 := n2_; have GE566 := n3_; clear n0_ n1_ n2_ n3_; clear hb hg) | (refine bG 9 #[.int .i64 a4_0, .int .i64 a4_1, .int .u64 a4_2, .int .u16 a4_3] 43 ?_; intro gb567 hg w9 n2_ hb; have n0_ := asd (blk_below (g := gb566) (o := .cells #[.int .i64 a0_0, .int .i64 a0_1, .int .i64 a0_2, .int .i64 a0_3, .int .i64 a0_4] 23 (0, 0)) (be BK566).out hb); have n1_ := asd (below_step (bse HB) hb); have n3_ := asd ((by rw [hg]; exact (below_size (bse HB)) : w.heap.size ≤ gb567)); have n4_ := asd ((by rw [hg]; exact (below_size (bse HB)) : w.heap.size ≤ gb567)); have n5_ := asd ((by rw [hg]; exact Nat.ne_of_lt (blk_lt (g := gb566) (o := .cells #[.int .i64 a0_0, .int .i64 a0_1, .int .i64 a0_2, .int .i64 a0_3, .int .i64 a0_4] 23 (0, 0)) (be BK566).out) : gb566 ≠ gb567)); have n6_ := asd ((by rw [hg]; exact Nat.ne_of_gt (blk_lt (g := gb566) (o := .cells #[.int .i64 a0_0, .int .i64 a0_1, .int .i64 a0_2, .int .i64 a0_3, .int .i64 a0_4] 23 (0, 0)) (be BK566).out) : gb567 ≠ gb566)); clear BK566; clear HB; have BK566 := n0_; have HB := n1_; have BK567 := n2_; have GW567 := n3_; have GE567 := n4_; have NB566_567 := n5_; have NB567_566 := n6_; clear n0_ n1_ n2_ n3_ n4_ n5_ n6_; clear hb hg; have hnb10 := NB566_567.out; have hnc10 := NB567_566.out; obtain ⟨hcz11_0, hfz11_0, hcz11_1, hfz11_1, hcz11_2, hfz11_2, hcz11_3, hfz11_3, hcz11_4, hfz11_4⟩ := ca5 BK566) | (go_at_call 128; (with_reducible refine (member_sit.calls a0_0 a0_1 a0_2 a0_3 a0_4 a1 a3 t568 t569 t570 _ A6.out).mono ?_); rintro e w12 ⟨rfl, hb⟩; have n0_ := asd (blk_below (g := gb566) (o := .cells #[.int .i64 a0_0, .int .i64 a0_1, .int .i64 a0_2, .int .i64 a0_3, .int .i64 a0_4] 23 (0, 0)) (be BK566).out hb); have n1_ := asd (blk_below (g := gb567) (o := .cells #[.int .i64 a4_0, .int .i64 a4_1, .int .u64 a4_2, .int .u16 a4_3] 43 (0, 0)) (be BK567).out hb); have n2_ := asd (below_step (bse HB) hb); clear BK566; clear BK567; clear HB; have BK566 := n0_; have BK567 := n1_; have HB := n2_; clear n0_ n1_ n2_; (try clear hb); (try clear hb2); (try clear hk); (try clear hi)) | (refine bG 12 #[.int .i64 0, .int .i64 0] 148 ?_; intro gb571 hg w13 n3_ hb; have n0_ := asd (blk_below (g := gb566) (o := .cells #[.int .i64 a0_0, .int .i64 a0_1, .int .i64 a0_2, .int .i64 a0_3, .int .i64 a0_4] 23 (0, 0)) (be BK566).out hb); have n1_ := asd (blk_below (g := gb567) (o := .cells #[.int .i64 a4_0, .int .i64 a4_1, .int .u64 a4_2, .int .u16 a4_3] 43 (0, 0)) (be BK567).out hb); have n2_ := asd (below_step (bse HB) hb); have n4_ := asd ((by rw [hg]; exact (below_size (bse HB)) : w.heap.size ≤ gb571)); have n5_ := asd ((by rw [hg]; exact (below_size (bse HB)) : w.heap.size ≤ gb571)); have n6_ := asd ((by rw [hg]; exact Nat.ne_of_lt (blk_lt (g := gb566) (o := .cells #[.int .i64 a0_0, .int .i64 a0_1, .int .i64 a0_2, .int .i64 a0_3, .int .i64 a0_4] 23 (0, 0)) (be BK566).out) : gb566 ≠ gb571)); have n7_ := asd ((by rw [hg]; exact Nat.ne_of_gt (blk_lt (g := gb566) (o := .cells #[.int .i64 a0_0, .int .i64 a0_1, .int .i64 a0_2, .int .i64 a0_3, .int .i64 a0_4] 23 (0, 0)) (be BK566).out) : gb571 ≠ gb566)); have n8_ := asd ((by rw [hg]; exact Nat.ne_of_lt (blk_lt (g := gb567) (o := .cells #[.int .i64 a4_0, .int .i64 a4_1, .int .u64 a4_2, .int .u16 a4_3] 43 (0, 0)) (be BK567).out) : gb567 ≠ gb571)); have n9_ := asd ((by rw [hg]; exact Nat.ne_of_gt (blk_lt (g := gb567) (o := .cells #[.int .i64 a4_0, .int .i64 a4_1, .int .u64 a4_2, .int .u16 a4_3] 43 (0, 0)) (be BK567).out) : gb571 ≠ gb567)); clear BK566; clear BK567; clear HB; have BK566 := n0_; have BK567 := n1_; have HB := n2_; have BK571 := n3_; have GW571 := n4_; have GE571 := n5_; have NB566_571 := n6_; have NB571_566 := n7_; have NB567_571 := n8_; have NB571_567 := n9_; clear n0_ n1_ n2_ n3_ n4_ n5_ n6_ n7_ n8_ n9_; clear hb hg; have hnb14 := NB571_566.out; have hnc14 := NB566_571.out; have hnb15 := NB571_567.out; have hnc15 := NB567_571.out; have hcz16 := ca2 BK571)))
 (try simp only [Act.put, List.setIfInBounds_toArray, List.set_cons_zero, List.set_cons_succ])
 go_cut [13] (fun v13 wc => ∃ (kq : Nat) (x13_6 : Int), v13 = .int .i64 x13_6 ∧ Aside0 (member_Judge.j0 kq a1 a2 a3 x13_6 a4_0 a4_1 a4_2 a4_3 t568 t569 = some (r1, r2)) ∧ Aside0 (kq ≤ k) ∧ Aside0 (wc.heap[gb566]? = some (.cells #[.int .i64 a0_0, .int .i64 a0_1, .int .i64 a0_2, .int .i64 a0_3, .int .i64 a0_4] 23 (0, 0))) ∧ Aside0 (wc.heap[gb567]? = some (.cells #[.int .i64 a4_0, .int .i64 a4_1, .int .u64 a4_2, .int .u16 a4_3] 43 (0, 0))) ∧ Aside0 (wc.heap[gb571]? = some (.cells #[.int .i64 t568, .int .i64 t569] 148 (0, 0))) ∧ Aside0 (Below w.heap.size w wc))
 case first =>
  have H := HC7.out
  clear HC7
  by_cases c17 : t570 = 0
  ·rw [if_pos c17] at H
   have c17b0 := beq_iff_eq.mpr c17
   have c17b1 := bne_eq_false_iff_eq.mpr c17
   clear c17
   (first | rw [c17b0] | (simp only [i64_w, i32_w]; rw [c17b0]) | skip)
   obtain ⟨t572, A18, H⟩ := bio H
   have H' := asd H
   clear H
   have hnb19 := NB567_566.out
   have hnc19 := NB566_567.out
   have hnb20 := NB567_571.out
   have hnc20 := NB571_567.out
   have hcz21 := cf4 BK567
   go_wp2_with (first | (go_at_call 48; (with_reducible refine (frame_Check.calls k a4_0 a4_1 a4_2 a4_3 t572 _ A18.out).mono ?_); rintro e w22 ⟨rfl, hb⟩; replace BK566 := fq NB566_571 BK566 hb; replace BK567 := fq NB567_571 BK567 hb; replace BK571 := asd (blk_below (g := gb571) (o := .cells #[.int .i64 t568, .int .i64 t569] 148 (0, 0)) (by (with_reducible repeat (first | refine blk_drewN ?_ _ | refine blk_drew ?_ | refine blk_alloc ?_ _)); refine blk_put (cs := #[.int .i64 t568, .int .i64 0]) ?_ 1 _ rfl; (with_reducible repeat (first | refine blk_drewN ?_ _ | refine blk_drew ?_ | refine blk_alloc ?_ _)); refine blk_put (cs := #[.int .i64 0, .int .i64 0]) ?_ 0 _ rfl; (with_reducible repeat (first | refine blk_drewN ?_ _ | refine blk_drew ?_ | refine blk_alloc ?_ _)); exact BK571.out) hb); replace HB := bs HB hb; (try clear hb)))
   repeat (go_quiet (first | (go_at_call 48; (with_reducible refine (frame_Check.calls k a4_0 a4_1 a4_2 a4_3 t572 _ A18.out).mono ?_); rintro e w22 ⟨rfl, hb⟩; have n0_ := fq NB566_571 BK566 hb; have n1_ := fq NB567_571 BK567 hb; have n2_ := asd (blk_below (g := gb571) (o := .cells #[.int .i64 t568, .int .i64 t569] 148 (0, 0)) (by (with_reducible repeat (first | refine blk_drewN ?_ _ | refine blk_drew ?_ | refine blk_alloc ?_ _)); refine blk_put (cs := #[.int .i64 t568, .int .i64 0]) ?_ 1 _ rfl; (with_reducible repeat (first | refine blk_drewN ?_ _ | refine blk_drew ?_ | refine blk_alloc ?_ _)); refine blk_put (cs := #[.int .i64 0, .int .i64 0]) ?_ 0 _ rfl; (with_reducible repeat (first | refine blk_drewN ?_ _ | refine blk_drew ?_ | refine blk_alloc ?_ _)); exact BK571.out) hb); have n3_ := asd (below_step (bse HB) hb); clear BK566; clear BK567; clear BK571; clear HB; have BK566 := n0_; have BK567 := n1_; have BK571 := n2_; have HB := n3_; clear n0_ n1_ n2_ n3_; (try clear hb); (try clear hb2); (try clear hk); (try clear hi))); try go_wp2_with (first | (go_at_call 48; (with_reducible refine (frame_Check.calls k a4_0 a4_1 a4_2 a4_3 t572 _ A18.out).mono ?_); rintro e w22 ⟨rfl, hb⟩; have n0_ := fq NB566_571 BK566 hb; have n1_ := fq NB567_571 BK567 hb; have n2_ := asd (blk_below (g := gb571) (o := .cells #[.int .i64 t568, .int .i64 t569] 148 (0, 0)) (by (with_reducible repeat (first | refine blk_drewN ?_ _ | refine blk_drew ?_ | refine blk_alloc ?_ _)); refine blk_put (cs := #[.int .i64 t568, .int .i64 0]) ?_ 1 _ rfl; (with_reducible repeat (first | refine blk_drewN ?_ _ | refine blk_drew ?_ | refine blk_alloc ?_ _)); refine blk_put (cs := #[.int .i64 0, .int .i64 0]) ?_ 0 _ rfl; (with_reducible repeat (first | refine blk_drewN ?_ _ | refine blk_drew ?_ | refine blk_alloc ?_ _)); exact BK571.out) hb); have n3_ := asd (below_step (bse HB) hb); clear BK566; clear BK567; clear BK571; clear HB; have BK566 := n0_; have BK567 := n1_; have BK571 := n2_; have HB := n3_; clear n0_ n1_ n2_ n3_; (try clear hb); (try clear hb2); (try clear hk); (try clear hi))))
   go_meet
   case rel => exact ⟨_, (t572), au, H', ⟨by first | omega | exact Nat.le_refl _⟩, be BK566, be BK567, be BK571, ⟨bse HB⟩⟩
  rw [if_neg c17] at H
  have c17b0 := beq_eq_false_iff_ne.mpr c17
  have c17b1 := bne_iff_ne.mpr c17
  (first | rw [c17b0] | (simp only [i64_w, i32_w]; rw [c17b0]) | skip)
  have H' := asd H
  clear H
  go_wp2
  repeat (go_quiet (fail); try go_wp2)
  go_meet
  case rel => exact ⟨_, (t570), au, H', ⟨by first | omega | exact Nat.le_refl _⟩, ff NB566_571 BK566, ff NB567_571 BK567, ⟨by (with_reducible repeat (first | refine blk_drewN ?_ _ | refine blk_drew ?_ | refine blk_alloc ?_ _)); refine blk_put (cs := #[.int .i64 t568, .int .i64 0]) ?_ 1 _ rfl; (with_reducible repeat (first | refine blk_drewN ?_ _ | refine blk_drew ?_ | refine blk_alloc ?_ _)); refine blk_put (cs := #[.int .i64 0, .int .i64 0]) ?_ 0 _ rfl; (with_reducible repeat (first | refine blk_drewN ?_ _ | refine blk_drew ?_ | refine blk_alloc ?_ _)); exact BK571.out⟩, ⟨bse HB⟩⟩
 case rest =>
  clear HC7
  try clear c1
  try clear c2
  try clear p2
  try clear c8
  try clear c10
  try clear c14
  try clear c15
  try clear c17
  try clear c17b0
  try clear c17b1
  try clear c19
  try clear c20
  try clear hcz11_0
  try clear hcz11_1
  try clear hcz11_2
  try clear hcz11_3
  try clear hcz11_4
  try clear hcz16
  try clear hcz16
  try clear hcz21
  try clear hfz11_0
  try clear hfz11_1
  try clear hfz11_2
  try clear hfz11_3
  try clear hfz11_4
  try clear hcz16
  try clear hcz16
  try clear hcz21
  obtain ⟨kq, x13_6, rfl, HA, HJ6, BK566, BK567, BK571, HB⟩ := hcut
  cases kq with
  | zero => exact absurd HA.out (by simp [member_Judge.j0])
  | succ kj6 =>
   have H := HA.out
   clear HA
   simp only [member_Judge.j0] at H
   by_cases c23 : x13_6 = 0
   ·rw [if_pos c23] at H
    have c23b0 := beq_iff_eq.mpr c23
    have c23b1 := bne_eq_false_iff_eq.mpr c23
    clear c23
    obtain ⟨t573, A24, H⟩ := bio H
    have HC25 := asd H
    clear H
    have hnb26 := NB571_566.out
    have hnc26 := NB566_571.out
    have hnb27 := NB571_567.out
    have hnc27 := NB567_571.out
    have hcz28 := ca2 BK571
    go_upto_region 7 with (first | (go_at_call 83; (with_reducible refine (frame_With.calls a2 t569 t573 _ A24.out).mono ?_); rintro e w' ⟨rfl, ⟨nd, rfl⟩⟩; (try first | exact ⟨rfl, _, World.drewN_drewN _ _ _⟩ | exact ⟨rfl, _, Eq.trans (World.drewN_drewN _ _ _) (congrArg (World.drewN _) (Nat.add_assoc _ _ _))⟩)))
    repeat (go_quiet (first | (go_at_call 83; (with_reducible refine (frame_With.calls a2 t569 t573 _ A24.out).mono ?_); rintro e w' ⟨rfl, ⟨nd, rfl⟩⟩; (try first | exact ⟨rfl, _, World.drewN_drewN _ _ _⟩ | exact ⟨rfl, _, Eq.trans (World.drewN_drewN _ _ _) (congrArg (World.drewN _) (Nat.add_assoc _ _ _))⟩))); go_upto_region 7 with (first | (go_at_call 83; (with_reducible refine (frame_With.calls a2 t569 t573 _ A24.out).mono ?_); rintro e w' ⟨rfl, ⟨nd, rfl⟩⟩; (try first | exact ⟨rfl, _, World.drewN_drewN _ _ _⟩ | exact ⟨rfl, _, Eq.trans (World.drewN_drewN _ _ _) (congrArg (World.drewN _) (Nat.add_assoc _ _ _))⟩))))
    (try simp only [Act.put, List.setIfInBounds_toArray, List.set_cons_zero, List.set_cons_succ])
    go_cut [32] (fun v32 wc => ∃ (kq : Nat) (x32_24 : Bool), v32 = .bool x32_24 ∧ Aside0 (member_Judge.j1 kq a1 a2 t573 x32_24 a4_0 a4_1 a4_2 a4_3 t568 t569 = some (r1, r2)) ∧ Aside0 (kq ≤ kj6) ∧ Aside0 (wc.heap[gb566]? = some (.cells #[.int .i64 a0_0, .int .i64 a0_1, .int .i64 a0_2, .int .i64 a0_3, .int .i64 a0_4] 23 (0, 0))) ∧ Aside0 (wc.heap[gb567]? = some (.cells #[.int .i64 a4_0, .int .i64 a4_1, .int .u64 a4_2, .int .u16 a4_3] 43 (0, 0))) ∧ Aside0 (wc.heap[gb571]? = some (.cells #[.int .i64 t568, .int .i64 t569] 148 (0, 0))) ∧ Aside0 (Below w.heap.size w wc))
    case first =>
     have H := HC25.out
     clear HC25
     by_cases c29 : a4_1 = t569
     ·rw [if_pos c29] at H
      have c29b0 := beq_iff_eq.mpr c29
      have c29b1 := bne_eq_false_iff_eq.mpr c29
      clear c29
      (first | rw [c29b0] | (simp only [i64_w, i32_w]; rw [c29b0]) | skip)
      have H' := asd H
      clear H
      have hnb30 := NB567_566.out
      have hnc30 := NB566_567.out
      have hnb31 := NB567_571.out
      have hnc31 := NB571_567.out
      have hcz32 := cf4 BK567
      have hnb33 := NB571_566.out
      have hnc33 := NB566_571.out
      have hcz34 := ca2 BK571
      go_wp2
      repeat (go_quiet (fail); try go_wp2)
      go_meet
      case rel => exact ⟨_, ((a4_2 != a3)), au, H', ⟨by have := HJ6.out; first | omega | exact Nat.le_refl _⟩, be BK566, be BK567, be BK571, ⟨bse HB⟩⟩
     rw [if_neg c29] at H
     have c29b0 := beq_eq_false_iff_ne.mpr c29
     have c29b1 := bne_iff_ne.mpr c29
     (first | rw [c29b0] | (simp only [i64_w, i32_w]; rw [c29b0]) | skip)
     have H' := asd H
     clear H
     have hnb35 := NB567_566.out
     have hnc35 := NB566_567.out
     have hnb36 := NB567_571.out
     have hnc36 := NB571_567.out
     have hcz37 := cf4 BK567
     have hnb38 := NB571_566.out
     have hnc38 := NB566_571.out
     have hcz39 := ca2 BK571
     go_wp2
     repeat (go_quiet (fail); try go_wp2)
     go_meet
     case rel => exact ⟨_, (true), au, H', ⟨by have := HJ6.out; first | omega | exact Nat.le_refl _⟩, be BK566, be BK567, be BK571, ⟨bse HB⟩⟩
    case rest =>
     clear HC25
     try clear c1
     try clear c2
     try clear p2
     try clear c3
     try clear c8
     try clear c10
     try clear c14
     try clear c15
     try clear c17
     try clear c17b0
     try clear c17b1
     try clear c19
     try clear c20
     try clear c23
     try clear c23b0
     try clear c23b1
     try clear c26
     try clear c27
     try clear c29
     try clear c29b0
     try clear c29b1
     try clear c30
     try clear c31
     try clear c33
     try clear c35
     try clear c36
     try clear c38
     try clear hcz11_0
     try clear hcz11_1
     try clear hcz11_2
     try clear hcz11_3
     try clear hcz11_4
     try clear hcz16
     try clear hcz16
     try clear hcz21
     try clear hcz28
     try clear hcz28
     try clear hcz32
     try clear hcz34
     try clear hcz34
     try clear hcz37
     try clear hcz39
     try clear hcz39
     try clear hfz11_0
     try clear hfz11_1
     try clear hfz11_2
     try clear hfz11_3
     try clear hfz11_4
     try clear hcz16
     try clear hcz16
     try clear hcz21
     try clear hcz28
     try clear hcz28
     try clear hcz32
     try clear hcz34
     try clear hcz34
     try clear hcz37
     try clear hcz39
     try clear hcz39
     try clear p2
     obtain ⟨kq, x32_24, rfl, HA, HJ24, BK566, BK567, BK571, HB⟩ := hcut
     cases kq with
     | zero => exact absurd HA.out (by simp [member_Judge.j1])
     | succ kj24 =>
      have H := HA.out
      clear HA
      simp only [member_Judge.j1] at H
      by_cases c40 : x32_24 = true
      ·subst c40
       rw [if_pos rfl] at H
       simp only [Option.some.injEq, Prod.mk.injEq] at H
       obtain ⟨rfl, rfl⟩ := H
       go_wp2
       repeat (go_quiet (fail); try go_wp2)
       go_ret2
       exact xo (bse HB)
      replace c40 := Bool.eq_false_iff.mpr c40
      subst c40
      rw [if_neg (show ¬ (false = true) by decide)] at H
      by_cases c41 : a4_3 = t573
      ·rw [if_pos c41] at H
       have c41b0 := beq_iff_eq.mpr c41
       have c41b1 := bne_eq_false_iff_eq.mpr c41
       clear c41
       simp only [Option.some.injEq, Prod.mk.injEq] at H
       obtain ⟨rfl, rfl⟩ := H
       have hnb42 := NB567_566.out
       have hnc42 := NB566_567.out
       have hnb43 := NB567_571.out
       have hnc43 := NB571_567.out
       have hcz44 := cf4 BK567
       go_wp2
       repeat (go_quiet (fail); try go_wp2)
       go_ret2
       exact xo (bse HB)
      rw [if_neg c41] at H
      have c41b0 := beq_eq_false_iff_ne.mpr c41
      have c41b1 := bne_iff_ne.mpr c41
      by_cases c45 : t568 = t569
      ·rw [if_pos c45] at H
       have c45b0 := beq_iff_eq.mpr c45
       have c45b1 := bne_eq_false_iff_eq.mpr c45
       clear c45
       simp only [Option.some.injEq, Prod.mk.injEq] at H
       obtain ⟨rfl, rfl⟩ := H
       have hnb46 := NB567_566.out
       have hnc46 := NB566_567.out
       have hnb47 := NB567_571.out
       have hnc47 := NB571_567.out
       have hcz48 := cf4 BK567
       have hnb49 := NB571_566.out
       have hnc49 := NB566_571.out
       have hcz50 := ca2 BK571
       go_wp2
       repeat (go_quiet (fail); try go_wp2)
       go_ret2
       exact xo (bse HB)
      rw [if_neg c45] at H
      have c45b0 := beq_eq_false_iff_ne.mpr c45
      have c45b1 := bne_iff_ne.mpr c45
      obtain ⟨t574, A51, H⟩ := bio H
      by_cases c52 : t574 = true
      ·subst c52
       rw [if_pos rfl] at H
       obtain ⟨t575, A53, H⟩ := bio H
       by_cases c54 : a4_3 = t575
       ·rw [if_pos c54] at H
        have c54b0 := beq_iff_eq.mpr c54
        have c54b1 := bne_eq_false_iff_eq.mpr c54
        clear c54
        simp only [Option.some.injEq, Prod.mk.injEq] at H
        obtain ⟨rfl, rfl⟩ := H
        have hnb55 := NB567_566.out
        have hnc55 := NB566_567.out
        have hnb56 := NB567_571.out
        have hnc56 := NB571_567.out
        have hcz57 := cf4 BK567
        have hnb58 := NB571_566.out
        have hnc58 := NB566_571.out
        have hcz59 := ca2 BK571
        go_wp2_with (first | (go_at_call 17; (with_reducible refine (frame_Has.calls a2 a1 true _ A51.out).mono ?_); rintro e w' ⟨rfl, ⟨nd, rfl⟩⟩; (try first | exact ⟨rfl, _, World.drewN_drewN _ _ _⟩ | exact ⟨rfl, _, Eq.trans (World.drewN_drewN _ _ _) (congrArg (World.drewN _) (Nat.add_assoc _ _ _))⟩)) | (go_at_call 82; (with_reducible refine (frame_Without.calls t573 a1 t575 _ A53.out).mono ?_); rintro e w' ⟨rfl, ⟨nd, rfl⟩⟩; (try first | exact ⟨rfl, _, World.drewN_drewN _ _ _⟩ | exact ⟨rfl, _, Eq.trans (World.drewN_drewN _ _ _) (congrArg (World.drewN _) (Nat.add_assoc _ _ _))⟩)))
        repeat (go_quiet (first | (go_at_call 17; (with_reducible refine (frame_Has.calls a2 a1 true _ A51.out).mono ?_); rintro e w' ⟨rfl, ⟨nd, rfl⟩⟩; (try first | exact ⟨rfl, _, World.drewN_drewN _ _ _⟩ | exact ⟨rfl, _, Eq.trans (World.drewN_drewN _ _ _) (congrArg (World.drewN _) (Nat.add_assoc _ _ _))⟩)) | (go_at_call 82; (with_reducible refine (frame_Without.calls t573 a1 t575 _ A53.out).mono ?_); rintro e w' ⟨rfl, ⟨nd, rfl⟩⟩; (try first | exact ⟨rfl, _, World.drewN_drewN _ _ _⟩ | exact ⟨rfl, _, Eq.trans (World.drewN_drewN _ _ _) (congrArg (World.drewN _) (Nat.add_assoc _ _ _))⟩))); try go_wp2_with (first | (go_at_call 17; (with_reducible refine (frame_Has.calls a2 a1 true _ A51.out).mono ?_); rintro e w' ⟨rfl, ⟨nd, rfl⟩⟩; (try first | exact ⟨rfl, _, World.drewN_drewN _ _ _⟩ | exact ⟨rfl, _, Eq.trans (World.drewN_drewN _ _ _) (congrArg (World.drewN _) (Nat.add_assoc _ _ _))⟩)) | (go_at_call 82; (with_reducible refine (frame_Without.calls t573 a1 t575 _ A53.out).mono ?_); rintro e w' ⟨rfl, ⟨nd, rfl⟩⟩; (try first | exact ⟨rfl, _, World.drewN_drewN _ _ _⟩ | exact ⟨rfl, _, Eq.trans (World.drewN_drewN _ _ _) (congrArg (World.drewN _) (Nat.add_assoc _ _ _))⟩))))
        go_ret2
        exact xo (bse HB)
       rw [if_neg c54] at H
       have c54b0 := beq_eq_false_iff_ne.mpr c54
       have c54b1 := bne_iff_ne.mpr c54
       simp only [Option.some.injEq, Prod.mk.injEq] at H
       obtain ⟨rfl, rfl⟩ := H
       have hnb60 := NB567_566.out
       have hnc60 := NB566_567.out
       have hnb61 := NB567_571.out
       have hnc61 := NB571_567.out
       have hcz62 := cf4 BK567
       have hnb63 := NB571_566.out
       have hnc63 := NB566_571.out
       have hcz64 := ca2 BK571
       go_wp2_with (first | (go_at_call 17; (with_reducible refine (frame_Has.calls a2 a1 true _ A51.out).mono ?_); rintro e w' ⟨rfl, ⟨nd, rfl⟩⟩; (try first | exact ⟨rfl, _, World.drewN_drewN _ _ _⟩ | exact ⟨rfl, _, Eq.trans (World.drewN_drewN _ _ _) (congrArg (World.drewN _) (Nat.add_assoc _ _ _))⟩)) | (go_at_call 82; (with_reducible refine (frame_Without.calls t573 a1 t575 _ A53.out).mono ?_); rintro e w' ⟨rfl, ⟨nd, rfl⟩⟩; (try first | exact ⟨rfl, _, World.drewN_drewN _ _ _⟩ | exact ⟨rfl, _, Eq.trans (World.drewN_drewN _ _ _) (congrArg (World.drewN _) (Nat.add_assoc _ _ _))⟩)))
       repeat (go_quiet (first | (go_at_call 17; (with_reducible refine (frame_Has.calls a2 a1 true _ A51.out).mono ?_); rintro e w' ⟨rfl, ⟨nd, rfl⟩⟩; (try first | exact ⟨rfl, _, World.drewN_drewN _ _ _⟩ | exact ⟨rfl, _, Eq.trans (World.drewN_drewN _ _ _) (congrArg (World.drewN _) (Nat.add_assoc _ _ _))⟩)) | (go_at_call 82; (with_reducible refine (frame_Without.calls t573 a1 t575 _ A53.out).mono ?_); rintro e w' ⟨rfl, ⟨nd, rfl⟩⟩; (try first | exact ⟨rfl, _, World.drewN_drewN _ _ _⟩ | exact ⟨rfl, _, Eq.trans (World.drewN_drewN _ _ _) (congrArg (World.drewN _) (Nat.add_assoc _ _ _))⟩))); try go_wp2_with (first | (go_at_call 17; (with_reducible refine (frame_Has.calls a2 a1 true _ A51.out).mono ?_); rintro e w' ⟨rfl, ⟨nd, rfl⟩⟩; (try first | exact ⟨rfl, _, World.drewN_drewN _ _ _⟩ | exact ⟨rfl, _, Eq.trans (World.drewN_drewN _ _ _) (congrArg (World.drewN _) (Nat.add_assoc _ _ _))⟩)) | (go_at_call 82; (with_reducible refine (frame_Without.calls t573 a1 t575 _ A53.out).mono ?_); rintro e w' ⟨rfl, ⟨nd, rfl⟩⟩; (try first | exact ⟨rfl, _, World.drewN_drewN _ _ _⟩ | exact ⟨rfl, _, Eq.trans (World.drewN_drewN _ _ _) (congrArg (World.drewN _) (Nat.add_assoc _ _ _))⟩))))
       go_ret2
       exact xo (bse HB)
      replace c52 := Bool.eq_false_iff.mpr c52
      subst c52
      rw [if_neg (show ¬ (false = true) by decide)] at H
      simp only [Option.some.injEq, Prod.mk.injEq] at H
      obtain ⟨rfl, rfl⟩ := H
      have hnb65 := NB567_566.out
      have hnc65 := NB566_567.out
      have hnb66 := NB567_571.out
      have hnc66 := NB571_567.out
      have hcz67 := cf4 BK567
      have hnb68 := NB571_566.out
      have hnc68 := NB566_571.out
      have hcz69 := ca2 BK571
      go_wp2_with (first | (go_at_call 17; (with_reducible refine (frame_Has.calls a2 a1 false _ A51.out).mono ?_); rintro e w' ⟨rfl, ⟨nd, rfl⟩⟩; (try first | exact ⟨rfl, _, World.drewN_drewN _ _ _⟩ | exact ⟨rfl, _, Eq.trans (World.drewN_drewN _ _ _) (congrArg (World.drewN _) (Nat.add_assoc _ _ _))⟩)))
      repeat (go_quiet (first | (go_at_call 17; (with_reducible refine (frame_Has.calls a2 a1 false _ A51.out).mono ?_); rintro e w' ⟨rfl, ⟨nd, rfl⟩⟩; (try first | exact ⟨rfl, _, World.drewN_drewN _ _ _⟩ | exact ⟨rfl, _, Eq.trans (World.drewN_drewN _ _ _) (congrArg (World.drewN _) (Nat.add_assoc _ _ _))⟩))); try go_wp2_with (first | (go_at_call 17; (with_reducible refine (frame_Has.calls a2 a1 false _ A51.out).mono ?_); rintro e w' ⟨rfl, ⟨nd, rfl⟩⟩; (try first | exact ⟨rfl, _, World.drewN_drewN _ _ _⟩ | exact ⟨rfl, _, Eq.trans (World.drewN_drewN _ _ _) (congrArg (World.drewN _) (Nat.add_assoc _ _ _))⟩))))
      go_ret2
      exact xo (bse HB)
   rw [if_neg c23] at H
   have c23b0 := beq_eq_false_iff_ne.mpr c23
   have c23b1 := bne_iff_ne.mpr c23
   simp only [Option.some.injEq, Prod.mk.injEq] at H
   obtain ⟨rfl, rfl⟩ := H
   go_wp2
   repeat (go_quiet (fail); try go_wp2)
   go_ret2
   exact xo (bse HB)


/-! ### member_Count: function 87 -/
mutual
def member_Count.j0 : Nat → Int → Bool → Int → Int → Option (Int × Int × Int)
 | 0, _, _, _, _ => none
 | k + 1, x1, x19, x577000, x577001 => if x19 = true then (some (0, 0, 1)) else (if x1 = 0 then (some (x577000, x577001, 0)) else (if x1 = 1 then (member_Count.j1 k x1 (x1 == 1) x577000 x577001) else (member_Count.j1 k x1 (x1 == 2) x577000 x577001)))
def member_Count.j1 : Nat → Int → Bool → Int → Int → Option (Int × Int × Int)
 | 0, _, _, _, _ => none
 | k + 1, x21, x25, x577000, x577001 => if x25 = true then (some (mn (wrap64 (x577000 + 1)) 1073741824, x577001, 0)) else (if x21 = 3 then (some (x577000, mn (wrap64 (x577001 + 1)) 1073741824, 0)) else (some (0, 0, 1)))
end
def member_Count.f (k : Nat) (a0_0 a0_1 a1 : Int) : Option (Int × Int × Int) := if (mn a0_0 a0_1) < 0 then (member_Count.j0 k a1 true a0_0 a0_1) else (member_Count.j0 k a1 (decide ((mx a0_0 a0_1) > 1073741824)) a0_0 a0_1)
theorem member_Count.calls (k : Nat) (a0_0 a0_1 a1 r1 r2 r3 : Int) (w : World) (h : member_Count.f k a0_0 a0_1 a1 = some (r1, r2, r3)) :
  Calls Tryz.prog 87 #[.agg #[.int .i64 a0_0, .int .i64 a0_1], .int .i64 a1] w fun e w' => e = .returned (.tuple #[.agg #[.int .i64 r1, .int .i64 r2], .int .i64 r3]) ∧ Below w.heap.size w w' := by
 have hu29 := Tryz.underlying29
 have HB := asd (Below.refl w.heap.size w)
 have H : (if (mn a0_0 a0_1) < 0 then (member_Count.j0 k a1 true a0_0 a0_1) else (member_Count.j0 k a1 (decide ((mx a0_0 a0_1) > 1073741824)) a0_0 a0_1)) = some (r1, r2, r3) := h
 clear h
 have HC3 := asd H
 clear H
 go_enter Tryz.func87, Tryz.ntmps87
 go_upto_region 1 with (first | (refine bG 2 #[.int .i64 a0_0, .int .i64 a0_1] 29 ?_; intro gb576 hg w4 BK576 hb; have GW576 := bz HB hg; have GE576 := bz HB hg; replace HB := bs HB hb; clear hb hg) | (refine bG 4 #[.int .i64 0, .int .i64 0] 29 ?_; intro gb577 hg w5 BK577 hb; have GW577 := bz HB hg; have GE577 := bz HB hg; have NB576_577 := nl BK576 hg; have NB577_576 := nr BK576 hg; replace BK576 := bb BK576 hb; replace HB := bs HB hb; clear hb hg))
 (try simp only [Act.put, List.setIfInBounds_toArray, List.set_cons_zero, List.set_cons_succ])
 go_cut [19] (fun v19 wc => ∃ (kq : Nat) (x19_2 : Bool), v19 = .bool x19_2 ∧ Aside0 (member_Count.j0 kq a1 x19_2 a0_0 a0_1 = some (r1, r2, r3)) ∧ Aside0 (kq ≤ k) ∧ Aside0 (wc.heap[gb576]? = some (.cells #[.int .i64 a0_0, .int .i64 a0_1] 29 (0, 0))) ∧ Aside0 (wc.heap[gb577]? = some (.cells #[.int .i64 0, .int .i64 0] 29 (0, 0))) ∧ Aside0 (Below w.heap.size w wc))
 case first =>
  have H := HC3.out
  clear HC3
  obtain ⟨ji6, hji6⟩ : ∃ j_ : Int, (mn a0_0 a0_1) = j_ := ⟨_, rfl⟩
  replace H : (if (ji6) < 0 then (member_Count.j0 k a1 true a0_0 a0_1) else (member_Count.j0 k a1 (decide ((mx a0_0 a0_1) > 1073741824)) a0_0 a0_1)) = some (r1, r2, r3) := by first | (rw [hji6] at H; exact H) | (simp only [hji6] at H ⊢; exact H)
  have hji6_ : (if a0_1 < a0_0 then a0_1 else a0_0) = ji6 := hji6
  by_cases c7 : (ji6) < 0
  ·rw [if_pos c7] at H
   have c7b0 := decide_eq_true c7
   clear c7
   (first | rw [c7b0] | (simp only [i64_w, i32_w]; rw [c7b0]) | skip)
   have H' := asd H
   clear H
   have hnb8 := NB576_577.out
   have hnc8 := NB577_576.out
   have hcz9 := ca2 BK576
   go_wp2
   go_meet
   case rel => exact ⟨_, (true), au, H', ⟨by first | omega | exact Nat.le_refl _⟩, be BK576, be BK577, ⟨bse HB⟩⟩
  rw [if_neg c7] at H
  have c7b0 := decide_eq_false c7
  clear c7
  (first | rw [c7b0] | (simp only [i64_w, i32_w]; rw [c7b0]) | skip)
  obtain ⟨ji10, hji10⟩ : ∃ j_ : Int, (mx a0_0 a0_1) = j_ := ⟨_, rfl⟩
  replace H : (member_Count.j0 k a1 (decide ((ji10) > 1073741824)) a0_0 a0_1) = some (r1, r2, r3) := by first | (rw [hji10] at H; exact H) | (simp only [hji10] at H ⊢; exact H)
  have hji10_ : (if a0_0 < a0_1 then a0_1 else a0_0) = ji10 := hji10
  have H' := asd H
  clear H
  have hnb11 := NB576_577.out
  have hnc11 := NB577_576.out
  have hcz12 := ca2 BK576
  go_wp2
  go_meet
  case rel => exact ⟨_, (decide ((ji10) > 1073741824)), (by first | rfl | (simp; done) | (simp only [← hji10] <;> (first | rfl | simp)) | (simp [*]; done)), H', ⟨by first | omega | exact Nat.le_refl _⟩, be BK576, be BK577, ⟨bse HB⟩⟩
 case rest =>
  clear HC3
  try clear c1
  try clear p2
  try clear c7
  try clear c7b0
  try clear c8
  try clear c11
  try clear hcz12
  try clear hcz12
  try clear hcz9
  try clear hcz9
  try clear hcz12
  try clear hcz12
  try clear hcz9
  try clear hcz9
  obtain ⟨kq, x19_2, rfl, HA, HJ2, BK576, BK577, HB⟩ := hcut
  cases kq with
  | zero => exact absurd HA.out (by simp [member_Count.j0])
  | succ kj2 =>
   have H := HA.out
   clear HA
   simp only [member_Count.j0] at H
   by_cases c13 : x19_2 = true
   ·subst c13
    rw [if_pos rfl] at H
    simp only [Option.some.injEq, Prod.mk.injEq] at H
    obtain ⟨rfl, rfl, rfl⟩ := H
    have hnb14 := NB577_576.out
    have hnc14 := NB576_577.out
    have hcz15 := ca2 BK577
    go_wp2
    refine bodyPost_ret (results_ct rfl _ _ gb577 29 #[.int .i64 0, .int .i64 0] (0, 0) _ rfl (by (with_reducible repeat (first | refine blk_drewN ?_ _ | refine blk_drew ?_ | refine blk_alloc ?_ _)); refine blk_put (cs := #[.int .i64 0, .int .i64 0]) ?_ 1 _ rfl; (with_reducible repeat (first | refine blk_drewN ?_ _ | refine blk_drew ?_ | refine blk_alloc ?_ _)); refine blk_put (cs := #[.int .i64 0, .int .i64 0]) ?_ 0 _ rfl; (with_reducible repeat (first | refine blk_drewN ?_ _ | refine blk_drew ?_ | refine blk_alloc ?_ _)); exact BK577.out) Tryz.underlying29 rfl (by kernel_rfl)) rfl ?_
    exact xo (bse HB)
   replace c13 := Bool.eq_false_iff.mpr c13
   subst c13
   rw [if_neg (show ¬ (false = true) by decide)] at H
   by_cases c16 : a1 = 0
   ·rw [if_pos c16] at H
    have c16b0 := beq_iff_eq.mpr c16
    have c16b1 := bne_eq_false_iff_eq.mpr c16
    clear c16
    simp only [Option.some.injEq, Prod.mk.injEq] at H
    obtain ⟨rfl, rfl, rfl⟩ := H
    have hnb17 := NB576_577.out
    have hnc17 := NB577_576.out
    have hcz18 := ca2 BK576
    have hcz19 := ca2 BK577
    go_wp2
    refine bodyPost_ret (results_ct rfl _ _ gb577 29 #[.int .i64 a0_0, .int .i64 a0_1] (0, 0) _ rfl (by (with_reducible repeat (first | refine blk_drewN ?_ _ | refine blk_drew ?_ | refine blk_alloc ?_ _)); refine blk_put (cs := #[.int .i64 a0_0, .int .i64 0]) ?_ 1 _ rfl; (with_reducible repeat (first | refine blk_drewN ?_ _ | refine blk_drew ?_ | refine blk_alloc ?_ _)); refine blk_put (cs := #[.int .i64 0, .int .i64 0]) ?_ 0 _ rfl; (with_reducible repeat (first | refine blk_drewN ?_ _ | refine blk_drew ?_ | refine blk_alloc ?_ _)); exact BK577.out) Tryz.underlying29 rfl (by kernel_rfl)) rfl ?_
    exact xo (bse HB)
   rw [if_neg c16] at H
   have c16b0 := beq_eq_false_iff_ne.mpr c16
   have c16b1 := bne_iff_ne.mpr c16
   have HC20 := asd H
   clear H
   go_upto_if 25 with (fail)
   go_cut [25] (fun v25 wc => ∃ (kq : Nat) (x25_19 : Bool), v25 = .bool x25_19 ∧ Aside0 (member_Count.j1 kq a1 x25_19 a0_0 a0_1 = some (r1, r2, r3)) ∧ Aside0 (kq ≤ kj2) ∧ Aside0 (wc.heap[gb576]? = some (.cells #[.int .i64 a0_0, .int .i64 a0_1] 29 (0, 0))) ∧ Aside0 (wc.heap[gb577]? = some (.cells #[.int .i64 0, .int .i64 0] 29 (0, 0))) ∧ Aside0 (Below w.heap.size w wc))
   case first =>
    have H := HC20.out
    clear HC20
    by_cases c21 : a1 = 1
    ·rw [if_pos c21] at H
     have c21b0 := beq_iff_eq.mpr c21
     have c21b1 := bne_eq_false_iff_eq.mpr c21
     clear c21
     (first | rw [c21b0] | (simp only [i64_w, i32_w]; rw [c21b0]) | skip)
     have H' := asd H
     clear H
     go_wp2
     go_meet
     case rel => exact ⟨_, ((a1 == 1)), au, H', ⟨by have := HJ2.out; first | omega | exact Nat.le_refl _⟩, be BK576, be BK577, ⟨bse HB⟩⟩
    rw [if_neg c21] at H
    have c21b0 := beq_eq_false_iff_ne.mpr c21
    have c21b1 := bne_iff_ne.mpr c21
    (first | rw [c21b0] | (simp only [i64_w, i32_w]; rw [c21b0]) | skip)
    have H' := asd H
    clear H
    go_wp2
    go_meet
    case rel => exact ⟨_, ((a1 == 2)), au, H', ⟨by have := HJ2.out; first | omega | exact Nat.le_refl _⟩, be BK576, be BK577, ⟨bse HB⟩⟩
   case rest =>
    clear HC20
    try clear c1
    try clear c2
    try clear p2
    try clear c7
    try clear c7b0
    try clear c8
    try clear c11
    try clear c13
    try clear c14
    try clear c16
    try clear c16b0
    try clear c16b1
    try clear c17
    try clear c21
    try clear c21b0
    try clear c21b1
    try clear hcz12
    try clear hcz12
    try clear hcz15
    try clear hcz15
    try clear hcz18
    try clear hcz18
    try clear hcz19
    try clear hcz19
    try clear hcz9
    try clear hcz9
    try clear hcz12
    try clear hcz12
    try clear hcz15
    try clear hcz15
    try clear hcz18
    try clear hcz18
    try clear hcz19
    try clear hcz19
    try clear hcz9
    try clear hcz9
    try clear p2
    obtain ⟨kq, x25_19, rfl, HA, HJ19, BK576, BK577, HB⟩ := hcut
    cases kq with
    | zero => exact absurd HA.out (by simp [member_Count.j1])
    | succ kj19 =>
     have H := HA.out
     clear HA
     simp only [member_Count.j1] at H
     by_cases c22 : x25_19 = true
     ·subst c22
      rw [if_pos rfl] at H
      obtain ⟨ji23, hji23⟩ : ∃ j_ : Int, (mn (wrap64 (a0_0 + 1)) 1073741824) = j_ := ⟨_, rfl⟩
      replace H : (some (ji23, a0_1, 0)) = some (r1, r2, r3) := by first | (rw [hji23] at H; exact H) | (simp only [hji23] at H ⊢; exact H)
      have hji23_ : (if 1073741824 < (wrap64 (a0_0 + 1)) then 1073741824 else (wrap64 (a0_0 + 1))) = ji23 := hji23
      simp only [Option.some.injEq, Prod.mk.injEq] at H
      obtain ⟨rfl, rfl, rfl⟩ := H
      have hnb24 := NB576_577.out
      have hnc24 := NB577_576.out
      have hcz25 := ca2 BK576
      have hcz26 := ca2 BK577
      go_wp2
      refine bodyPost_ret (results_ct rfl _ _ gb577 29 #[.int .i64 ji23, .int .i64 a0_1] (0, 0) _ rfl (by (with_reducible repeat (first | refine blk_drewN ?_ _ | refine blk_drew ?_ | refine blk_alloc ?_ _)); refine blk_put (cs := #[.int .i64 ji23, .int .i64 0]) ?_ 1 _ rfl; (with_reducible repeat (first | refine blk_drewN ?_ _ | refine blk_drew ?_ | refine blk_alloc ?_ _)); refine blk_put (cs := #[.int .i64 0, .int .i64 0]) ?_ 0 _ rfl; (with_reducible repeat (first | refine blk_drewN ?_ _ | refine blk_drew ?_ | refine blk_alloc ?_ _)); refine blk_far ?_ NB577_576.out _; (with_reducible repeat (first | refine blk_drewN ?_ _ | refine blk_drew ?_ | refine blk_alloc ?_ _)); exact BK577.out) Tryz.underlying29 rfl (by kernel_rfl)) rfl ?_
      exact ⟨by first | rfl | (simp [errW_none, errW_some] <;> rfl) | (simp only [← hji23]; first | rfl | (simp [errW_none, errW_some] <;> rfl)) | (simp [*, errW_none, errW_some] <;> rfl), bse HB⟩
     replace c22 := Bool.eq_false_iff.mpr c22
     subst c22
     rw [if_neg (show ¬ (false = true) by decide)] at H
     by_cases c27 : a1 = 3
     ·rw [if_pos c27] at H
      have c27b0 := beq_iff_eq.mpr c27
      have c27b1 := bne_eq_false_iff_eq.mpr c27
      clear c27
      obtain ⟨ji28, hji28⟩ : ∃ j_ : Int, (mn (wrap64 (a0_1 + 1)) 1073741824) = j_ := ⟨_, rfl⟩
      replace H : (some (a0_0, ji28, 0)) = some (r1, r2, r3) := by first | (rw [hji28] at H; exact H) | (simp only [hji28] at H ⊢; exact H)
      have hji28_ : (if 1073741824 < (wrap64 (a0_1 + 1)) then 1073741824 else (wrap64 (a0_1 + 1))) = ji28 := hji28
      simp only [Option.some.injEq, Prod.mk.injEq] at H
      obtain ⟨rfl, rfl, rfl⟩ := H
      have hnb29 := NB576_577.out
      have hnc29 := NB577_576.out
      have hcz30 := ca2 BK576
      have hcz31 := ca2 BK577
      go_wp2
      refine bodyPost_ret (results_ct rfl _ _ gb577 29 #[.int .i64 a0_0, .int .i64 ji28] (0, 0) _ rfl (by (with_reducible repeat (first | refine blk_drewN ?_ _ | refine blk_drew ?_ | refine blk_alloc ?_ _)); refine blk_put (cs := #[.int .i64 a0_0, .int .i64 0]) ?_ 1 _ rfl; (with_reducible repeat (first | refine blk_drewN ?_ _ | refine blk_drew ?_ | refine blk_alloc ?_ _)); refine blk_put (cs := #[.int .i64 0, .int .i64 0]) ?_ 0 _ rfl; (with_reducible repeat (first | refine blk_drewN ?_ _ | refine blk_drew ?_ | refine blk_alloc ?_ _)); refine blk_far ?_ NB577_576.out _; (with_reducible repeat (first | refine blk_drewN ?_ _ | refine blk_drew ?_ | refine blk_alloc ?_ _)); exact BK577.out) Tryz.underlying29 rfl (by kernel_rfl)) rfl ?_
      exact ⟨by first | rfl | (simp [errW_none, errW_some] <;> rfl) | (simp only [← hji28]; first | rfl | (simp [errW_none, errW_some] <;> rfl)) | (simp [*, errW_none, errW_some] <;> rfl), bse HB⟩
     rw [if_neg c27] at H
     have c27b0 := beq_eq_false_iff_ne.mpr c27
     have c27b1 := bne_iff_ne.mpr c27
     simp only [Option.some.injEq, Prod.mk.injEq] at H
     obtain ⟨rfl, rfl, rfl⟩ := H
     have hnb32 := NB577_576.out
     have hnc32 := NB576_577.out
     have hcz33 := ca2 BK577
     go_wp2
     refine bodyPost_ret (results_ct rfl _ _ gb577 29 #[.int .i64 0, .int .i64 0] (0, 0) _ rfl (by (with_reducible repeat (first | refine blk_drewN ?_ _ | refine blk_drew ?_ | refine blk_alloc ?_ _)); refine blk_put (cs := #[.int .i64 0, .int .i64 0]) ?_ 1 _ rfl; (with_reducible repeat (first | refine blk_drewN ?_ _ | refine blk_drew ?_ | refine blk_alloc ?_ _)); refine blk_put (cs := #[.int .i64 0, .int .i64 0]) ?_ 0 _ rfl; (with_reducible repeat (first | refine blk_drewN ?_ _ | refine blk_drew ?_ | refine blk_alloc ?_ _)); exact BK577.out) Tryz.underlying29 rfl (by kernel_rfl)) rfl ?_
     exact xo (bse HB)

-- NOT PRINTED: function 41 (node_run_judges)

end Go.Proofs.YtcofclkgfandfaaGreat.Print
