-- PRINTED by print.py (a twelfth state) out of the translation. Not trusted: Lean checks it.
import Derived.Test.YtcbjbgleflbpmaaDoorPrint0
import Derived.Test.YtcbjbgleflbpmaaDoorPrint4
import Derived.Test.YtcbjbgleflbpmaaDoorPrint15
import Derived.Test.YtcbjbgleflbpmaaDoorPrint16
namespace Go.Proofs.YtcbjbgleflbpmaaDoor.Print
open Go.RowKit Go.Proofs.YtcbjbgleflbpmaaDoorW.PrintWords Go.Proofs.YtcbjbgleflbpmaaDoorW.PrintLast Go.Proofs.YtcbjbgleflbpmaaDoorW.PrintMore Go.Proofs.YtcbjbgleflbpmaaDoorX
attribute [local go_sem] str_lss str_geq max2_int min2_int max_two min_two max_three min_three max_four min_four   -- for this text's walks alone
set_option linter.unusedVariables false
set_option linter.unusedSimpArgs false

/-! ### event_Read: function 21 -/
/-- event.Read's inner function: a number, if nothing was wrong ahead of it. -/
def event_Read_1.f (k : Nat) (l : List Int) (e p : Int) : Option (Int × Int × Int) := if e = 0 then wire_TakeVary.f k l p else some (0, p, e)
theorem event_Read_1.mono : ∀ a0 a1 a2 k, LeO (event_Read_1.f k a0 a1 a2) (event_Read_1.f (k + 1) a0 a1 a2) := by
 intro a0 a1 a2 k
 unfold event_Read_1.f
 exact LeO.ite (wire_TakeVary.mono _ _ _) (LeO.refl _)
set_option maxHeartbeats 4000000 in
set_option maxRecDepth 100000 in
theorem event_Read_1.calls (k : Nat) (e p n p' e' : Int) (ge gb ga : Nat) (A : Option Addr) (c : Nat) (l : List Int) (w : World)
  (hE : w.heap[ge]? = some (.cells #[.int .i64 e] 24 (0, 0))) (hB : w.heap[gb]? = some (.cells #[.slice A l.length c] 26 (0, 0))) (hP : w.heap[ga]? = some (.cells #[.int .i64 p] 3 (0, 0)))
  (hr : Kd.C (Kd.int .u8) w A l.length l) (hc : l.length ≤ c) (h : event_Read_1.f k l e p = some (n, p', e')) :
  Calls Tryd.prog 44 #[.pointer (some ⟨ge, 0, none⟩), .pointer (some ⟨gb, 0, none⟩), .pointer (some ⟨ga, 0, none⟩)] w fun r w' => r = .returned (.int .u64 n) ∧ w'.heap[ge]? = some (.cells #[.int .i64 e'] 24 (0, 0)) ∧ w'.heap[ga]? = some (.cells #[.int .i64 p'] 3 (0, 0)) ∧ (∀ j, j ≠ ge → j ≠ ga → j < w.heap.size → w'.heap[j]? = w.heap[j]?) ∧ (∀ B, B ≤ ge → B ≤ ga → Below B w w') := by
 unfold event_Read_1.f at h
 have hne : ge ≠ ga := blk_ne hE hP (by decide)
 have he : w.cell? ⟨ge, 0, none⟩ = some (.int .i64 e) := (blk_cell hE 0).trans rfl
 have hb : w.cell? ⟨gb, 0, none⟩ = some (.slice A l.length c) := (blk_cell hB 0).trans rfl
 have ha : w.cell? ⟨ga, 0, none⟩ = some (.int .i64 p) := (blk_cell hP 0).trans rfl
 have HE := Aside0.mk hE
 have HP := Aside0.mk hP
 clear hE hB hP
 by_cases c0 : e = 0
 ·subst c0
  rw [if_pos rfl] at h
  have H := Aside0.mk h
  clear h
  go_enter Tryd.func44, Tryd.ntmps44
  go_wp2_with (first | (go_at_call 45; (refine (wire_TakeVary.calls k A c l p n p' e' _ hr hc H.out).mono ?_); rintro r w1 ⟨rfl, hd⟩; have HD := Aside0.mk hd; have he1 : w1.cell? ⟨ge, 0, none⟩ = some (.int .i64 0) := (blk_cell (blk_below HE.out hd) 0).trans rfl; have fe1 : w1.frozen? ⟨ge, 0, none⟩ = false := blk_frozen (blk_below HE.out hd) 0; have ha1 : w1.cell? ⟨ga, 0, none⟩ = some (.int .i64 p) := (blk_cell (blk_below HP.out hd) 0).trans rfl; have fa1 : w1.frozen? ⟨ga, 0, none⟩ = false := blk_frozen (blk_below HP.out hd) 0; clear hd))
  go_ret
  have le := blk_lt HE.out
  have la := blk_lt HP.out
  refine ⟨rfl, blk_set (blk_far (blk_below HE.out HD.out) hne _) 0 _, blk_far (blk_set (blk_below HP.out HD.out) 0 _) (fun q => hne q.symm) _, fun j h1 h2 h3 => ((Below.heap_setCell _ _ _ j h1).trans (Below.heap_setCell _ _ _ j h2)).trans (HD.out.block j h3), fun B h1 h2 => (((HD.out.mono (by omega)).setCell h2 _).setCell h1 _)⟩
 ·rw [if_neg c0] at h
  simp only [Option.some.injEq, Prod.mk.injEq] at h
  obtain ⟨rfl, rfl, rfl⟩ := h
  go_enter Tryd.func44, Tryd.ntmps44
  go_wp2
  go_ret
  exact ⟨rfl, HE.out, HP.out, fun _ _ _ _ => rfl, fun B _ _ => Below.refl B w⟩

/-- event.Read's inner function: a signed number, if nothing was wrong ahead of it. -/
def event_Read_2.f (k : Nat) (l : List Int) (e p : Int) : Option (Int × Int × Int) := if e = 0 then wire_TakeSign.f k l p else some (0, p, e)
theorem event_Read_2.mono : ∀ a0 a1 a2 k, LeO (event_Read_2.f k a0 a1 a2) (event_Read_2.f (k + 1) a0 a1 a2) := by
 intro a0 a1 a2 k
 unfold event_Read_2.f
 exact LeO.ite (wire_TakeSign.mono _ _ _) (LeO.refl _)
set_option maxHeartbeats 4000000 in
set_option maxRecDepth 100000 in
theorem event_Read_2.calls (k : Nat) (e p n p' e' : Int) (ge gb ga : Nat) (A : Option Addr) (c : Nat) (l : List Int) (w : World)
  (hE : w.heap[ge]? = some (.cells #[.int .i64 e] 24 (0, 0))) (hB : w.heap[gb]? = some (.cells #[.slice A l.length c] 26 (0, 0))) (hP : w.heap[ga]? = some (.cells #[.int .i64 p] 3 (0, 0)))
  (hr : Kd.C (Kd.int .u8) w A l.length l) (hc : l.length ≤ c) (h : event_Read_2.f k l e p = some (n, p', e')) :
  Calls Tryd.prog 46 #[.pointer (some ⟨ge, 0, none⟩), .pointer (some ⟨gb, 0, none⟩), .pointer (some ⟨ga, 0, none⟩)] w fun r w' => r = .returned (.int .i64 n) ∧ w'.heap[ge]? = some (.cells #[.int .i64 e'] 24 (0, 0)) ∧ w'.heap[ga]? = some (.cells #[.int .i64 p'] 3 (0, 0)) ∧ (∀ j, j ≠ ge → j ≠ ga → j < w.heap.size → w'.heap[j]? = w.heap[j]?) ∧ (∀ B, B ≤ ge → B ≤ ga → Below B w w') := by
 unfold event_Read_2.f at h
 have hne : ge ≠ ga := blk_ne hE hP (by decide)
 have he : w.cell? ⟨ge, 0, none⟩ = some (.int .i64 e) := (blk_cell hE 0).trans rfl
 have hb : w.cell? ⟨gb, 0, none⟩ = some (.slice A l.length c) := (blk_cell hB 0).trans rfl
 have ha : w.cell? ⟨ga, 0, none⟩ = some (.int .i64 p) := (blk_cell hP 0).trans rfl
 have HE := Aside0.mk hE
 have HP := Aside0.mk hP
 clear hE hB hP
 by_cases c0 : e = 0
 ·subst c0
  rw [if_pos rfl] at h
  have H := Aside0.mk h
  clear h
  go_enter Tryd.func46, Tryd.ntmps46
  go_wp2_with (first | (go_at_call 47; (refine (wire_TakeSign.calls k A c l p n p' e' _ hr hc H.out).mono ?_); rintro r w1 ⟨rfl, hd⟩; have HD := Aside0.mk hd; have he1 : w1.cell? ⟨ge, 0, none⟩ = some (.int .i64 0) := (blk_cell (blk_below HE.out hd) 0).trans rfl; have fe1 : w1.frozen? ⟨ge, 0, none⟩ = false := blk_frozen (blk_below HE.out hd) 0; have ha1 : w1.cell? ⟨ga, 0, none⟩ = some (.int .i64 p) := (blk_cell (blk_below HP.out hd) 0).trans rfl; have fa1 : w1.frozen? ⟨ga, 0, none⟩ = false := blk_frozen (blk_below HP.out hd) 0; clear hd))
  go_ret
  have le := blk_lt HE.out
  have la := blk_lt HP.out
  refine ⟨rfl, blk_set (blk_far (blk_below HE.out HD.out) hne _) 0 _, blk_far (blk_set (blk_below HP.out HD.out) 0 _) (fun q => hne q.symm) _, fun j h1 h2 h3 => ((Below.heap_setCell _ _ _ j h1).trans (Below.heap_setCell _ _ _ j h2)).trans (HD.out.block j h3), fun B h1 h2 => (((HD.out.mono (by omega)).setCell h2 _).setCell h1 _)⟩
 ·rw [if_neg c0] at h
  simp only [Option.some.injEq, Prod.mk.injEq] at h
  obtain ⟨rfl, rfl, rfl⟩ := h
  go_enter Tryd.func46, Tryd.ntmps46
  go_wp2
  go_ret
  exact ⟨rfl, HE.out, HP.out, fun _ _ _ _ => rfl, fun B _ _ => Below.refl B w⟩

/-- An event read, as the code reads it. -/
def event_Read.f (k : Nat) (l : List Int) (at_ : Int) : Option (Int × Int × Int × Int × Int × Int × Int) := (wire_TakeRecord.f k l at_).bind fun o => if o.2.2.2 = 0 then ((event_Read_1.f k o.2.1 0 0).bind fun a => (event_Read_1.f k o.2.1 a.2.2 a.2.1).bind fun b => (event_Read_2.f k o.2.1 b.2.2 b.2.1).bind fun c => (event_Read_2.f k o.2.1 c.2.2 c.2.1).bind fun d => if d.2.2 = 0 ∧ d.2.1 = (o.2.1.length : Int) ∧ a.1 ≤ 1152921504606846976 ∧ b.1 ≤ 255 then ((event_off.f k (wrap64 a.1) (wrap64 o.1) (wrap64 b.1) c.1 d.1).bind fun q => some (if q = true then (0, 0, 0, 0, 0, 0, 4) else (wrap64 a.1, wrap64 o.1, wrap64 b.1, c.1, d.1, o.2.2.1, 0))) else some (0, 0, 0, 0, 0, 0, 4)) else some (0, 0, 0, 0, 0, 0, o.2.2.2)
theorem event_Read.mono : ∀ a0 a1 k, LeO (event_Read.f k a0 a1) (event_Read.f (k + 1) a0 a1) := by
 intro a0 a1 k
 unfold event_Read.f
 exact LeO.bind (wire_TakeRecord.mono _ _ _) (fun _ => LeO.ite (LeO.bind (event_Read_1.mono _ _ _ _) (fun _ => LeO.bind (event_Read_1.mono _ _ _ _) (fun _ => LeO.bind (event_Read_2.mono _ _ _ _) (fun _ => LeO.bind (event_Read_2.mono _ _ _ _) (fun _ => LeO.ite (LeO.bind (event_off.mono _ _ _ _ _ _) (fun _ => LeO.refl _)) (LeO.refl _)))))) (LeO.refl _))
theorem event_hmf : ∀ (fn : Fn) (first cap : Array Value) (w : World), (Instr.makeFunc fn first cap).run Tryd.prog w = .ok (.func fn first cap) w := fun _ _ _ _ => rfl
/-- How things stand between the inner functions' calls. -/
structure event_St (w wi : World) (gb gs ge ga lo hi : Nat) (A : Option Addr) (c : Nat) (o : List Int) (e p s0 s1 s2 s3 s4 : Int) : Prop where
 bb : wi.heap[gb]? = some (.cells #[.slice A o.length c] 26 (0, 0))
 bs : wi.heap[gs]? = some (.cells #[.int .i64 s0, .int .i64 s1, .int .i64 s2, .int .i64 s3, .int .i64 s4] 30 (0, 0))
 be : wi.heap[ge]? = some (.cells #[.int .i64 e] 24 (0, 0))
 bp : wi.heap[ga]? = some (.cells #[.int .i64 p] 3 (0, 0))
 rd : Kd.R (Kd.int .u8) 5 wi lo (fun k => lo ≤ k ∧ k < hi) (.slice A o.length c) o
 bel : Below w.heap.size w wi
 gs_ : w.heap.size ≤ gs ∧ gs < lo
 ge_ : w.heap.size ≤ ge ∧ hi ≤ ge
 ga_ : w.heap.size ≤ ga ∧ hi ≤ ga
 gb_ : w.heap.size ≤ gb ∧ hi ≤ gb
section
variable {w wi : World} {gb gs ge ga lo hi : Nat} {A : Option Addr} {c : Nat} {o : List Int} {e p s0 s1 s2 s3 s4 : Int}
theorem event_St.nes (h : event_St w wi gb gs ge ga lo hi A c o e p s0 s1 s2 s3 s4) : gb ≠ gs ∧ gb ≠ ge ∧ gb ≠ ga ∧ gs ≠ ge ∧ gs ≠ ga ∧ ge ≠ ga ∧ gs ≠ gb ∧ ge ≠ gb ∧ ga ≠ gb ∧ ge ≠ gs ∧ ga ≠ gs ∧ ga ≠ ge := by
 have a := blk_ne h.bb h.bs (by decide)
 have b := blk_ne h.bb h.be (by decide)
 have c := blk_ne h.bb h.bp (by decide)
 have d := blk_ne h.bs h.be (by decide)
 have e := blk_ne h.bs h.bp (by decide)
 have f := blk_ne h.be h.bp (by decide)
 exact ⟨a, b, c, d, e, f, a.symm, b.symm, c.symm, d.symm, e.symm, f.symm⟩
theorem event_St.cells (h : event_St w wi gb gs ge ga lo hi A c o e p s0 s1 s2 s3 s4) : wi.cell? ⟨gb, 0, none⟩ = some (.slice A o.length c) ∧ wi.cell? ⟨ge, 0, none⟩ = some (.int .i64 e) ∧ wi.cell? ⟨ga, 0, none⟩ = some (.int .i64 p) ∧ wi.frozen? ⟨ge, 0, none⟩ = false ∧ wi.frozen? ⟨ga, 0, none⟩ = false :=
 ⟨(blk_cell h.bb 0).trans rfl, (blk_cell h.be 0).trans rfl, (blk_cell h.bp 0).trans rfl, blk_frozen h.be 0, blk_frozen h.bp 0⟩
theorem event_St.fields (h : event_St w wi gb gs ge ga lo hi A c o e p s0 s1 s2 s3 s4) : (wi.cell? ⟨gs, 0, none⟩ = some (.int .i64 s0) ∧ wi.cell? ⟨gs, 1, none⟩ = some (.int .i64 s1) ∧ wi.cell? ⟨gs, 2, none⟩ = some (.int .i64 s2) ∧ wi.cell? ⟨gs, 3, none⟩ = some (.int .i64 s3) ∧ wi.cell? ⟨gs, 4, none⟩ = some (.int .i64 s4)) ∧ (wi.frozen? ⟨gs, 0, none⟩ = false ∧ wi.frozen? ⟨gs, 1, none⟩ = false ∧ wi.frozen? ⟨gs, 2, none⟩ = false ∧ wi.frozen? ⟨gs, 3, none⟩ = false ∧ wi.frozen? ⟨gs, 4, none⟩ = false) :=
 ⟨⟨(blk_cell h.bs 0).trans rfl, (blk_cell h.bs 1).trans rfl, (blk_cell h.bs 2).trans rfl, (blk_cell h.bs 3).trans rfl, (blk_cell h.bs 4).trans rfl⟩, blk_frozen h.bs 0, blk_frozen h.bs 1, blk_frozen h.bs 2, blk_frozen h.bs 3, blk_frozen h.bs 4⟩
theorem event_St.rdC (h : event_St w wi gb gs ge ga lo hi A c o e p s0 s1 s2 s3 s4) : Kd.C (Kd.int .u8) wi A o.length o ∧ o.length ≤ c := by
 have := Kd.R_reads' h.rd
 exact ⟨this.2.2, this.2.1⟩
theorem event_St.called {wj : World} (h : event_St w wi gb gs ge ga lo hi A c o e p s0 s1 s2 s3 s4) (hb : Below wi.heap.size wi wj) : event_St w wj gb gs ge ga lo hi A c o e p s0 s1 s2 s3 s4 :=
 ⟨blk_below h.bb hb, blk_below h.bs hb, blk_below h.be hb, blk_below h.bp hb, Kd.R_below h.rd hb, below_step h.bel hb, h.gs_, h.ge_, h.ga_, h.gb_⟩
theorem event_St.innerd {wj : World} {e' p' : Int} (h : event_St w wi gb gs ge ga lo hi A c o e p s0 s1 s2 s3 s4) (he : wj.heap[ge]? = some (.cells #[.int .i64 e'] 24 (0, 0))) (hp : wj.heap[ga]? = some (.cells #[.int .i64 p'] 3 (0, 0)))
  (hk : ∀ j, j ≠ ge → j ≠ ga → j < wi.heap.size → wj.heap[j]? = wi.heap[j]?) (hb : ∀ B, B ≤ ge → B ≤ ga → Below B wi wj) : event_St w wj gb gs ge ga lo hi A c o e' p' s0 s1 s2 s3 s4 := by
 obtain ⟨n1, n2, n3, n4, n5, n6, _⟩ := h.nes
 exact ⟨(hk gb n2 n3 (blk_lt h.bb)).trans h.bb, (hk gs n4 n5 (blk_lt h.bs)).trans h.bs, he, hp, Kd.R_step h.rd (fun k ho hl => hk k (by have := h.ge_; omega) (by have := h.ga_; omega) hl), h.bel.trans (hb _ h.ge_.1 h.ga_.1), h.gs_, h.ge_, h.ga_, h.gb_⟩
theorem event_St.setP (h : event_St w wi gb gs ge ga lo hi A c o e p s0 s1 s2 s3 s4) (v : Int) : event_St w (wi.setCell ⟨ga, 0, none⟩ (.int .i64 v)) gb gs ge ga lo hi A c o e v s0 s1 s2 s3 s4 := by
 obtain ⟨n1, n2, n3, n4, n5, n6, _⟩ := h.nes
 exact ⟨blk_far h.bb n3 _, blk_far h.bs n5 _, blk_far h.be n6 _, blk_set h.bp 0 _, Kd.R_far h.rd (fun k hk => by have := h.ga_; show k ≠ ga; omega) _, h.bel.setCell h.ga_.1 _, h.gs_, h.ge_, h.ga_, h.gb_⟩

theorem event_St.set0 (h : event_St w wi gb gs ge ga lo hi A c o e p s0 s1 s2 s3 s4) (v : Int) : event_St w (wi.setCell ⟨gs, 0, none⟩ (.int .i64 v)) gb gs ge ga lo hi A c o e p v s1 s2 s3 s4 := by
 obtain ⟨n1, n2, n3, n4, n5, n6, _⟩ := h.nes
 exact ⟨blk_far h.bb n1 _, blk_set h.bs 0 _, blk_far h.be n4.symm _, blk_far h.bp n5.symm _, Kd.R_far h.rd (fun k hk => by have := h.gs_; show k ≠ gs; omega) _, h.bel.setCell h.gs_.1 _, h.gs_, h.ge_, h.ga_, h.gb_⟩
theorem event_St.set1 (h : event_St w wi gb gs ge ga lo hi A c o e p s0 s1 s2 s3 s4) (v : Int) : event_St w (wi.setCell ⟨gs, 1, none⟩ (.int .i64 v)) gb gs ge ga lo hi A c o e p s0 v s2 s3 s4 := by
 obtain ⟨n1, n2, n3, n4, n5, n6, _⟩ := h.nes
 exact ⟨blk_far h.bb n1 _, blk_set h.bs 1 _, blk_far h.be n4.symm _, blk_far h.bp n5.symm _, Kd.R_far h.rd (fun k hk => by have := h.gs_; show k ≠ gs; omega) _, h.bel.setCell h.gs_.1 _, h.gs_, h.ge_, h.ga_, h.gb_⟩
theorem event_St.set2 (h : event_St w wi gb gs ge ga lo hi A c o e p s0 s1 s2 s3 s4) (v : Int) : event_St w (wi.setCell ⟨gs, 2, none⟩ (.int .i64 v)) gb gs ge ga lo hi A c o e p s0 s1 v s3 s4 := by
 obtain ⟨n1, n2, n3, n4, n5, n6, _⟩ := h.nes
 exact ⟨blk_far h.bb n1 _, blk_set h.bs 2 _, blk_far h.be n4.symm _, blk_far h.bp n5.symm _, Kd.R_far h.rd (fun k hk => by have := h.gs_; show k ≠ gs; omega) _, h.bel.setCell h.gs_.1 _, h.gs_, h.ge_, h.ga_, h.gb_⟩
theorem event_St.set3 (h : event_St w wi gb gs ge ga lo hi A c o e p s0 s1 s2 s3 s4) (v : Int) : event_St w (wi.setCell ⟨gs, 3, none⟩ (.int .i64 v)) gb gs ge ga lo hi A c o e p s0 s1 s2 v s4 := by
 obtain ⟨n1, n2, n3, n4, n5, n6, _⟩ := h.nes
 exact ⟨blk_far h.bb n1 _, blk_set h.bs 3 _, blk_far h.be n4.symm _, blk_far h.bp n5.symm _, Kd.R_far h.rd (fun k hk => by have := h.gs_; show k ≠ gs; omega) _, h.bel.setCell h.gs_.1 _, h.gs_, h.ge_, h.ga_, h.gb_⟩
theorem event_St.set4 (h : event_St w wi gb gs ge ga lo hi A c o e p s0 s1 s2 s3 s4) (v : Int) : event_St w (wi.setCell ⟨gs, 4, none⟩ (.int .i64 v)) gb gs ge ga lo hi A c o e p s0 s1 s2 s3 v := by
 obtain ⟨n1, n2, n3, n4, n5, n6, _⟩ := h.nes
 exact ⟨blk_far h.bb n1 _, blk_set h.bs 4 _, blk_far h.be n4.symm _, blk_far h.bp n5.symm _, Kd.R_far h.rd (fun k hk => by have := h.gs_; show k ≠ gs; omega) _, h.bel.setCell h.gs_.1 _, h.gs_, h.ge_, h.ga_, h.gb_⟩
end
theorem event_first {w w1 w2 w3 w4 w5 : World} {gb gs ge ga : Nat} {A1 : Option Addr} {c2 : Nat} {o : List Int} (HB1 : Below w.heap.size w w1) (HB2 : Below w1.heap.size w1 w2) (HB3 : Below w2.heap.size w2 w3) (HB4 : Below w3.heap.size w3 w4) (e1 : gs = w.heap.size) (e2 : gb = w2.heap.size) (e3 : ge = w3.heap.size) (e4 : ga = ((w4.setCell ⟨gb, 0, none⟩ (.slice A1 o.length c2)).setCell ⟨ge, 0, none⟩ (.int .i64 0)).heap.size)
  (BB : w4.heap[gb]? = some (.cells #[.slice none 0 0] 26 (0, 0))) (BS : w4.heap[gs]? = some (.cells #[.int .i64 0, .int .i64 0, .int .i64 0, .int .i64 0, .int .i64 0] 30 (0, 0))) (BE : w4.heap[ge]? = some (.cells #[.int .i64 0] 24 (0, 0))) (BP : w5.heap[ga]? = some (.cells #[.int .i64 0] 3 (0, 0)))
  (HO : Kd.R (Kd.int .u8) 5 w2 w1.heap.size (fun _ => True) (.slice A1 o.length c2) o) (hs : gs < w1.heap.size) (HB5 : Below ((w4.setCell ⟨gb, 0, none⟩ (.slice A1 o.length c2)).setCell ⟨ge, 0, none⟩ (.int .i64 0)).heap.size ((w4.setCell ⟨gb, 0, none⟩ (.slice A1 o.length c2)).setCell ⟨ge, 0, none⟩ (.int .i64 0)) w5) : event_St w w5 gb gs ge ga w1.heap.size w2.heap.size A1 c2 o 0 0 0 0 0 0 0 := by
 have n1 : ge ≠ gb := blk_ne BE BB (by decide)
 have n2 : ge ≠ gs := blk_ne BE BS (by decide)
 have n3 : gb ≠ gs := blk_ne BB BS (by decide)
 have z1 := HB1.size
 have z2 := HB2.size
 have z3 := HB3.size
 have z4 := HB4.size
 have hsz : ((w4.setCell ⟨gb, 0, none⟩ (.slice A1 o.length c2)).setCell ⟨ge, 0, none⟩ (.int .i64 0)).heap.size = w4.heap.size := by simp [World.setCell]
 rw [hsz] at e4
 have hb := (((below_step (below_step (below_step HB1 HB2) HB3) HB4).setCell (p := ⟨gb, 0, none⟩) (by show w.heap.size ≤ gb; omega) (.slice A1 o.length c2)).setCell (p := ⟨ge, 0, none⟩) (by show w.heap.size ≤ ge; omega) (.int .i64 0))
 have rd : Kd.R (Kd.int .u8) 5 w2 w1.heap.size (fun k => w1.heap.size ≤ k ∧ k < w2.heap.size) (.slice A1 o.length c2) o := Kd.R_mono (Kd.R_bound HO) (fun k hk => ⟨hk.2.1, hk.2.2.1⟩)
 exact ⟨blk_below (blk_far (blk_set BB 0 _) n1.symm _) HB5, blk_below (blk_far (blk_far BS n3.symm _) n2.symm _) HB5, blk_below (blk_set (blk_far BE n1 _) 0 _) HB5, BP, Kd.R_below (Kd.R_far (Kd.R_far (Kd.R_below (Kd.R_below rd HB3) HB4) (fun k hk => by show k ≠ gb; omega) _) (fun k hk => by show k ≠ ge; omega) _) HB5, below_step hb HB5, by omega, by omega, by omega, by omega⟩
set_option maxHeartbeats 8000000 in
set_option maxRecDepth 100000 in
theorem event_Read.calls (k : Nat) (A0 : Option Addr) (c0 : Nat) (l0 : List Int) (a1 : Int) (r1 r2 r3 r4 r5 r6 r7 : Int) (w : World) (hr0 : Kd.C (Kd.int .u8) w A0 l0.length l0) (hc0 : l0.length ≤ c0) (h : event_Read.f k l0 a1 = some (r1, r2, r3, r4, r5, r6, r7)) :
  Calls Tryd.prog 21 #[.slice A0 l0.length c0, .int .i64 a1] w fun e w' => e = .returned (.tuple #[.agg #[.int .i64 r1, .int .i64 r2, .int .i64 r3, .int .i64 r4, .int .i64 r5], .int .i64 r6, .int .i64 r7]) ∧ Below w.heap.size w w' := by
 have hmf := event_hmf
 unfold event_Read.f at h
 replace h := Option.bind_eq_some_iff.mp h
 obtain ⟨⟨kd, o, nx, e0⟩, h1, h⟩ := h
 have H1 := Aside0.mk h1
 clear h1
 have HR := Aside0.mk hr0
 have HC := Aside0.mk hc0
 clear hr0 hc0
 by_cases c1 : e0 = 0
 ·subst c1
  rw [if_pos rfl] at h
  replace h := Option.bind_eq_some_iff.mp h
  obtain ⟨⟨n1, p1, e1⟩, f1, h⟩ := h
  replace h := Option.bind_eq_some_iff.mp h
  obtain ⟨⟨n2, p2, e2⟩, f2, h⟩ := h
  replace h := Option.bind_eq_some_iff.mp h
  obtain ⟨⟨n3, p3, e3⟩, f3, h⟩ := h
  replace h := Option.bind_eq_some_iff.mp h
  obtain ⟨⟨n4, p4, e4⟩, f4, h⟩ := h
  have F1 := Aside0.mk f1
  have F2 := Aside0.mk f2
  have F3 := Aside0.mk f3
  have F4 := Aside0.mk f4
  clear f1 f2 f3 f4
  simp only at h
  have HH := Aside0.mk h
  clear h
  go_enter Tryd.func21, Tryd.ntmps21
  go_upto_region 7 with (first
   | ((with_reducible refine gate_dst (N := 4) rfl ?_); refine box_event ?hg (N := 4) ?hd (cs := #[.int .i64 0, .int .i64 0, .int .i64 0, .int .i64 0, .int .i64 0]) (t := 30) ?hr ?_; (case hd => rfl); (case hg => rfl); (case hr => first | (go_simp; done) | (go_simp; rfl)); intro gs hgs w1 hbox hb1; have BS := Aside0.mk hbox; have HB1 := Aside0.mk hb1; have HGS := Aside0.mk hgs; clear hbox hb1 hgs)
   | (go_at_call 43; (refine (wire_TakeRecord.calls k A0 c0 l0 a1 kd o nx 0 _ (Kd.C_below HR.out HB1.out) HC.out H1.out).mono ?_); rintro r w2 ⟨v, rfl, ho, hb2⟩; obtain ⟨A1, c2, ev⟩ := Kd.R_slice ho; subst ev; have HO := Aside0.mk ho; have HB2 := Aside0.mk hb2; have BS2 := Aside0.mk (blk_below BS.out hb2); clear ho hb2)
   | ((with_reducible refine gate_dst (N := 8) rfl ?_); refine box_event ?hg (N := 8) ?hd (cs := #[.slice none 0 0]) (t := 26) ?hr ?_; (case hd => rfl); (case hg => rfl); (case hr => first | (go_simp; done) | (go_simp; rfl)); intro gb hgb w3 hbox hb3; have BB3 := Aside0.mk hbox; have HB3 := Aside0.mk hb3; have HGB := Aside0.mk hgb; have BS3 := Aside0.mk (blk_below BS2.out hb3); clear hbox hb3 hgb)
   | ((with_reducible refine gate_dst (N := 9) rfl ?_); refine box_event ?hg (N := 9) ?hd (cs := #[.int .i64 0]) (t := 24) ?hr ?_; (case hd => rfl); (case hg => rfl); (case hr => first | (go_simp; done) | (go_simp; rfl)); intro ge hge w4 hbox hb4; have BE := Aside0.mk hbox; have HB4 := Aside0.mk hb4; have HGE := Aside0.mk hge; have BB4 := Aside0.mk (blk_below BB3.out hb4); have BS4 := Aside0.mk (blk_below BS3.out hb4); have cb4 : w4.cell? ⟨gb, 0, none⟩ = some (.slice none 0 0) := (blk_cell BB4.out 0).trans rfl; have fb4 : w4.frozen? ⟨gb, 0, none⟩ = false := blk_frozen BB4.out 0; have ce4 : w4.cell? ⟨ge, 0, none⟩ = some (.int .i64 0) := (blk_cell hbox 0).trans rfl; have fe4 : w4.frozen? ⟨ge, 0, none⟩ = false := blk_frozen hbox 0; have s0 : w4.cell? ⟨gs, 0, none⟩ = some (.int .i64 0) := (blk_cell BS4.out 0).trans rfl; have q0 : w4.frozen? ⟨gs, 0, none⟩ = false := blk_frozen BS4.out 0; have s1 : w4.cell? ⟨gs, 1, none⟩ = some (.int .i64 0) := (blk_cell BS4.out 1).trans rfl; have q1 : w4.frozen? ⟨gs, 1, none⟩ = false := blk_frozen BS4.out 1; have s2 : w4.cell? ⟨gs, 2, none⟩ = some (.int .i64 0) := (blk_cell BS4.out 2).trans rfl; have q2 : w4.frozen? ⟨gs, 2, none⟩ = false := blk_frozen BS4.out 2; have s3 : w4.cell? ⟨gs, 3, none⟩ = some (.int .i64 0) := (blk_cell BS4.out 3).trans rfl; have q3 : w4.frozen? ⟨gs, 3, none⟩ = false := blk_frozen BS4.out 3; have s4 : w4.cell? ⟨gs, 4, none⟩ = some (.int .i64 0) := (blk_cell BS4.out 4).trans rfl; have q4 : w4.frozen? ⟨gs, 4, none⟩ = false := blk_frozen BS4.out 4; have n1 : ge ≠ gb := blk_ne hbox BB4.out (by decide); have n2 : ge ≠ gs := blk_ne hbox BS4.out (by decide); have n3 : gb ≠ gs := blk_ne BB4.out BS4.out (by decide); clear hbox hb4 hge)
   | ((with_reducible refine gate_dst (N := 10) rfl ?_); refine box_event ?hg (N := 10) ?hd (cs := #[.int .i64 0]) (t := 3) ?hr ?_; (case hd => rfl); (case hg => rfl); (case hr => first | (go_simp; done) | (go_simp; rfl)); intro ga hga w5 hbox hb5; have S5 := Aside0.mk (event_first HB1.out HB2.out HB3.out HB4.out HGS.out HGB.out HGE.out hga BB4.out BS4.out BE.out hbox HO.out (blk_lt BS.out) hb5); obtain ⟨z1, z2, z3, z4, z5, z6, z7, z8, z9, z10, z11, z12⟩ := S5.out.nes; obtain ⟨m0, m1, m2, m3, m4⟩ := S5.out.cells; obtain ⟨⟨x0, x1, x2, x3, x4⟩, y0, y1, y2, y3, y4⟩ := S5.out.fields; clear hbox hb5 hga cb4 fb4 ce4 fe4 s0 q0 s1 q1 s2 q2 s3 q3 s4 q4 n1 n2 n3)
   | fail)
  clear BS HB1 HGS HO HB2 BS2 BB3 HB3 HGB BS3 BE HB4 HGE BB4 BS4 HR HC H1
  go_upto_region 8 with (first
   | (go_at_call 44; (refine (event_Read_1.calls k 0 0 n1 p1 e1 ge gb ga A1 c2 o _ (S5.out.setP 0).be (S5.out.setP 0).bb (S5.out.setP 0).bp (S5.out.setP 0).rdC.1 (S5.out.setP 0).rdC.2 F1.out).mono ?_); rintro r w6 ⟨rfl, he, hp, hk, hb⟩; have S6 := Aside0.mk ((S5.out.setP 0).innerd he hp hk hb); clear he hp hk hb; clear m0 m1 m2 m3 m4 x0 x1 x2 x3 x4 y0 y1 y2 y3 y4; obtain ⟨m0, m1, m2, m3, m4⟩ := S6.out.cells; obtain ⟨⟨x0, x1, x2, x3, x4⟩, y0, y1, y2, y3, y4⟩ := S6.out.fields)
   | fail)
  clear S5
  go_upto_region 9 with (first
   | (go_at_call 44; (refine (event_Read_1.calls k e1 p1 n2 p2 e2 ge gb ga A1 c2 o _ (S6.out).be (S6.out).bb (S6.out).bp (S6.out).rdC.1 (S6.out).rdC.2 F2.out).mono ?_); rintro r w7 ⟨rfl, he, hp, hk, hb⟩; have S7 := Aside0.mk ((S6.out).innerd he hp hk hb); clear he hp hk hb; clear m0 m1 m2 m3 m4 x0 x1 x2 x3 x4 y0 y1 y2 y3 y4; obtain ⟨m0, m1, m2, m3, m4⟩ := S7.out.cells; obtain ⟨⟨x0, x1, x2, x3, x4⟩, y0, y1, y2, y3, y4⟩ := S7.out.fields)
   | fail)
  clear S6
  go_upto_region 10 with (first
   | (go_at_call 46; (refine (event_Read_2.calls k e2 p2 n3 p3 e3 ge gb ga A1 c2 o _ (S7.out).be (S7.out).bb (S7.out).bp (S7.out).rdC.1 (S7.out).rdC.2 F3.out).mono ?_); rintro r w8 ⟨rfl, he, hp, hk, hb⟩; have S8 := Aside0.mk ((S7.out).innerd he hp hk hb); clear he hp hk hb; clear m0 m1 m2 m3 m4 x0 x1 x2 x3 x4 y0 y1 y2 y3 y4; obtain ⟨m0, m1, m2, m3, m4⟩ := S8.out.cells; obtain ⟨⟨x0, x1, x2, x3, x4⟩, y0, y1, y2, y3, y4⟩ := S8.out.fields)
   | fail)
  clear S7
  go_upto_region 11 with (first
   | (go_at_call 46; (refine (event_Read_2.calls k e3 p3 n4 p4 e4 ge gb ga A1 c2 o _ (S8.out.set3 n3).be (S8.out.set3 n3).bb (S8.out.set3 n3).bp (S8.out.set3 n3).rdC.1 (S8.out.set3 n3).rdC.2 F4.out).mono ?_); rintro r w9 ⟨rfl, he, hp, hk, hb⟩; have S9 := Aside0.mk ((S8.out.set3 n3).innerd he hp hk hb); clear he hp hk hb; clear m0 m1 m2 m3 m4 x0 x1 x2 x3 x4 y0 y1 y2 y3 y4; obtain ⟨m0, m1, m2, m3, m4⟩ := S9.out.cells; obtain ⟨⟨x0, x1, x2, x3, x4⟩, y0, y1, y2, y3, y4⟩ := S9.out.fields)
   | fail)
  clear S8
  have h := HH.out
  clear HH
  by_cases d1 : e4 = 0
  ·have d1b : (e4 != 0) = false := bne_eq_false_iff_eq.mpr d1
   by_cases d2 : p4 = (o.length : Int)
   ·have d2b : (p4 != (o.length : Int)) = false := bne_eq_false_iff_eq.mpr d2
    by_cases d3 : n1 > 1152921504606846976
    ·have d3b : decide (n1 > 1152921504606846976) = true := decide_eq_true d3
     rw [if_neg (fun q => absurd q.2.2.1 (by omega))] at h
     clear d1 d2
     simp only [Option.some.injEq, Prod.mk.injEq] at h
     obtain ⟨rfl, rfl, rfl, rfl, rfl, rfl, rfl⟩ := h
     go_wp2_with (first
      | fail)
     refine bodyPost_ret (results_ctt rfl _ _ gs 30 #[.int .i64 0, .int .i64 0, .int .i64 0, .int .i64 0, .int .i64 0] (0, 0) _ rfl ((((((S9.out.set4 n4).set0 0).set1 0).set2 0).set3 0).set4 0).bs Tryd.underlying30 rfl (by kernel_rfl)) rfl ?_
     exact ⟨rfl, ((((((S9.out.set4 n4).set0 0).set1 0).set2 0).set3 0).set4 0).bel⟩
    ·have d3b : decide (n1 > 1152921504606846976) = false := decide_eq_false d3
     by_cases d4 : n2 > 255
     ·have d4b : decide (n2 > 255) = true := decide_eq_true d4
      rw [if_neg (fun q => absurd q.2.2.2 (by omega))] at h
      clear d1 d2
      simp only [Option.some.injEq, Prod.mk.injEq] at h
      obtain ⟨rfl, rfl, rfl, rfl, rfl, rfl, rfl⟩ := h
      go_wp2_with (first
       | fail)
      refine bodyPost_ret (results_ctt rfl _ _ gs 30 #[.int .i64 0, .int .i64 0, .int .i64 0, .int .i64 0, .int .i64 0] (0, 0) _ rfl ((((((S9.out.set4 n4).set0 0).set1 0).set2 0).set3 0).set4 0).bs Tryd.underlying30 rfl (by kernel_rfl)) rfl ?_
      exact ⟨rfl, ((((((S9.out.set4 n4).set0 0).set1 0).set2 0).set3 0).set4 0).bel⟩
     ·have d4b : decide (n2 > 255) = false := decide_eq_false d4
      rw [if_pos ⟨d1, d2, by omega, by omega⟩] at h
      clear d1 d2
      replace h := Option.bind_eq_some_iff.mp h
      obtain ⟨q, fq, h⟩ := h
      have FQ := Aside0.mk fq
      clear fq
      cases q
      ·rw [if_neg (by decide)] at h
       simp only [Option.some.injEq, Prod.mk.injEq] at h
       obtain ⟨rfl, rfl, rfl, rfl, rfl, rfl, rfl⟩ := h
       go_wp2_with (first
        | (go_at_call 31; (refine (event_off.calls k _ _ _ _ _ false _ FQ.out).mono ?_); rintro r w10 ⟨rfl, hb⟩; have S10 := Aside0.mk (((((S9.out.set4 n4).set0 (wrap64 n1)).set2 (wrap64 n2)).set1 (wrap64 kd)).called hb); clear hb; clear m0 m1 m2 m3 m4 x0 x1 x2 x3 x4 y0 y1 y2 y3 y4; obtain ⟨m0, m1, m2, m3, m4⟩ := S10.out.cells; obtain ⟨⟨x0, x1, x2, x3, x4⟩, y0, y1, y2, y3, y4⟩ := S10.out.fields)
        | fail)
       refine bodyPost_ret (results_ctt rfl _ _ gs 30 #[.int .i64 (wrap64 n1), .int .i64 (wrap64 kd), .int .i64 (wrap64 n2), .int .i64 n3, .int .i64 n4] (0, 0) _ rfl (((((S10.out.set0 (wrap64 n1)).set1 (wrap64 kd)).set2 (wrap64 n2)).set3 n3).set4 n4).bs Tryd.underlying30 rfl (by kernel_rfl)) rfl ?_
       exact ⟨rfl, (((((S10.out.set0 (wrap64 n1)).set1 (wrap64 kd)).set2 (wrap64 n2)).set3 n3).set4 n4).bel⟩
      ·rw [if_pos rfl] at h
       simp only [Option.some.injEq, Prod.mk.injEq] at h
       obtain ⟨rfl, rfl, rfl, rfl, rfl, rfl, rfl⟩ := h
       go_wp2_with (first
        | (go_at_call 31; (refine (event_off.calls k _ _ _ _ _ true _ FQ.out).mono ?_); rintro r w10 ⟨rfl, hb⟩; have S10 := Aside0.mk (((((S9.out.set4 n4).set0 (wrap64 n1)).set2 (wrap64 n2)).set1 (wrap64 kd)).called hb); clear hb; clear m0 m1 m2 m3 m4 x0 x1 x2 x3 x4 y0 y1 y2 y3 y4; obtain ⟨m0, m1, m2, m3, m4⟩ := S10.out.cells; obtain ⟨⟨x0, x1, x2, x3, x4⟩, y0, y1, y2, y3, y4⟩ := S10.out.fields)
        | fail)
       refine bodyPost_ret (results_ctt rfl _ _ gs 30 #[.int .i64 0, .int .i64 0, .int .i64 0, .int .i64 0, .int .i64 0] (0, 0) _ rfl ((((((S10.out).set0 0).set1 0).set2 0).set3 0).set4 0).bs Tryd.underlying30 rfl (by kernel_rfl)) rfl ?_
       exact ⟨rfl, ((((((S10.out).set0 0).set1 0).set2 0).set3 0).set4 0).bel⟩
   ·have d2b : (p4 != (o.length : Int)) = true := bne_iff_ne.mpr d2
    rw [if_neg (fun q => d2 q.2.1)] at h
    clear d1 d2
    simp only [Option.some.injEq, Prod.mk.injEq] at h
    obtain ⟨rfl, rfl, rfl, rfl, rfl, rfl, rfl⟩ := h
    go_wp2_with (first
     | fail)
    refine bodyPost_ret (results_ctt rfl _ _ gs 30 #[.int .i64 0, .int .i64 0, .int .i64 0, .int .i64 0, .int .i64 0] (0, 0) _ rfl ((((((S9.out.set4 n4).set0 0).set1 0).set2 0).set3 0).set4 0).bs Tryd.underlying30 rfl (by kernel_rfl)) rfl ?_
    exact ⟨rfl, ((((((S9.out.set4 n4).set0 0).set1 0).set2 0).set3 0).set4 0).bel⟩
  ·have d1b : (e4 != 0) = true := bne_iff_ne.mpr d1
   rw [if_neg (fun q => d1 q.1)] at h
   clear d1
   simp only [Option.some.injEq, Prod.mk.injEq] at h
   obtain ⟨rfl, rfl, rfl, rfl, rfl, rfl, rfl⟩ := h
   go_wp2_with (first
    | fail)
   refine bodyPost_ret (results_ctt rfl _ _ gs 30 #[.int .i64 0, .int .i64 0, .int .i64 0, .int .i64 0, .int .i64 0] (0, 0) _ rfl ((((((S9.out.set4 n4).set0 0).set1 0).set2 0).set3 0).set4 0).bs Tryd.underlying30 rfl (by kernel_rfl)) rfl ?_
   exact ⟨rfl, ((((((S9.out.set4 n4).set0 0).set1 0).set2 0).set3 0).set4 0).bel⟩
 ·have c1b : (e0 != 0) = true := bne_iff_ne.mpr c1
  rw [if_neg c1] at h
  simp only [Option.some.injEq, Prod.mk.injEq] at h
  obtain ⟨rfl, rfl, rfl, rfl, rfl, rfl, rfl⟩ := h
  go_enter Tryd.func21, Tryd.ntmps21
  go_wp2_with (first
   | ((with_reducible refine gate_dst (N := 4) rfl ?_); refine box_event ?hg (N := 4) ?hd (cs := #[.int .i64 0, .int .i64 0, .int .i64 0, .int .i64 0, .int .i64 0]) (t := 30) ?hr ?_; (case hd => rfl); (case hg => rfl); (case hr => first | (go_simp; done) | (go_simp; rfl)); intro gs hgs w1 hbox hb1; have BS := Aside0.mk hbox; have HB1 := Aside0.mk hb1; have HGS := Aside0.mk hgs; clear hbox hb1 hgs)
   | (go_at_call 43; (refine (wire_TakeRecord.calls k A0 c0 l0 a1 kd o nx e0 _ (Kd.C_below HR.out HB1.out) HC.out H1.out).mono ?_); rintro r w2 ⟨v, rfl, ho, hb2⟩; obtain ⟨A1, c2, ev⟩ := Kd.R_slice ho; subst ev; have HO := Aside0.mk ho; have HB2 := Aside0.mk hb2; have BS2 := Aside0.mk (blk_below BS.out hb2); clear ho hb2)
   | ((with_reducible refine gate_dst (N := 8) rfl ?_); refine box_event ?hg (N := 8) ?hd (cs := #[.slice none 0 0]) (t := 26) ?hr ?_; (case hd => rfl); (case hg => rfl); (case hr => first | (go_simp; done) | (go_simp; rfl)); intro gb hgb w3 hbox hb3; have BB3 := Aside0.mk hbox; have HB3 := Aside0.mk hb3; have HGB := Aside0.mk hgb; have BS3 := Aside0.mk (blk_below BS2.out hb3); clear hbox hb3 hgb)
   | ((with_reducible refine gate_dst (N := 9) rfl ?_); refine box_event ?hg (N := 9) ?hd (cs := #[.int .i64 0]) (t := 24) ?hr ?_; (case hd => rfl); (case hg => rfl); (case hr => first | (go_simp; done) | (go_simp; rfl)); intro ge hge w4 hbox hb4; have BE := Aside0.mk hbox; have HB4 := Aside0.mk hb4; have HGE := Aside0.mk hge; have BB4 := Aside0.mk (blk_below BB3.out hb4); have BS4 := Aside0.mk (blk_below BS3.out hb4); have cb4 : w4.cell? ⟨gb, 0, none⟩ = some (.slice none 0 0) := (blk_cell BB4.out 0).trans rfl; have fb4 : w4.frozen? ⟨gb, 0, none⟩ = false := blk_frozen BB4.out 0; have ce4 : w4.cell? ⟨ge, 0, none⟩ = some (.int .i64 0) := (blk_cell hbox 0).trans rfl; have fe4 : w4.frozen? ⟨ge, 0, none⟩ = false := blk_frozen hbox 0; have s0 : w4.cell? ⟨gs, 0, none⟩ = some (.int .i64 0) := (blk_cell BS4.out 0).trans rfl; have q0 : w4.frozen? ⟨gs, 0, none⟩ = false := blk_frozen BS4.out 0; have s1 : w4.cell? ⟨gs, 1, none⟩ = some (.int .i64 0) := (blk_cell BS4.out 1).trans rfl; have q1 : w4.frozen? ⟨gs, 1, none⟩ = false := blk_frozen BS4.out 1; have s2 : w4.cell? ⟨gs, 2, none⟩ = some (.int .i64 0) := (blk_cell BS4.out 2).trans rfl; have q2 : w4.frozen? ⟨gs, 2, none⟩ = false := blk_frozen BS4.out 2; have s3 : w4.cell? ⟨gs, 3, none⟩ = some (.int .i64 0) := (blk_cell BS4.out 3).trans rfl; have q3 : w4.frozen? ⟨gs, 3, none⟩ = false := blk_frozen BS4.out 3; have s4 : w4.cell? ⟨gs, 4, none⟩ = some (.int .i64 0) := (blk_cell BS4.out 4).trans rfl; have q4 : w4.frozen? ⟨gs, 4, none⟩ = false := blk_frozen BS4.out 4; have n1 : ge ≠ gb := blk_ne hbox BB4.out (by decide); have n2 : ge ≠ gs := blk_ne hbox BS4.out (by decide); have n3 : gb ≠ gs := blk_ne BB4.out BS4.out (by decide); clear hbox hb4 hge)
   | fail)
  go_region
  all_goals (try go_wp2)
  refine bodyPost_ret (results_ctt rfl _ _ gs 30 #[.int .i64 0, .int .i64 0, .int .i64 0, .int .i64 0, .int .i64 0] (0, 0) _ rfl (by (with_reducible repeat (first | refine blk_drewN ?_ _ | refine blk_drew ?_)); refine blk_put (cs := #[.int .i64 0, .int .i64 0, .int .i64 0, .int .i64 0, .int .i64 0]) ?_ 4 _ rfl; refine blk_put (cs := #[.int .i64 0, .int .i64 0, .int .i64 0, .int .i64 0, .int .i64 0]) ?_ 3 _ rfl; refine blk_put (cs := #[.int .i64 0, .int .i64 0, .int .i64 0, .int .i64 0, .int .i64 0]) ?_ 2 _ rfl; refine blk_put (cs := #[.int .i64 0, .int .i64 0, .int .i64 0, .int .i64 0, .int .i64 0]) ?_ 1 _ rfl; refine blk_put (cs := #[.int .i64 0, .int .i64 0, .int .i64 0, .int .i64 0, .int .i64 0]) ?_ 0 _ rfl; exact blk_far (blk_far BS4.out n3.symm _) n2.symm _) Tryd.underlying30 rfl (by kernel_rfl)) rfl ?_
  have z1 := HB1.out.size
  have z2 := HB2.out.size
  have z3 := HB3.out.size
  have hb := below_step (below_step (below_step HB1.out HB2.out) HB3.out) HB4.out
  have e1 := HGB.out
  have e2 := HGS.out
  have e3 := HGE.out
  exact ⟨by simp, by (with_reducible repeat (first | apply pw_below_drewN | apply below_drew1)); exact ((((((hb.setCell (by show w.heap.size ≤ gb; omega) _).setCell (by show w.heap.size ≤ ge; omega) _).setCell (by show w.heap.size ≤ gs; omega) _).setCell (by show w.heap.size ≤ gs; omega) _).setCell (by show w.heap.size ≤ gs; omega) _).setCell (by show w.heap.size ≤ gs; omega) _).setCell (by show w.heap.size ≤ gs; omega) _⟩

/-! ### bytes_Equal: function 70 -/
def bytes_Equal.f (l0 : List Int) (l1 : List Int) : Option (Bool) := some ((strOfNums l0).toList == (strOfNums l1).toList)
set_option maxHeartbeats 8000000 in
set_option maxRecDepth 100000 in
theorem bytes_Equal.calls (A0 : Option Addr) (c0 : Nat) (l0 : List Int) (A1 : Option Addr) (c1 : Nat) (l1 : List Int) (r : Bool) (w : World) (hr0 : Kd.C (Kd.int .u8) w A0 l0.length l0) (hc0 : l0.length ≤ c0) (hr1 : Kd.C (Kd.int .u8) w A1 l1.length l1) (hc1 : l1.length ≤ c1) (h : bytes_Equal.f l0 l1 = some r) :
  Calls Tryd.prog 70 #[.slice A0 l0.length c0, .slice A1 l1.length c1] w fun e w' => e = .returned (.bool r) ∧ Drawn0 w w' := by
 have HR0 := Aside0.mk hr0
 have HC0 := Aside0.mk hc0
 clear hr0 hc0
 have HR1 := Aside0.mk hr1
 have HC1 := Aside0.mk hc1
 clear hr1 hc1
 have H : (some ((strOfNums l0).toList == (strOfNums l1).toList)) = some r := h
 clear h
 obtain rfl := Option.some.inj H
 have hcv3 := Kd.C_string (P := Tryd.prog) (A := A0) (c := c0) Tryd.underlying26 Tryd.underlying5 Tryd.underlying9 HR0.out
 have hcv4 := Kd.C_string (P := Tryd.prog) (A := A1) (c := c1) Tryd.underlying26 Tryd.underlying5 Tryd.underlying9 HR1.out
 go_enter Tryd.func70, Tryd.ntmps70
 go_wp2
 go_ret
 exact ⟨by first | rfl | (simp; done) | (simp [*]; done), by repeat (first | exact Drawn0.refl _ | apply Drawn0.step)⟩

-- NOT PRINTED: function 55 (crc_open)

end Go.Proofs.YtcbjbgleflbpmaaDoor.Print
