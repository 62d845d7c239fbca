-- PRINTED by print.py (a twelfth state) out of the translation. Not trusted: Lean checks it.
import Derived.Test.YtcofclkgfandfaaGreatSq
import Derived.Test.YtcofclkgfandfaaGreatPrint0
import Derived.Test.YtcofclkgfandfaaGreatPrint6
namespace Go.Proofs.YtcofclkgfandfaaGreat.Print
set_option maxHeartbeats 8000000
set_option maxRecDepth 100000
open Go.RowKit Go.Proofs.YtcofclkgfandfaaGreatW.PrintWords Go.Proofs.YtcofclkgfandfaaGreatW.PrintLast Go.Proofs.YtcofclkgfandfaaGreatW.PrintMore Go.Proofs.YtcofclkgfandfaaGreatX
attribute [local go_sem] str_lss str_geq max2_int min2_int max_two min_two max_three min_three max_four min_four   -- for this text's walks alone
set_option linter.unusedVariables false
set_option linter.unusedSimpArgs false

/-! ### node_Wake_1: function 52 -/
/-- A node that does something (run). -/
structure Rs where
 id : Int
 ph : Int
 sl : Int
 st : Int
 op : Int
 od : Int
 orr : Int
 co : Int
 me : Int
 tg : Int
 tb : Int
 ds : List Int
 se : Bool
 ve : Int
 m0 : Int
 m1 : Int
 m2 : Int
 m3 : Int
 m4 : Int
 ac : List S66
 er : Int
/-- A run as it lies in memory: its block, its two rows (each of an elder world's own), what lay there before. -/
structure RSt (w0 wi : World) (g : Nat) (s : Rs) (dv av : Value) : Prop where
 b : wi.heap[g]? = some (.cells #[.int .i64 s.id, .int .i64 s.ph, .int .u64 s.sl, .int .i64 s.st, .int .i64 s.op, .int .i64 s.od, .int .i64 s.orr, .int .i64 s.co, .int .u16 s.me, .int .i64 s.tg, .int .i64 s.tb, dv, .bool s.se, .int .i64 s.ve, .int .i64 s.m0, .int .i64 s.m1, .int .i64 s.m2, .int .i64 s.m3, .int .i64 s.m4, av, .int .i64 s.er] 77 (0, 0))
 d : Kd.R (Kd.int .i64) 2 wi w0.heap.size (fun _ => True) dv s.ds
 a : Kd.R k66 66 wi w0.heap.size (fun _ => True) av s.ac
 bel : Below w0.heap.size w0 wi
 ge : w0.heap.size ≤ g
/-- What a run's method leaves as it is: all but the run's block and a row's. -/
def Kr (w w' : World) (g : Nat) (v u : Value) : Prop := w.heap.size ≤ w'.heap.size ∧ ∀ j, j < w.heap.size → j ≠ g → some j ≠ v.ownBlock → some j ≠ u.ownBlock → w'.heap[j]? = w.heap[j]?
/-- A row is where it was, or somewhere new. -/
def At (n : Nat) (v v' : Value) : Prop := v'.ownBlock = v.ownBlock ∨ ∃ b, v'.ownBlock = some b ∧ n ≤ b
theorem At.refl (n : Nat) (v : Value) : At n v v := Or.inl rfl
theorem At.trans {n n1 : Nat} {v v1 v2 : Value} (h : At n v v1) (hn : n ≤ n1) (h2 : At n1 v1 v2) : At n v v2 := by
 rcases h2 with h2 | ⟨b, h2, h3⟩
 ·unfold At
  rw [h2]
  exact h
 exact Or.inr ⟨b, h2, Nat.le_trans hn h3⟩
theorem At.ne {n j : Nat} {v v1 : Value} (h : At n v v1) (hj : j < n) (hv : some j ≠ v.ownBlock) : some j ≠ v1.ownBlock := by
 rcases h with h | ⟨b, h, hb⟩
 ·rw [h]
  exact hv
 rw [h]
 intro e
 injection e with e
 omega
theorem Kr.refl (w : World) (g : Nat) (v u : Value) : Kr w w g v u := ⟨Nat.le_refl _, fun _ _ _ _ _ => rfl⟩
theorem Kr.trans {w w1 w2 : World} {g : Nat} {v v1 u u1 : Value} (h : Kr w w1 g v u) (ha : At w.heap.size v v1) (hb : At w.heap.size u u1) (h2 : Kr w1 w2 g v1 u1) : Kr w w2 g v u :=
 ⟨Nat.le_trans h.1 h2.1, fun j hj hg hv hu => (h2.2 j (Nat.lt_of_lt_of_le hj h.1) hg (ha.ne hj hv) (hb.ne hj hu)).trans (h.2 j hj hg hv hu)⟩
theorem Kr.below {w w1 : World} (h : Below w.heap.size w w1) (g : Nat) (v u : Value) : Kr w w1 g v u := ⟨h.size, fun j hj _ _ _ => h.block j hj⟩
theorem Kr.grownA {w w1 : World} {u : Value} (hg : w.grownBy w1 u.ownBlock) (g : Nat) (v : Value) : Kr w w1 g v u := ⟨hg.size, fun j hj _ _ hu => hg.block j hj hu⟩
theorem Kr.grownD {w w1 : World} {v : Value} (hg : w.grownBy w1 v.ownBlock) (g : Nat) (u : Value) : Kr w w1 g v u := ⟨hg.size, fun j hj _ hv _ => hg.block j hj hv⟩
theorem size_set (w : World) (a : Addr) (v : Value) : (w.setCell a v).heap.size = w.heap.size := by
 unfold World.setCell
 (repeat' split) <;> simp
theorem Kr.set (w : World) (g i : Nat) (v u x : Value) : Kr w (w.setCell ⟨g, i, none⟩ x) g v u := ⟨Nat.le_of_eq (size_set _ _ _).symm, fun j _ hg _ _ => Below.heap_setCell _ _ _ j hg⟩
theorem Kr.blk {w w1 : World} {g j : Nat} {v u : Value} {o : Obj} (h : Kr w w1 g v u) (hb : w.heap[j]? = some o) (hj : j ≠ g) (hv : some j ≠ v.ownBlock) (hu : some j ≠ u.ownBlock) : w1.heap[j]? = some o := (h.2 j (blk_lt hb) hj hv hu).trans hb
abbrev nov : Value := .slice none 0 0

section
variable {w0 wi w1 : World} {g : Nat} {s : Rs} {dv av : Value}
theorem RSt.c0 (h : RSt w0 wi g s dv av) : wi.cell? ⟨g, 0, none⟩ = some (.int .i64 s.id) := (blk_cell h.b 0).trans rfl
theorem RSt.c1 (h : RSt w0 wi g s dv av) : wi.cell? ⟨g, 1, none⟩ = some (.int .i64 s.ph) := (blk_cell h.b 1).trans rfl
theorem RSt.c2 (h : RSt w0 wi g s dv av) : wi.cell? ⟨g, 2, none⟩ = some (.int .u64 s.sl) := (blk_cell h.b 2).trans rfl
theorem RSt.c3 (h : RSt w0 wi g s dv av) : wi.cell? ⟨g, 3, none⟩ = some (.int .i64 s.st) := (blk_cell h.b 3).trans rfl
theorem RSt.c4 (h : RSt w0 wi g s dv av) : wi.cell? ⟨g, 4, none⟩ = some (.int .i64 s.op) := (blk_cell h.b 4).trans rfl
theorem RSt.c5 (h : RSt w0 wi g s dv av) : wi.cell? ⟨g, 5, none⟩ = some (.int .i64 s.od) := (blk_cell h.b 5).trans rfl
theorem RSt.c6 (h : RSt w0 wi g s dv av) : wi.cell? ⟨g, 6, none⟩ = some (.int .i64 s.orr) := (blk_cell h.b 6).trans rfl
theorem RSt.c7 (h : RSt w0 wi g s dv av) : wi.cell? ⟨g, 7, none⟩ = some (.int .i64 s.co) := (blk_cell h.b 7).trans rfl
theorem RSt.c8 (h : RSt w0 wi g s dv av) : wi.cell? ⟨g, 8, none⟩ = some (.int .u16 s.me) := (blk_cell h.b 8).trans rfl
theorem RSt.c9 (h : RSt w0 wi g s dv av) : wi.cell? ⟨g, 9, none⟩ = some (.int .i64 s.tg) := (blk_cell h.b 9).trans rfl
theorem RSt.c10 (h : RSt w0 wi g s dv av) : wi.cell? ⟨g, 10, none⟩ = some (.int .i64 s.tb) := (blk_cell h.b 10).trans rfl
theorem RSt.c11 (h : RSt w0 wi g s dv av) : wi.cell? ⟨g, 11, none⟩ = some dv := (blk_cell h.b 11).trans rfl
theorem RSt.c12 (h : RSt w0 wi g s dv av) : wi.cell? ⟨g, 12, none⟩ = some (.bool s.se) := (blk_cell h.b 12).trans rfl
theorem RSt.c13 (h : RSt w0 wi g s dv av) : wi.cell? ⟨g, 13, none⟩ = some (.int .i64 s.ve) := (blk_cell h.b 13).trans rfl
theorem RSt.c14 (h : RSt w0 wi g s dv av) : wi.cell? ⟨g, 14, none⟩ = some (.int .i64 s.m0) := (blk_cell h.b 14).trans rfl
theorem RSt.c15 (h : RSt w0 wi g s dv av) : wi.cell? ⟨g, 15, none⟩ = some (.int .i64 s.m1) := (blk_cell h.b 15).trans rfl
theorem RSt.c16 (h : RSt w0 wi g s dv av) : wi.cell? ⟨g, 16, none⟩ = some (.int .i64 s.m2) := (blk_cell h.b 16).trans rfl
theorem RSt.c17 (h : RSt w0 wi g s dv av) : wi.cell? ⟨g, 17, none⟩ = some (.int .i64 s.m3) := (blk_cell h.b 17).trans rfl
theorem RSt.c18 (h : RSt w0 wi g s dv av) : wi.cell? ⟨g, 18, none⟩ = some (.int .i64 s.m4) := (blk_cell h.b 18).trans rfl
theorem RSt.c19 (h : RSt w0 wi g s dv av) : wi.cell? ⟨g, 19, none⟩ = some av := (blk_cell h.b 19).trans rfl
theorem RSt.c20 (h : RSt w0 wi g s dv av) : wi.cell? ⟨g, 20, none⟩ = some (.int .i64 s.er) := (blk_cell h.b 20).trans rfl
theorem RSt.fz (h : RSt w0 wi g s dv av) (i : Nat) : wi.frozen? ⟨g, i, none⟩ = false := blk_frozen h.b i
theorem RSt.below (h : RSt w0 wi g s dv av) (hb : Below wi.heap.size wi w1) : RSt w0 w1 g s dv av := ⟨blk_below h.b hb, Kd.R_below h.d hb, Kd.R_below h.a hb, below_step h.bel hb, h.ge⟩
theorem RSt.s0 (h : RSt w0 wi g s dv av) (v : Int) : RSt w0 (wi.setCell ⟨g, 0, none⟩ (.int .i64 v)) g { s with id := v } dv av := ⟨blk_set h.b 0 _, Kd.R_set h.d h.b (by decide) 0 _, Kd.R_set h.a h.b (by decide) 0 _, h.bel.setCell h.ge _, h.ge⟩
theorem RSt.s1 (h : RSt w0 wi g s dv av) (v : Int) : RSt w0 (wi.setCell ⟨g, 1, none⟩ (.int .i64 v)) g { s with ph := v } dv av := ⟨blk_set h.b 1 _, Kd.R_set h.d h.b (by decide) 1 _, Kd.R_set h.a h.b (by decide) 1 _, h.bel.setCell h.ge _, h.ge⟩
theorem RSt.s2 (h : RSt w0 wi g s dv av) (v : Int) : RSt w0 (wi.setCell ⟨g, 2, none⟩ (.int .u64 v)) g { s with sl := v } dv av := ⟨blk_set h.b 2 _, Kd.R_set h.d h.b (by decide) 2 _, Kd.R_set h.a h.b (by decide) 2 _, h.bel.setCell h.ge _, h.ge⟩
theorem RSt.s3 (h : RSt w0 wi g s dv av) (v : Int) : RSt w0 (wi.setCell ⟨g, 3, none⟩ (.int .i64 v)) g { s with st := v } dv av := ⟨blk_set h.b 3 _, Kd.R_set h.d h.b (by decide) 3 _, Kd.R_set h.a h.b (by decide) 3 _, h.bel.setCell h.ge _, h.ge⟩
theorem RSt.s4 (h : RSt w0 wi g s dv av) (v : Int) : RSt w0 (wi.setCell ⟨g, 4, none⟩ (.int .i64 v)) g { s with op := v } dv av := ⟨blk_set h.b 4 _, Kd.R_set h.d h.b (by decide) 4 _, Kd.R_set h.a h.b (by decide) 4 _, h.bel.setCell h.ge _, h.ge⟩
theorem RSt.s5 (h : RSt w0 wi g s dv av) (v : Int) : RSt w0 (wi.setCell ⟨g, 5, none⟩ (.int .i64 v)) g { s with od := v } dv av := ⟨blk_set h.b 5 _, Kd.R_set h.d h.b (by decide) 5 _, Kd.R_set h.a h.b (by decide) 5 _, h.bel.setCell h.ge _, h.ge⟩
theorem RSt.s6 (h : RSt w0 wi g s dv av) (v : Int) : RSt w0 (wi.setCell ⟨g, 6, none⟩ (.int .i64 v)) g { s with orr := v } dv av := ⟨blk_set h.b 6 _, Kd.R_set h.d h.b (by decide) 6 _, Kd.R_set h.a h.b (by decide) 6 _, h.bel.setCell h.ge _, h.ge⟩
theorem RSt.s7 (h : RSt w0 wi g s dv av) (v : Int) : RSt w0 (wi.setCell ⟨g, 7, none⟩ (.int .i64 v)) g { s with co := v } dv av := ⟨blk_set h.b 7 _, Kd.R_set h.d h.b (by decide) 7 _, Kd.R_set h.a h.b (by decide) 7 _, h.bel.setCell h.ge _, h.ge⟩
theorem RSt.s8 (h : RSt w0 wi g s dv av) (v : Int) : RSt w0 (wi.setCell ⟨g, 8, none⟩ (.int .u16 v)) g { s with me := v } dv av := ⟨blk_set h.b 8 _, Kd.R_set h.d h.b (by decide) 8 _, Kd.R_set h.a h.b (by decide) 8 _, h.bel.setCell h.ge _, h.ge⟩
theorem RSt.s9 (h : RSt w0 wi g s dv av) (v : Int) : RSt w0 (wi.setCell ⟨g, 9, none⟩ (.int .i64 v)) g { s with tg := v } dv av := ⟨blk_set h.b 9 _, Kd.R_set h.d h.b (by decide) 9 _, Kd.R_set h.a h.b (by decide) 9 _, h.bel.setCell h.ge _, h.ge⟩
theorem RSt.s10 (h : RSt w0 wi g s dv av) (v : Int) : RSt w0 (wi.setCell ⟨g, 10, none⟩ (.int .i64 v)) g { s with tb := v } dv av := ⟨blk_set h.b 10 _, Kd.R_set h.d h.b (by decide) 10 _, Kd.R_set h.a h.b (by decide) 10 _, h.bel.setCell h.ge _, h.ge⟩
theorem RSt.s12 (h : RSt w0 wi g s dv av) (v : Bool) : RSt w0 (wi.setCell ⟨g, 12, none⟩ (.bool v)) g { s with se := v } dv av := ⟨blk_set h.b 12 _, Kd.R_set h.d h.b (by decide) 12 _, Kd.R_set h.a h.b (by decide) 12 _, h.bel.setCell h.ge _, h.ge⟩
theorem RSt.s13 (h : RSt w0 wi g s dv av) (v : Int) : RSt w0 (wi.setCell ⟨g, 13, none⟩ (.int .i64 v)) g { s with ve := v } dv av := ⟨blk_set h.b 13 _, Kd.R_set h.d h.b (by decide) 13 _, Kd.R_set h.a h.b (by decide) 13 _, h.bel.setCell h.ge _, h.ge⟩
theorem RSt.s20 (h : RSt w0 wi g s dv av) (v : Int) : RSt w0 (wi.setCell ⟨g, 20, none⟩ (.int .i64 v)) g { s with er := v } dv av := ⟨blk_set h.b 20 _, Kd.R_set h.d h.b (by decide) 20 _, Kd.R_set h.a h.b (by decide) 20 _, h.bel.setCell h.ge _, h.ge⟩
end
theorem node_note.calls (g : Nat) (s : Rs) (dv av : Value) (kind b : Int) (w0 w : World) (h : RSt w0 w g s dv av) (hl : s.ac.length ≤ 1000000) :
  Calls Tryz.prog 53 #[.pointer (some ⟨g, 0, none⟩), .int .i64 kind, .int .i64 b] w fun r w' => r = .returned (.tuple #[]) ∧ (∃ av', RSt w0 w' g { s with ac := s.ac ++ [⟨3, 0, z43, kind, b⟩] } dv av' ∧ At w.heap.size av av') ∧ Kr w w' g nov av := by
 have H := asd h
 obtain ⟨Aa, ca, eav⟩ := Kd.R_slice h.a
 subst eav
 have hc19 := h.c19
 have hf19 := h.fz 19
 have hu38 := Tryz.underlying38
 clear h
 go_enter Tryz.func53, Tryz.ntmps53
 go_wp2_with (first | ((with_reducible refine gate_builtin (b := .append) (xs := #[.tmp 10, .tmp 14]) rfl ?_); (try (refine gate_guard (by rfl) ?_; dsimp only)); at_builtin; refine Kd.R_append k66 (w0 := w0) w0.heap.size rfl (.tmp 10) (.tmp 14) 38 66 (.agg #[.int .i64 0, .int .i64 0, .int .i64 0, .int .i64 0, .int .u64 0, .int .u16 0, .int .i64 0, .int .i64 0]) 64 rfl Tryz.underlying38 info66 rfl (by decide) (by omega) (.slice Aa s.ac.length ca) s.ac (⟨3, 0, z43, kind, b⟩ : S66) [.int .i64 3, .int .i64 0, .int .i64 0, .int .i64 0, .int .u64 0, .int .u16 0, .int .i64 kind, .int .i64 b] (fun _ => True) (fun _ => False) rfl rfl ?aP (fun _ hk => hk.elim) ?aF ?aO ?aB ?aS ?aL ?_; (case aP => exact k66_mkM _ _ _ (⟨3, 0, z43, kind, b⟩ : S66)); (case aB => exact H.out.bel); (case aF => exact fun _ _ => trivial); (case aO => exact H.out.a); (case aS => exact below_size H.out.bel); (case aL => omega); intro av2 w1 ho hb hg hat; have HB1 := asd (blk_grown H.out.b hg (Kd.R_ne H.out.a H.out.b (by decide))); have HD1 := asd (Kd.R_over' H.out.d (Kd.R_typed H.out.a) (by decide) hg); have HA1 := asd ho; obtain ⟨A2, c2, e2⟩ := Kd.R_slice HA1.out; subst e2; have HL1 := asd hb; have HK1 := asd (Kr.grownA hg g nov); have HAT := asd hat; clear ho hb hg hat; have hc19b : w1.cell? ⟨g, 19, none⟩ = some (.slice Aa s.ac.length ca) := (blk_cell HB1.out 19).trans rfl; have hf19b := blk_frozen HB1.out 19))
 first | go_end0 | ((try simp only [Exit.inBlock, Exit.then]); refine bodyPost_ret (results_none rfl _ _ _) rfl ?_)
 have HA2 := HA1.out
 rw [List.length_append, List.length_singleton] at HA2
 exact ⟨rfl, ⟨_, ⟨blk_set HB1.out 19 _, Kd.R_set HD1.out HB1.out (by decide) 19 _, Kd.R_set HA2 HB1.out (by decide) 19 _, HL1.out.setCell H.out.ge _, H.out.ge⟩, by have q := HAT.out; rw [List.length_append, List.length_singleton] at q; exact q⟩, HK1.out.trans (At.refl _ _) (At.refl _ _) (Kr.set _ _ _ _ _ _)⟩

/-- The first wrong thing is noted. -/
def Rs.fl (s : Rs) (e : Int) : Rs := if s.er = 0 then (if e = 0 then s else { s with er := 2 }) else s
theorem node_fail.calls (g : Nat) (s : Rs) (dv av : Value) (e : Int) (w0 w : World) (h : RSt w0 w g s dv av) :
  Calls Tryz.prog 81 #[.pointer (some ⟨g, 0, none⟩), .int .i64 e] w fun r w' => r = .returned (.tuple #[]) ∧ RSt w0 w' g (s.fl e) dv av ∧ Kr w w' g nov nov := by
 have H := asd h
 have hc20 := h.c20
 have hf20 := h.fz 20
 clear h
 unfold Rs.fl
 by_cases c1 : s.er = 0
 ·have c1a : (s.er == 0) = true := beq_iff_eq.mpr c1
  rw [if_pos c1]
  by_cases c2 : e = 0
  ·have c2a : (e != 0) = false := bne_eq_false_iff_eq.mpr c2
   rw [if_pos c2]
   go_enter Tryz.func81, Tryz.ntmps81
   go_wp2
   first | go_end0 | ((try simp only [Exit.inBlock, Exit.then]); refine bodyPost_ret (results_none rfl _ _ _) rfl ?_)
   exact ⟨rfl, H.out, Kr.refl w g _ _⟩
  have c2a : (e != 0) = true := bne_iff_ne.mpr c2
  rw [if_neg c2]
  go_enter Tryz.func81, Tryz.ntmps81
  go_wp2
  first | go_end0 | ((try simp only [Exit.inBlock, Exit.then]); refine bodyPost_ret (results_none rfl _ _ _) rfl ?_)
  exact ⟨rfl, H.out.s20 2, Kr.set w g 20 _ _ _⟩
 have c1a : (s.er == 0) = false := beq_eq_false_iff_ne.mpr c1
 rw [if_neg c1]
 go_enter Tryz.func81, Tryz.ntmps81
 go_wp2
 first | go_end0 | ((try simp only [Exit.inBlock, Exit.then]); refine bodyPost_ret (results_none rfl _ _ _) rfl ?_)
 exact ⟨rfl, H.out, Kr.refl w g _ _⟩

theorem Rs.fl_id (s : Rs) (e : Int) : (s.fl e).id = s.id := by
 unfold Rs.fl
 split <;> (try split) <;> rfl
theorem Rs.fl_ds (s : Rs) (e : Int) : (s.fl e).ds = s.ds := by
 unfold Rs.fl
 split <;> (try split) <;> rfl
theorem Rs.fl_ac (s : Rs) (e : Int) : (s.fl e).ac = s.ac := by
 unfold Rs.fl
 split <;> (try split) <;> rfl
theorem Rs.fls (s : Rs) (e : Int) : (s.fl e).id = s.id ∧ (s.fl e).ph = s.ph ∧ (s.fl e).sl = s.sl ∧ (s.fl e).st = s.st ∧ (s.fl e).op = s.op ∧ (s.fl e).od = s.od ∧ (s.fl e).orr = s.orr ∧ (s.fl e).co = s.co ∧ (s.fl e).me = s.me ∧ (s.fl e).tg = s.tg ∧ (s.fl e).tb = s.tb ∧ (s.fl e).ds = s.ds ∧ (s.fl e).se = s.se ∧ (s.fl e).ve = s.ve ∧ (s.fl e).m0 = s.m0 ∧ (s.fl e).m1 = s.m1 ∧ (s.fl e).m2 = s.m2 ∧ (s.fl e).m3 = s.m3 ∧ (s.fl e).m4 = s.m4 ∧ (s.fl e).ac = s.ac := by
 unfold Rs.fl
 split <;> (try split) <;> simp
section
variable {w0 w wi w1 : World} {g gb : Nat} {s : Rs} {dv av v u : Value} {cs : Array Value} {T : TypeId}
theorem RSt.far (h : RSt w0 wi g s dv av) (hb : wi.heap[gb]? = some (.cells cs T (0, 0))) (hge : w0.heap.size ≤ gb) (hT : T ≠ 77) (t2 : ∀ q, q ∈ 2 :: (Kd.int .i64).E → q ≠ T) (t66 : ∀ q, q ∈ 66 :: k66.E → q ≠ T) (i : Nat) (u : Value) : RSt w0 (wi.setCell ⟨gb, i, none⟩ u) g s dv av :=
 ⟨blk_far h.b (blk_ne h.b hb (fun e => hT e.symm)) _, Kd.R_set h.d hb t2 i u, Kd.R_set h.a hb t66 i u, h.bel.setCell hge _, h.ge⟩
theorem RSt.drew (h : RSt w0 wi g s dv av) : RSt w0 wi.drew g s dv av := ⟨h.b, Kd.R_drew h.d, Kd.R_drew h.a, below_drew1 h.bel, h.ge⟩
theorem RSt.drewN (h : RSt w0 wi g s dv av) (n : Nat) : RSt w0 (wi.drewN n) g s dv av := ⟨h.b, Kd.R_drewN h.d n, Kd.R_drewN h.a n, pw_below_drewN h.bel n, h.ge⟩
theorem Kr.wideD (h : Kr w wi g nov u) : Kr w wi g v u := ⟨h.1, fun j a b _ d => h.2 j a b (by simp [Value.ownBlock]) d⟩
theorem Kr.wideA (h : Kr w wi g v nov) : Kr w wi g v u := ⟨h.1, fun j a b c _ => h.2 j a b c (by simp [Value.ownBlock])⟩
theorem Kr.drew (h : Kr w wi g v u) : Kr w wi.drew g v u := h
theorem Kr.drewN (h : Kr w wi g v u) (n : Nat) : Kr w (wi.drewN n) g v u := h
theorem Kr.step (h : Kr w wi g v u) (hb : Below wi.heap.size wi w1) : Kr w w1 g v u := ⟨Nat.le_trans h.1 hb.size, fun j a b c d => (hb.block j (Nat.lt_of_lt_of_le a h.1)).trans (h.2 j a b c d)⟩
theorem Kr.setNew (h : Kr w wi g v u) (hge : w.heap.size ≤ gb) (i : Nat) (x : Value) : Kr w (wi.setCell ⟨gb, i, none⟩ x) g v u := ⟨by rw [size_set]; exact h.1, fun j a b c d => (Below.heap_setCell wi ⟨gb, i, none⟩ x j (by show j ≠ gb; omega)).trans (h.2 j a b c d)⟩
theorem Kr.setG (h : Kr w wi g v u) (i : Nat) (x : Value) : Kr w (wi.setCell ⟨g, i, none⟩ x) g v u := ⟨by rw [size_set]; exact h.1, fun j a b c d => (Below.heap_setCell wi ⟨g, i, none⟩ x j b).trans (h.2 j a b c d)⟩
theorem Kr.thenG (h : Kr w wi g v u) (h2 : Kr wi w1 g nov nov) : Kr w w1 g v u := ⟨Nat.le_trans h.1 h2.1, fun j a b c d => (h2.2 j (Nat.lt_of_lt_of_le a h.1) b (by simp [Value.ownBlock]) (by simp [Value.ownBlock])).trans (h.2 j a b c d)⟩
end

/-- A run's time of so many ticks, and its clock then. -/
def node_at.f (k : Nat) (s : Rs) (ticks : Int) : Option (Int × Int × Int × Int × Rs) := (osc_Run.f k s.op s.od s.orr ticks).bind fun a => (pico_Add.f k s.st a.1).bind fun b => some (b.1, a.2.1, a.2.2.1, a.2.2.2.1, (s.fl a.2.2.2.2).fl b.2)
theorem node_at.calls (k g : Nat) (s s2 : Rs) (dv av : Value) (ticks t p d r : Int) (w0 w : World) (h : RSt w0 w g s dv av) (hf : node_at.f k s ticks = some (t, p, d, r, s2)) :
  Calls Tryz.prog 97 #[.pointer (some ⟨g, 0, none⟩), .int .i64 ticks] w fun e w' => e = .returned (.tuple #[.int .i64 t, .agg #[.int .i64 p, .int .i64 d, .int .i64 r]]) ∧ RSt w0 w' g s2 dv av ∧ Kr w w' g nov nov := by
 unfold node_at.f at hf
 obtain ⟨⟨ps, p0, d0, r0, e1⟩, A1, hf⟩ := Option.bind_eq_some_iff.mp hf
 obtain ⟨⟨t0, e2⟩, A2, hf⟩ := Option.bind_eq_some_iff.mp hf
 have hf := Option.some.inj hf
 simp only [Prod.mk.injEq] at hf
 obtain ⟨rfl, rfl, rfl, rfl, rfl⟩ := hf
 have HA1 := asd A1
 have HA2 := asd A2
 have H := asd h
 have K := asd (Kr.refl w g nov nov)
 clear h A1 A2
 go_enter Tryz.func97, Tryz.ntmps97
 go_wp2_with (first | (refine bG 5 #[.int .i64 0, .int .i64 0, .int .i64 0] 26 ?_; intro gb5 hg wx1 B5 hb; have N5 := asd (by rw [hg]; exact Nat.ne_of_gt (blk_lt H.out.b) : gb5 ≠ g); have G5 := asd (by rw [hg]; exact K.out.1 : w.heap.size ≤ gb5); have L5 := asd (by rw [hg]; exact H.out.bel.size : w0.heap.size ≤ gb5); replace H := asd (H.out.below hb); replace K := asd (K.out.step hb); clear hb hg; have hc3 : wx1.cell? ⟨g, 3, none⟩ = some (.int .i64 s.st) := (by have q := H.out.c3; (try simp only [Rs.fls] at q); exact q); have hf3 := H.out.fz 3; have hc4 : wx1.cell? ⟨g, 4, none⟩ = some (.int .i64 s.op) := (by have q := H.out.c4; (try simp only [Rs.fls] at q); exact q); have hf4 := H.out.fz 4; have hc5 : wx1.cell? ⟨g, 5, none⟩ = some (.int .i64 s.od) := (by have q := H.out.c5; (try simp only [Rs.fls] at q); exact q); have hf5 := H.out.fz 5; have hc6 : wx1.cell? ⟨g, 6, none⟩ = some (.int .i64 s.orr) := (by have q := H.out.c6; (try simp only [Rs.fls] at q); exact q); have hf6 := H.out.fz 6; have hb5 := ca3 B5) | ((with_reducible refine gate_callee (f := 80) rfl ?_); refine gC (some 17) Tryz.func80 (osc_Run.calls k s.op s.od s.orr ticks ps p0 d0 r0 e1 _ HA1.out) ?_; rintro e wx2 ⟨rfl, hb⟩; refine ⟨_, rfl, ?_⟩; have nH := asd (H.out.below hb); have nK := asd (K.out.step hb); have nB5 := asd (blk_below B5.out hb); clear H K B5; have H := nH; have K := nK; have B5 := nB5; clear nH nK nB5 hb; have hc3 : wx2.cell? ⟨g, 3, none⟩ = some (.int .i64 s.st) := (by have q := H.out.c3; (try simp only [Rs.fls] at q); exact q); have hf3 := H.out.fz 3; have hc4 : wx2.cell? ⟨g, 4, none⟩ = some (.int .i64 s.op) := (by have q := H.out.c4; (try simp only [Rs.fls] at q); exact q); have hf4 := H.out.fz 4; have hc5 : wx2.cell? ⟨g, 5, none⟩ = some (.int .i64 s.od) := (by have q := H.out.c5; (try simp only [Rs.fls] at q); exact q); have hf5 := H.out.fz 5; have hc6 : wx2.cell? ⟨g, 6, none⟩ = some (.int .i64 s.orr) := (by have q := H.out.c6; (try simp only [Rs.fls] at q); exact q); have hf6 := H.out.fz 6; have hb5 := ca3 B5) | (refine bG 7 #[.int .i64 0, .int .i64 0, .int .i64 0] 26 ?_; intro gb7 hg wx3 B7 hb; have N7 := asd (by rw [hg]; exact Nat.ne_of_gt (blk_lt H.out.b) : gb7 ≠ g); have G7 := asd (by rw [hg]; exact K.out.1 : w.heap.size ≤ gb7); have L7 := asd (by rw [hg]; exact H.out.bel.size : w0.heap.size ≤ gb7); have N7_5 := asd (by rw [hg]; exact Nat.ne_of_gt (blk_lt B5.out) : gb7 ≠ gb5); have nH := asd (H.out.below hb); have nK := asd (K.out.step hb); have nB5 := asd (blk_below B5.out hb); clear H K B5; have H := nH; have K := nK; have B5 := nB5; clear nH nK nB5; clear hb hg; have hc3 : wx3.cell? ⟨g, 3, none⟩ = some (.int .i64 s.st) := (by have q := H.out.c3; (try simp only [Rs.fls] at q); exact q); have hf3 := H.out.fz 3; have hc4 : wx3.cell? ⟨g, 4, none⟩ = some (.int .i64 s.op) := (by have q := H.out.c4; (try simp only [Rs.fls] at q); exact q); have hf4 := H.out.fz 4; have hc5 : wx3.cell? ⟨g, 5, none⟩ = some (.int .i64 s.od) := (by have q := H.out.c5; (try simp only [Rs.fls] at q); exact q); have hf5 := H.out.fz 5; have hc6 : wx3.cell? ⟨g, 6, none⟩ = some (.int .i64 s.orr) := (by have q := H.out.c6; (try simp only [Rs.fls] at q); exact q); have hf6 := H.out.fz 6; have hb5 := ca3 B5; have hb7 := ca3 B7) | ((with_reducible refine gate_callee (f := 81) rfl ?_); refine gL (some 23) Tryz.func81 #[.pointer (some ⟨g, 0, none⟩), .int .i64 e1] ?_; have nH := asd (((H.out.far B7.out L7.out (by decide) (by decide) (by decide) 0 (.int .i64 p0)).far (blk_put (cs := #[.int .i64 0, .int .i64 0, .int .i64 0]) B7.out 0 (.int .i64 p0) rfl) L7.out (by decide) (by decide) (by decide) 1 (.int .i64 d0)).far (blk_put (cs := #[.int .i64 p0, .int .i64 0, .int .i64 0]) (blk_put (cs := #[.int .i64 0, .int .i64 0, .int .i64 0]) B7.out 0 (.int .i64 p0) rfl) 1 (.int .i64 d0) rfl) L7.out (by decide) (by decide) (by decide) 2 (.int .i64 r0)); have nK := asd (((K.out.setNew G7.out 0 (.int .i64 p0)).setNew G7.out 1 (.int .i64 d0)).setNew G7.out 2 (.int .i64 r0)); have nB7 := asd (show (World.heap _)[gb7]? = some (Obj.cells #[.int .i64 p0, .int .i64 d0, .int .i64 r0] 26 (0, 0)) from (blk_put (cs := #[.int .i64 p0, .int .i64 d0, .int .i64 0]) (blk_put (cs := #[.int .i64 p0, .int .i64 0, .int .i64 0]) (blk_put (cs := #[.int .i64 0, .int .i64 0, .int .i64 0]) B7.out 0 (.int .i64 p0) rfl) 1 (.int .i64 d0) rfl) 2 (.int .i64 r0) rfl)); have nB5 := asd (blk_far (p := ⟨gb7, 2, none⟩) (blk_far (p := ⟨gb7, 1, none⟩) (blk_far (p := ⟨gb7, 0, none⟩) B5.out N7_5.out.symm (.int .i64 p0)) N7_5.out.symm (.int .i64 d0)) N7_5.out.symm (.int .i64 r0)); clear H K B5 B7; have H := nH; have K := nK; have B5 := nB5; have B7 := nB7; clear nH nK nB5 nB7; (with_reducible refine (node_fail.calls g s dv av e1 w0 _ H.out).mono ?_); rintro e wx4 ⟨rfl, hs, hk⟩; refine ⟨_, rfl, ?_⟩; have nK := asd (K.out.thenG hk); have nB5 := asd (hk.blk B5.out N5.out (by simp [Value.ownBlock]) (by simp [Value.ownBlock])); have nB7 := asd (hk.blk B7.out N7.out (by simp [Value.ownBlock]) (by simp [Value.ownBlock])); clear H K B5 B7; have H := asd hs; have K := nK; have B5 := nB5; have B7 := nB7; clear nK nB5 nB7 hs hk; have hc3 : wx4.cell? ⟨g, 3, none⟩ = some (.int .i64 s.st) := (by have q := H.out.c3; (try simp only [Rs.fls] at q); exact q); have hf3 := H.out.fz 3; have hc4 : wx4.cell? ⟨g, 4, none⟩ = some (.int .i64 s.op) := (by have q := H.out.c4; (try simp only [Rs.fls] at q); exact q); have hf4 := H.out.fz 4; have hc5 : wx4.cell? ⟨g, 5, none⟩ = some (.int .i64 s.od) := (by have q := H.out.c5; (try simp only [Rs.fls] at q); exact q); have hf5 := H.out.fz 5; have hc6 : wx4.cell? ⟨g, 6, none⟩ = some (.int .i64 s.orr) := (by have q := H.out.c6; (try simp only [Rs.fls] at q); exact q); have hf6 := H.out.fz 6; have hb5 := ca3 B5; have hb7 := ca3 B7) | ((with_reducible refine gate_callee (f := 131) rfl ?_); refine gC (some 31) Tryz.func131 (pico_Add.calls k s.st ps t0 e2 _ HA2.out) ?_; rintro e wx5 ⟨rfl, hb⟩; refine ⟨_, rfl, ?_⟩; have nH := asd (H.out.below hb); have nK := asd (K.out.step hb); have nB5 := asd (blk_below B5.out hb); have nB7 := asd (blk_below B7.out hb); clear H K B5 B7; have H := nH; have K := nK; have B5 := nB5; have B7 := nB7; clear nH nK nB5 nB7 hb; have hc3 : wx5.cell? ⟨g, 3, none⟩ = some (.int .i64 s.st) := (by have q := H.out.c3; (try simp only [Rs.fls] at q); exact q); have hf3 := H.out.fz 3; have hc4 : wx5.cell? ⟨g, 4, none⟩ = some (.int .i64 s.op) := (by have q := H.out.c4; (try simp only [Rs.fls] at q); exact q); have hf4 := H.out.fz 4; have hc5 : wx5.cell? ⟨g, 5, none⟩ = some (.int .i64 s.od) := (by have q := H.out.c5; (try simp only [Rs.fls] at q); exact q); have hf5 := H.out.fz 5; have hc6 : wx5.cell? ⟨g, 6, none⟩ = some (.int .i64 s.orr) := (by have q := H.out.c6; (try simp only [Rs.fls] at q); exact q); have hf6 := H.out.fz 6; have hb5 := ca3 B5; have hb7 := ca3 B7) | ((with_reducible refine gate_callee (f := 81) rfl ?_); refine gC (some 36) Tryz.func81 (node_fail.calls g (s.fl e1) dv av e2 w0 _ H.out) ?_; rintro e wx6 ⟨rfl, hs, hk⟩; refine ⟨_, rfl, ?_⟩; have nK := asd (K.out.thenG hk); have nB5 := asd (hk.blk B5.out N5.out (by simp [Value.ownBlock]) (by simp [Value.ownBlock])); have nB7 := asd (hk.blk B7.out N7.out (by simp [Value.ownBlock]) (by simp [Value.ownBlock])); clear H K B5 B7; have H := asd hs; have K := nK; have B5 := nB5; have B7 := nB7; clear nK nB5 nB7 hs hk; have hc3 : wx6.cell? ⟨g, 3, none⟩ = some (.int .i64 s.st) := (by have q := H.out.c3; (try simp only [Rs.fls] at q); exact q); have hf3 := H.out.fz 3; have hc4 : wx6.cell? ⟨g, 4, none⟩ = some (.int .i64 s.op) := (by have q := H.out.c4; (try simp only [Rs.fls] at q); exact q); have hf4 := H.out.fz 4; have hc5 : wx6.cell? ⟨g, 5, none⟩ = some (.int .i64 s.od) := (by have q := H.out.c5; (try simp only [Rs.fls] at q); exact q); have hf5 := H.out.fz 5; have hc6 : wx6.cell? ⟨g, 6, none⟩ = some (.int .i64 s.orr) := (by have q := H.out.c6; (try simp only [Rs.fls] at q); exact q); have hf6 := H.out.fz 6; have hb5 := ca3 B5; have hb7 := ca3 B7))
 have hnn := N7_5.out
 go_region
 go_wp2
 have nH := asd (((H.out.far B5.out L5.out (by decide) (by decide) (by decide) 0 (.int .i64 p0)).far (blk_put (cs := #[.int .i64 0, .int .i64 0, .int .i64 0]) B5.out 0 (.int .i64 p0) rfl) L5.out (by decide) (by decide) (by decide) 1 (.int .i64 d0)).far (blk_put (cs := #[.int .i64 p0, .int .i64 0, .int .i64 0]) (blk_put (cs := #[.int .i64 0, .int .i64 0, .int .i64 0]) B5.out 0 (.int .i64 p0) rfl) 1 (.int .i64 d0) rfl) L5.out (by decide) (by decide) (by decide) 2 (.int .i64 r0))
 have nK := asd (((K.out.setNew G5.out 0 (.int .i64 p0)).setNew G5.out 1 (.int .i64 d0)).setNew G5.out 2 (.int .i64 r0))
 have nB5 := asd (show (World.heap _)[gb5]? = some (Obj.cells #[.int .i64 p0, .int .i64 d0, .int .i64 r0] 26 (0, 0)) from (blk_put (cs := #[.int .i64 p0, .int .i64 d0, .int .i64 0]) (blk_put (cs := #[.int .i64 p0, .int .i64 0, .int .i64 0]) (blk_put (cs := #[.int .i64 0, .int .i64 0, .int .i64 0]) B5.out 0 (.int .i64 p0) rfl) 1 (.int .i64 d0) rfl) 2 (.int .i64 r0) rfl))
 have nB7 := asd (blk_far (p := ⟨gb5, 2, none⟩) (blk_far (p := ⟨gb5, 1, none⟩) (blk_far (p := ⟨gb5, 0, none⟩) B7.out N7_5.out.symm.symm (.int .i64 p0)) N7_5.out.symm.symm (.int .i64 d0)) N7_5.out.symm.symm (.int .i64 r0))
 clear H K B5 B7
 have H := nH
 have K := nK
 have B5 := nB5
 have B7 := nB7
 clear nH nK nB5 nB7
 refine bodyPost_ret (results_tc rfl _ _ gb5 26 #[.int .i64 p0, .int .i64 d0, .int .i64 r0] (0, 0) _ rfl B5.out Tryz.underlying26 rfl (by kernel_rfl)) rfl ?_
 exact ⟨rfl, H.out.drew, K.out.drew⟩

/-- A run asks to be woken. -/
def node_timer.f (k : Nat) (s : Rs) (ticks : Int) : Option Rs := (node_at.f k s ticks).bind fun a => some { a.2.2.2.2 with ac := a.2.2.2.2.ac ++ [⟨1, a.1, z43, 0, 0⟩] }
theorem node_at_ac {k : Nat} {s s2 : Rs} {ticks t p d r : Int} (h : node_at.f k s ticks = some (t, p, d, r, s2)) : s2.ac = s.ac ∧ s2.ds = s.ds := by
 unfold node_at.f at h
 obtain ⟨a, _, h⟩ := Option.bind_eq_some_iff.mp h
 obtain ⟨b, _, h⟩ := Option.bind_eq_some_iff.mp h
 have h := Option.some.inj h
 simp only [Prod.mk.injEq] at h
 rw [← h.2.2.2.2]
 simp only [Rs.fl_ac, Rs.fl_ds, and_self]
theorem node_timer.calls (k g : Nat) (s s2 : Rs) (dv av : Value) (ticks : Int) (w0 w : World) (h : RSt w0 w g s dv av) (hl : s.ac.length ≤ 1000000) (hf : node_timer.f k s ticks = some s2) :
  Calls Tryz.prog 54 #[.pointer (some ⟨g, 0, none⟩), .int .i64 ticks] w fun e w' => e = .returned (.tuple #[]) ∧ (∃ av', RSt w0 w' g s2 dv av' ∧ At w.heap.size av av') ∧ Kr w w' g nov av := by
 unfold node_timer.f at hf
 obtain ⟨⟨t, p, d, r, s1⟩, A1, hf⟩ := Option.bind_eq_some_iff.mp hf
 obtain rfl := Option.some.inj hf
 have hac := (node_at_ac A1).1
 have hlen := asd (show s1.ac.length ≤ 1000000 by rw [hac]; exact hl)
 have HA := asd A1
 obtain ⟨Aa, ca, eav⟩ := Kd.R_slice h.a
 subst eav
 have H := asd h
 have K := asd (Kr.refl w g nov (.slice Aa s.ac.length ca))
 have hu38 := Tryz.underlying38
 clear h A1 hac
 go_enter Tryz.func54, Tryz.ntmps54
 go_wp2_with (first | ((with_reducible refine gate_callee (f := 97) rfl ?_); refine gC (some 9) Tryz.func97 (node_at.calls k g s s1 dv _ ticks t p d r w0 _ H.out HA.out) ?_; rintro e wx1 ⟨rfl, hs, hk⟩; refine ⟨_, rfl, ?_⟩; have nK := asd (K.out.thenG hk); clear H K; have H := asd hs; have K := nK; clear nK hs hk; have hc19 : wx1.cell? ⟨g, 19, none⟩ = some (.slice Aa s.ac.length ca) := (by have q := H.out.c19; (try simp only [Rs.fls] at q); exact q); have hf19 := H.out.fz 19) | (refine bG 5 #[.int .i64 0, .int .i64 0, .int .i64 0] 26 ?_; intro gb5 hg wx2 B5 hb; have N5 := asd (by rw [hg]; exact Nat.ne_of_gt (blk_lt H.out.b) : gb5 ≠ g); have G5 := asd (by rw [hg]; exact K.out.1 : w.heap.size ≤ gb5); have L5 := asd (by rw [hg]; exact H.out.bel.size : w0.heap.size ≤ gb5); replace H := asd (H.out.below hb); replace K := asd (K.out.step hb); clear hb hg; have hc19 : wx2.cell? ⟨g, 19, none⟩ = some (.slice Aa s.ac.length ca) := (by have q := H.out.c19; (try simp only [Rs.fls] at q); exact q); have hf19 := H.out.fz 19; have hb5 := ca3 B5) | ((with_reducible refine gate_builtin (b := .append) (xs := #[.tmp 16, .tmp 19]) rfl ?_); have nH := asd (((H.out.far B5.out L5.out (by decide) (by decide) (by decide) 0 (.int .i64 p)).far (blk_put (cs := #[.int .i64 0, .int .i64 0, .int .i64 0]) B5.out 0 (.int .i64 p) rfl) L5.out (by decide) (by decide) (by decide) 1 (.int .i64 d)).far (blk_put (cs := #[.int .i64 p, .int .i64 0, .int .i64 0]) (blk_put (cs := #[.int .i64 0, .int .i64 0, .int .i64 0]) B5.out 0 (.int .i64 p) rfl) 1 (.int .i64 d) rfl) L5.out (by decide) (by decide) (by decide) 2 (.int .i64 r)); have nK := asd (((K.out.setNew G5.out 0 (.int .i64 p)).setNew G5.out 1 (.int .i64 d)).setNew G5.out 2 (.int .i64 r)); have nB5 := asd (show (World.heap _)[gb5]? = some (Obj.cells #[.int .i64 p, .int .i64 d, .int .i64 r] 26 (0, 0)) from (blk_put (cs := #[.int .i64 p, .int .i64 d, .int .i64 0]) (blk_put (cs := #[.int .i64 p, .int .i64 0, .int .i64 0]) (blk_put (cs := #[.int .i64 0, .int .i64 0, .int .i64 0]) B5.out 0 (.int .i64 p) rfl) 1 (.int .i64 d) rfl) 2 (.int .i64 r) rfl)); clear H K B5; have H := nH; have K := nK; have B5 := nB5; clear nH nK nB5; (try (refine gate_guard (by rfl) ?_; dsimp only)); at_builtin; refine Kd.R_append k66 (w0 := w0) w0.heap.size rfl (.tmp 16) (.tmp 19) 38 66 (.agg #[.int .i64 0, .int .i64 0, .int .i64 0, .int .i64 0, .int .u64 0, .int .u16 0, .int .i64 0, .int .i64 0]) 64 rfl Tryz.underlying38 info66 rfl (by decide) (by omega) (.slice Aa s.ac.length ca) ((s1).ac) ((⟨1, t, z43, 0, 0⟩ : S66)) [.int .i64 1, .int .i64 t, .int .i64 0, .int .i64 0, .int .u64 0, .int .u16 0, .int .i64 0, .int .i64 0] (fun _ => True) (fun _ => False) rfl ?hx ?aP (fun _ hk => hk.elim) ?aF ?aO ?aB ?aS ?aL ?_; (case hx => first | rfl | (simp only [size_set]; rfl)); (case aP => exact k66_mkM _ _ _ ((⟨1, t, z43, 0, 0⟩ : S66))); (case aB => exact H.out.bel); (case aF => exact fun _ _ => trivial); (case aO => exact H.out.a); (case aS => exact below_size H.out.bel); (case aL => have := hlen.out; (try simp only [Rs.fl_ac, Rs.fl_ds] at *); omega); intro v2 wx3 ho hb hg hat; have B0 := asd (blk_grown H.out.b hg (Kd.R_ne H.out.a H.out.b (by decide))); have O0 := asd (Kd.R_over' H.out.d (Kd.R_typed H.out.a) (by decide) hg); have R0 := asd ho; obtain ⟨A2, c2, e2⟩ := Kd.R_slice R0.out; subst e2; have L0 := asd hb; have AT0 := asd hat; have GE0 := asd H.out.ge; have KS := asd K.out.1; have nK := asd (K.out.trans (At.refl _ _) (At.refl _ _) (Kr.grownA hg g nov)); have nB5 := asd (blk_grown B5.out hg (Kd.R_ne H.out.a B5.out (by decide))); clear H K B5; have K := nK; have B5 := nB5; clear nK nB5 ho hb hg hat; have hc19 : wx3.cell? ⟨g, 19, none⟩ = some (.slice Aa s.ac.length ca) := (blk_cell B0.out 19).trans rfl; have hf19 := blk_frozen B0.out 19; have hb5 := ca3 B5))
 first | go_end0 | ((try simp only [Exit.inBlock, Exit.then]); refine bodyPost_ret (results_none rfl _ _ _) rfl ?_)
 have R1 := R0.out
 rw [List.length_append, List.length_singleton] at R1
 exact ⟨rfl, ⟨_, ⟨blk_set B0.out 19 _, Kd.R_set O0.out B0.out (by decide) 19 _, Kd.R_set R1 B0.out (by decide) 19 _, L0.out.setCell GE0.out _, GE0.out⟩, by have q := AT0.out; rw [List.length_append, List.length_singleton] at q; exact q.elim Or.inl fun ⟨b, e, n⟩ => Or.inr ⟨b, e, Nat.le_trans (KS.out) n⟩⟩, K.out.setG _ _⟩

/-- By how much something was late is noted. -/
def Rs.dev (s : Rs) (ticks : Int) : Rs := if (s.ds.length : Int) < s.m0 then { s with ds := s.ds ++ [ticks] } else s
theorem node_dev.calls (g : Nat) (s : Rs) (dv av : Value) (ticks : Int) (w0 w : World) (h : RSt w0 w g s dv av) (hl : s.ds.length ≤ 1000000) :
  Calls Tryz.prog 88 #[.pointer (some ⟨g, 0, none⟩), .int .i64 ticks] w fun e w' => e = .returned (.tuple #[]) ∧ (∃ dv', RSt w0 w' g (s.dev ticks) dv' av ∧ At w.heap.size dv dv') ∧ Kr w w' g dv nov := by
 have hlen := asd hl
 obtain ⟨Ad, cd, edv⟩ := Kd.R_slice h.d
 subst edv
 have H := asd h.drew
 have K := asd (Kr.refl w g (.slice Ad s.ds.length cd) nov).drew
 have hc11 := h.c11
 have hc14 := h.c14
 have hu30 := Tryz.underlying30
 clear h hl
 unfold Rs.dev
 by_cases c : (s.ds.length : Int) < s.m0
 ·rw [if_pos c]
  have cb : decide ((s.ds.length : Int) < s.m0) = true := decide_eq_true c
  go_enter Tryz.func88, Tryz.ntmps88
  go_wp2
  go_region
  clear hc11 hc14
  generalize w.drew = wd at H K ⊢
  have hc11b := H.out.c11
  have hf11b := H.out.fz 11
  go_wp2_with (first | ((with_reducible refine gate_builtin (b := .append) (xs := #[.tmp 21, .tmp 23]) rfl ?_); (try (refine gate_guard (by rfl) ?_; dsimp only)); at_builtin; refine Kd.R_append (Kd.int .i64) (w0 := w0) w0.heap.size rfl (.tmp 21) (.tmp 23) 30 2 (.int .i64 0) 8 rfl Tryz.underlying30 info2 rfl (by decide) (by omega) (.slice Ad s.ds.length cd) ((s).ds) (ticks) [.int .i64 ticks] (fun _ => True) (fun _ => False) rfl ?hx ?aP (fun _ hk => hk.elim) ?aF ?aO ?aB ?aS ?aL ?_; (case hx => first | rfl | (simp only [size_set]; rfl)); (case aP => exact rfl); (case aB => exact H.out.bel); (case aF => exact fun _ _ => trivial); (case aO => exact H.out.d); (case aS => exact below_size H.out.bel); (case aL => have := hlen.out; (try simp only [Rs.fl_ac, Rs.fl_ds] at *); omega); intro v2 wx1 ho hb hg hat; have B0 := asd (blk_grown H.out.b hg (Kd.R_ne H.out.d H.out.b (by decide))); have O0 := asd (Kd.R_over' H.out.a (Kd.R_typed H.out.d) (by decide) hg); have R0 := asd ho; obtain ⟨A2, c2, e2⟩ := Kd.R_slice R0.out; subst e2; have L0 := asd hb; have AT0 := asd hat; have GE0 := asd H.out.ge; have KS := asd K.out.1; replace K := asd (K.out.trans (At.refl _ _) (At.refl _ _) (Kr.grownD hg g nov)); clear H ho hb hg hat; have hc11 : wx1.cell? ⟨g, 11, none⟩ = some (.slice Ad s.ds.length cd) := (blk_cell B0.out 11).trans rfl; have hf11 := blk_frozen B0.out 11))
  first | go_end0 | ((try simp only [Exit.inBlock, Exit.then]); refine bodyPost_ret (results_none rfl _ _ _) rfl ?_)
  have R1 := R0.out
  rw [List.length_append, List.length_singleton] at R1
  exact ⟨rfl, ⟨_, ⟨blk_set B0.out 11 _, Kd.R_set R1 B0.out (by decide) 11 _, Kd.R_set O0.out B0.out (by decide) 11 _, L0.out.setCell GE0.out _, GE0.out⟩, by have q := AT0.out; rw [List.length_append, List.length_singleton] at q; exact q.elim Or.inl fun ⟨b, e, n⟩ => Or.inr ⟨b, e, Nat.le_trans (KS.out) n⟩⟩, K.out.setG _ _⟩
 rw [if_neg c]
 have cb : decide ((s.ds.length : Int) < s.m0) = false := decide_eq_false c
 go_enter Tryz.func88, Tryz.ntmps88
 go_wp2
 go_region
 go_wp2
 first | go_end0 | ((try simp only [Exit.inBlock, Exit.then]); refine bodyPost_ret (results_none rfl _ _ _) rfl ?_)
 exact ⟨rfl, ⟨_, H.out, At.refl _ _⟩, K.out⟩

/-- One block's cells were written. -/
structure Wr (b : Nat) (w w1 : World) : Prop where
 kp : ∀ j, j ≠ b → w1.heap[j]? = w.heap[j]?
 be : ∀ n, n ≤ b → Below n w w1
section
variable {w w0 w1 : World} {b g x T : Nat} {cs : Array Value} {s : Rs} {dv av : Value}
theorem Wr.refl (b : Nat) (w : World) : Wr b w w := ⟨fun _ _ => rfl, fun n _ => Below.refl n w⟩
theorem Wr.set (h : Wr b w w1) (i : Nat) (v : Value) : Wr b w (w1.setCell ⟨b, i, none⟩ v) := ⟨fun j hj => (Below.heap_setCell _ ⟨b, i, none⟩ v j hj).trans (h.kp j hj), fun n hn => (h.be n hn).setCell (p := ⟨b, i, none⟩) hn v⟩
theorem Wr.blk {o : Obj} (q : Wr b w w1) (h : w.heap[x]? = some o) (hn : x ≠ b) : w1.heap[x]? = some o := (q.kp x hn).trans h
theorem Wr.row {α : Type} {d : Kd α} {e base : Nat} {ok : Nat → Prop} {v : Value} {xs : List α} (q : Wr b w w1) (hB : w.heap[b]? = some (.cells cs T (0, 0))) (ht : ∀ q, q ∈ e :: d.E → q ≠ T) (h : d.R e w base ok v xs) : d.R e w1 base ok v xs :=
 Kd.R_mono (Kd.R_step (Kd.R_bound h) (fun k hk _ => by
  obtain ⟨_, _, _, y, hy, cells, hc⟩ := hk
  exact q.kp k (blk_ne hc hB (ht y hy)))) (fun k hk => hk.1)
theorem Wr.run (q : Wr b w w1) (hB : w.heap[b]? = some (.cells cs T (0, 0))) (hT : T ≠ 77) (t2 : ∀ q, q ∈ 2 :: (Kd.int .i64).E → q ≠ T) (t66 : ∀ q, q ∈ 66 :: k66.E → q ≠ T) (hge : w0.heap.size ≤ b) (h : RSt w0 w g s dv av) : RSt w0 w1 g s dv av :=
 ⟨q.blk h.b (blk_ne h.b hB (fun e => hT e.symm)), q.row hB t2 h.d, q.row hB t66 h.a, h.bel.trans (q.be _ hge), h.ge⟩
theorem Kr.wrNew {v u : Value} (h : Kr w w0 g v u) (q : Wr b w0 w1) (hge : w.heap.size ≤ b) : Kr w w1 g v u := ⟨Nat.le_trans h.1 (q.be 0 (Nat.zero_le _)).size, fun j h1 h2 h3 h4 => (q.kp j (by omega)).trans (h.2 j h1 h2 h3 h4)⟩
theorem blk14 {c0 c1 c2 c3 c4 c5 c6 c7 c8 c9 c10 c11 c12 c13 : Value} (v0 v1 v2 v3 v4 v5 v6 v7 v8 v9 v10 v11 v12 v13 : Value) (h : w.heap[b]? = some (.cells #[c0, c1, c2, c3, c4, c5, c6, c7, c8, c9, c10, c11, c12, c13] T (0, 0))) : (World.heap ((((((((((((((w.setCell ⟨b, 0, none⟩ v0).setCell ⟨b, 1, none⟩ v1).setCell ⟨b, 2, none⟩ v2).setCell ⟨b, 3, none⟩ v3).setCell ⟨b, 4, none⟩ v4).setCell ⟨b, 5, none⟩ v5).setCell ⟨b, 6, none⟩ v6).setCell ⟨b, 7, none⟩ v7).setCell ⟨b, 8, none⟩ v8).setCell ⟨b, 9, none⟩ v9).setCell ⟨b, 10, none⟩ v10).setCell ⟨b, 11, none⟩ v11).setCell ⟨b, 12, none⟩ v12).setCell ⟨b, 13, none⟩ v13))[b]? = some (Obj.cells #[v0, v1, v2, v3, v4, v5, v6, v7, v8, v9, v10, v11, v12, v13] T (0, 0)) := (blk_put (cs := #[v0, v1, v2, v3, v4, v5, v6, v7, v8, v9, v10, v11, v12, c13]) (blk_put (cs := #[v0, v1, v2, v3, v4, v5, v6, v7, v8, v9, v10, v11, c12, c13]) (blk_put (cs := #[v0, v1, v2, v3, v4, v5, v6, v7, v8, v9, v10, c11, c12, c13]) (blk_put (cs := #[v0, v1, v2, v3, v4, v5, v6, v7, v8, v9, c10, c11, c12, c13]) (blk_put (cs := #[v0, v1, v2, v3, v4, v5, v6, v7, v8, c9, c10, c11, c12, c13]) (blk_put (cs := #[v0, v1, v2, v3, v4, v5, v6, v7, c8, c9, c10, c11, c12, c13]) (blk_put (cs := #[v0, v1, v2, v3, v4, v5, v6, c7, c8, c9, c10, c11, c12, c13]) (blk_put (cs := #[v0, v1, v2, v3, v4, v5, c6, c7, c8, c9, c10, c11, c12, c13]) (blk_put (cs := #[v0, v1, v2, v3, v4, c5, c6, c7, c8, c9, c10, c11, c12, c13]) (blk_put (cs := #[v0, v1, v2, v3, c4, c5, c6, c7, c8, c9, c10, c11, c12, c13]) (blk_put (cs := #[v0, v1, v2, c3, c4, c5, c6, c7, c8, c9, c10, c11, c12, c13]) (blk_put (cs := #[v0, v1, c2, c3, c4, c5, c6, c7, c8, c9, c10, c11, c12, c13]) (blk_put (cs := #[v0, c1, c2, c3, c4, c5, c6, c7, c8, c9, c10, c11, c12, c13]) (blk_put (cs := #[c0, c1, c2, c3, c4, c5, c6, c7, c8, c9, c10, c11, c12, c13]) h 0 v0 rfl) 1 v1 rfl) 2 v2 rfl) 3 v3 rfl) 4 v4 rfl) 5 v5 rfl) 6 v6 rfl) 7 v7 rfl) 8 v8 rfl) 9 v9 rfl) 10 v10 rfl) 11 v11 rfl) 12 v12 rfl) 13 v13 rfl)
theorem facts14 {c0 c1 c2 c3 c4 c5 c6 c7 c8 c9 c10 c11 c12 c13 : Value} (h : w.heap[b]? = some (.cells #[c0, c1, c2, c3, c4, c5, c6, c7, c8, c9, c10, c11, c12, c13] T (0, 0))) : w.cell? ⟨b, 0, none⟩ = some c0 ∧ w.frozen? ⟨b, 0, none⟩ = false ∧ w.cell? ⟨b, 1, none⟩ = some c1 ∧ w.frozen? ⟨b, 1, none⟩ = false ∧ w.cell? ⟨b, 2, none⟩ = some c2 ∧ w.frozen? ⟨b, 2, none⟩ = false ∧ w.cell? ⟨b, 3, none⟩ = some c3 ∧ w.frozen? ⟨b, 3, none⟩ = false ∧ w.cell? ⟨b, 4, none⟩ = some c4 ∧ w.frozen? ⟨b, 4, none⟩ = false ∧ w.cell? ⟨b, 5, none⟩ = some c5 ∧ w.frozen? ⟨b, 5, none⟩ = false ∧ w.cell? ⟨b, 6, none⟩ = some c6 ∧ w.frozen? ⟨b, 6, none⟩ = false ∧ w.cell? ⟨b, 7, none⟩ = some c7 ∧ w.frozen? ⟨b, 7, none⟩ = false ∧ w.cell? ⟨b, 8, none⟩ = some c8 ∧ w.frozen? ⟨b, 8, none⟩ = false ∧ w.cell? ⟨b, 9, none⟩ = some c9 ∧ w.frozen? ⟨b, 9, none⟩ = false ∧ w.cell? ⟨b, 10, none⟩ = some c10 ∧ w.frozen? ⟨b, 10, none⟩ = false ∧ w.cell? ⟨b, 11, none⟩ = some c11 ∧ w.frozen? ⟨b, 11, none⟩ = false ∧ w.cell? ⟨b, 12, none⟩ = some c12 ∧ w.frozen? ⟨b, 12, none⟩ = false ∧ w.cell? ⟨b, 13, none⟩ = some c13 ∧ w.frozen? ⟨b, 13, none⟩ = false := ⟨(blk_cell h 0).trans rfl, blk_frozen h 0, (blk_cell h 1).trans rfl, blk_frozen h 1, (blk_cell h 2).trans rfl, blk_frozen h 2, (blk_cell h 3).trans rfl, blk_frozen h 3, (blk_cell h 4).trans rfl, blk_frozen h 4, (blk_cell h 5).trans rfl, blk_frozen h 5, (blk_cell h 6).trans rfl, blk_frozen h 6, (blk_cell h 7).trans rfl, blk_frozen h 7, (blk_cell h 8).trans rfl, blk_frozen h 8, (blk_cell h 9).trans rfl, blk_frozen h 9, (blk_cell h 10).trans rfl, blk_frozen h 10, (blk_cell h 11).trans rfl, blk_frozen h 11, (blk_cell h 12).trans rfl, blk_frozen h 12, (blk_cell h 13).trans rfl, blk_frozen h 13⟩
theorem RSt.all (h : RSt w0 w g s dv av) : w.cell? ⟨g, 0, none⟩ = some (.int .i64 s.id) ∧ w.cell? ⟨g, 1, none⟩ = some (.int .i64 s.ph) ∧ w.cell? ⟨g, 2, none⟩ = some (.int .u64 s.sl) ∧ w.cell? ⟨g, 3, none⟩ = some (.int .i64 s.st) ∧ w.cell? ⟨g, 4, none⟩ = some (.int .i64 s.op) ∧ w.cell? ⟨g, 5, none⟩ = some (.int .i64 s.od) ∧ w.cell? ⟨g, 6, none⟩ = some (.int .i64 s.orr) ∧ w.cell? ⟨g, 7, none⟩ = some (.int .i64 s.co) ∧ w.cell? ⟨g, 8, none⟩ = some (.int .u16 s.me) ∧ w.cell? ⟨g, 9, none⟩ = some (.int .i64 s.tg) ∧ w.cell? ⟨g, 10, none⟩ = some (.int .i64 s.tb) ∧ w.cell? ⟨g, 11, none⟩ = some dv ∧ w.cell? ⟨g, 12, none⟩ = some (.bool s.se) ∧ w.cell? ⟨g, 13, none⟩ = some (.int .i64 s.ve) ∧ w.cell? ⟨g, 19, none⟩ = some av ∧ w.cell? ⟨g, 20, none⟩ = some (.int .i64 s.er) := ⟨h.c0, h.c1, h.c2, h.c3, h.c4, h.c5, h.c6, h.c7, h.c8, h.c9, h.c10, h.c11, h.c12, h.c13, h.c19, h.c20⟩
end
/-- A run that begins; 1: it may not be. -/
def node_begin.f (k : Nat) (m0 m1 m2 m3 m4 n_id n_ph n_sl n_st n_op n_od n_orr n_co n_me n_tg n_tb n_ve : Int) (n_se : Bool) (l : List Int) (now : Int) : Option Int := if l.length < 17592186044416 then ((node_Check.f k m0 m1 m2 m3 m4 n_id n_ph n_sl n_st n_op n_od n_orr n_co n_me n_tg n_tb l n_se n_ve).bind fun c => if c = 0 then (if now < 0 then some 1 else (pico_May.f k [now]).bind fun b => some (if b = true then 0 else 1)) else some 1) else none
theorem node_begin_len {k : Nat} {m0 m1 m2 m3 m4 n_id n_ph n_sl n_st n_op n_od n_orr n_co n_me n_tg n_tb n_ve : Int} {n_se : Bool} {l : List Int} {now e : Int} (h : node_begin.f k m0 m1 m2 m3 m4 n_id n_ph n_sl n_st n_op n_od n_orr n_co n_me n_tg n_tb n_ve n_se l now = some e) : l.length < 17592186044416 := by
 unfold node_begin.f at h
 split at h
 ·assumption
 exact nomatch h
theorem node_begin.calls (k : Nat) (m0 m1 m2 m3 m4 n_id n_ph n_sl n_st n_op n_od n_orr n_co n_me n_tg n_tb n_ve : Int) (n_se : Bool) (A : Option Addr) (c : Nat) (l : List Int) (now e : Int) (w0 w : World) (W0 : Aside0 (Below w0.heap.size w0 w)) (hr : Kd.C (Kd.int .i64) w A l.length l) (hc : l.length ≤ c) (hl : l.length < 17592186044416) (h : node_begin.f k m0 m1 m2 m3 m4 n_id n_ph n_sl n_st n_op n_od n_orr n_co n_me n_tg n_tb n_ve n_se l now = some e) :
  Calls Tryz.prog 36 #[.agg #[.int .i64 m0, .int .i64 m1, .int .i64 m2, .int .i64 m3, .int .i64 m4], .agg #[.int .i64 n_id, .int .i64 n_ph, .int .u64 n_sl, .int .i64 n_st, .int .i64 n_op, .int .i64 n_od, .int .i64 n_orr, .int .i64 n_co, .int .u16 n_me, .int .i64 n_tg, .int .i64 n_tb, .slice A l.length c, .bool n_se, .int .i64 n_ve], .int .i64 now] w fun r w' => ∃ g dv, r = .returned (.pointer (some ⟨g, 0, none⟩)) ∧ RSt w0 w' g { (⟨n_id, n_ph, n_sl, n_st, n_op, n_od, n_orr, n_co, n_me, n_tg, n_tb, l, n_se, n_ve, m0, m1, m2, m3, m4, [], 0⟩ : Rs) with er := e } dv (.slice none 0 0) ∧ w.heap.size ≤ g ∧ (∀ b, dv.ownBlock = some b → w.heap.size ≤ b) ∧ Below w.heap.size w w' := by
 unfold node_begin.f at h
 rw [if_pos hl] at h
 obtain ⟨c_, A1, h⟩ := Option.bind_eq_some_iff.mp h
 have HA := asd A1
 have HR := asd hr
 have HC := asd hc
 have HLN := asd hl
 have HB := asd (Below.refl w.heap.size w)
 have hu30 := Tryz.underlying30
 clear hr hc hl A1
 go_enter Tryz.func36, Tryz.ntmps36
 go_upto_region 3 with (first | (refine bG 3 #[.int .i64 m0, .int .i64 m1, .int .i64 m2, .int .i64 m3, .int .i64 m4] 23 ?_; intro gb3 hg wx1 B3 hb; have G3 := asd (by rw [hg]; exact HB.out.size : w.heap.size ≤ gb3); replace HB := asd (below_step HB.out hb); clear hb hg; have hb3 := ca5 B3) | (refine bG 4 #[.int .i64 n_id, .int .i64 n_ph, .int .u64 n_sl, .int .i64 n_st, .int .i64 n_op, .int .i64 n_od, .int .i64 n_orr, .int .i64 n_co, .int .u16 n_me, .int .i64 n_tg, .int .i64 n_tb, .slice A l.length c, .bool n_se, .int .i64 n_ve] 32 ?_; intro gb4 hg wx2 B4 hb; have G4 := asd (by rw [hg]; exact HB.out.size : w.heap.size ≤ gb4); have N4_3 := asd (by rw [hg]; exact Nat.ne_of_gt (blk_lt B3.out) : gb4 ≠ gb3); replace HB := asd (below_step HB.out hb); replace B3 := asd (blk_below B3.out hb); clear hb hg hb3; have hb3 := ca5 B3; have hb4 := facts14 B4.out) | (refine bG 11 #[.int .i64 n_id, .int .i64 n_ph, .int .u64 n_sl, .int .i64 n_st, .int .i64 n_op, .int .i64 n_od, .int .i64 n_orr, .int .i64 n_co, .int .u16 n_me, .int .i64 n_tg, .int .i64 n_tb, .slice A l.length c, .bool n_se, .int .i64 n_ve, .int .i64 m0, .int .i64 m1, .int .i64 m2, .int .i64 m3, .int .i64 m4, .slice none 0 0, .int .i64 0] 77 ?_; intro gbg hg wx3 Bg hb; have Gg := asd (by rw [hg]; exact HB.out.size : w.heap.size ≤ gbg); have Ng_3 := asd (by rw [hg]; exact Nat.ne_of_gt (blk_lt B3.out) : gbg ≠ gb3); have Ng_4 := asd (by rw [hg]; exact Nat.ne_of_gt (blk_lt B4.out) : gbg ≠ gb4); replace HB := asd (below_step HB.out hb); replace B3 := asd (blk_below B3.out hb); replace B4 := asd (blk_below B4.out hb); clear hb hg hb3 hb4; have hb3 := ca5 B3; have hb4 := facts14 B4.out) | ((with_reducible refine gate_callee (f := 78) rfl ?_); refine gC (some 15) Tryz.func78 (node_Clone.calls A c l l _ (Kd.C_below HR.out HB.out) HC.out (by unfold node_Clone.f; rw [if_pos HLN.out])) ?_; rintro e wx4 ⟨v0, rfl, ho, hb⟩; refine ⟨_, rfl, ?_⟩; have RD := asd (Kd.R_lower ho (Nat.le_trans W0.out.size HB.out.size)); have AT := asd (fun (b : Nat) (hb_ : v0.ownBlock = some b) => Nat.le_trans HB.out.size (Kd.R_base ho b hb_)); replace HB := asd (below_step HB.out hb); replace B3 := asd (blk_below B3.out hb); replace B4 := asd (blk_below B4.out hb); replace Bg := asd (blk_below Bg.out hb); clear hb ho; obtain ⟨Ad, cd, ed⟩ := Kd.R_slice RD.out; subst ed; have hne3 : gb3 ≠ gbg := Ng_3.out.symm; have hne4 : gb4 ≠ gbg := Ng_4.out.symm; clear hb3 hb4; have hb3 := ca5 B3; have hb4 := facts14 B4.out; have hbg := ca21 Bg))
 by_cases c1 : c_ = 0
 ·rw [if_pos c1] at h
  have c1a : (c_ != 0) = false := bne_eq_false_iff_eq.mpr c1
  by_cases c2 : now < 0
  ·rw [if_pos c2] at h
   have c2a : decide (now < 0) = true := decide_eq_true c2
   obtain rfl := Option.some.inj h
   clear h
   go_wp2_with (first | ((with_reducible refine gate_callee (f := 9) rfl ?_); refine gL (some 21) Tryz.func9 #[.agg #[.int .i64 m0, .int .i64 m1, .int .i64 m2, .int .i64 m3, .int .i64 m4], .agg #[.int .i64 n_id, .int .i64 n_ph, .int .u64 n_sl, .int .i64 n_st, .int .i64 n_op, .int .i64 n_od, .int .i64 n_orr, .int .i64 n_co, .int .u16 n_me, .int .i64 n_tg, .int .i64 n_tb, .slice A l.length c, .bool n_se, .int .i64 n_ve]] ?_; have q_ := ((Wr.refl gbg wx4).set 11 (.slice Ad l.length cd)); replace B3 := asd (q_.blk B3.out Ng_3.out.symm); replace B4 := asd (q_.blk B4.out Ng_4.out.symm); replace HB := asd (HB.out.trans (q_.be _ Gg.out)); replace RD := asd (q_.row Bg.out (by decide) RD.out); replace Bg := asd (show (World.heap _)[gbg]? = some (Obj.cells #[.int .i64 n_id, .int .i64 n_ph, .int .u64 n_sl, .int .i64 n_st, .int .i64 n_op, .int .i64 n_od, .int .i64 n_orr, .int .i64 n_co, .int .u16 n_me, .int .i64 n_tg, .int .i64 n_tb, .slice Ad l.length cd, .bool n_se, .int .i64 n_ve, .int .i64 m0, .int .i64 m1, .int .i64 m2, .int .i64 m3, .int .i64 m4, .slice none 0 0, .int .i64 0] 77 (0, 0)) from (blk_put (cs := #[.int .i64 n_id, .int .i64 n_ph, .int .u64 n_sl, .int .i64 n_st, .int .i64 n_op, .int .i64 n_od, .int .i64 n_orr, .int .i64 n_co, .int .u16 n_me, .int .i64 n_tg, .int .i64 n_tb, .slice A l.length c, .bool n_se, .int .i64 n_ve, .int .i64 m0, .int .i64 m1, .int .i64 m2, .int .i64 m3, .int .i64 m4, .slice none 0 0, .int .i64 0]) Bg.out 11 (.slice Ad l.length cd) rfl)); clear q_; (first | with_reducible refine (node_Check.calls k m0 m1 m2 m3 m4 n_id n_ph n_sl n_st n_op n_od n_orr n_co n_me n_tg n_tb _ _ l n_se n_ve c_ _ (Kd.C_below HR.out HB.out) HC.out HA.out).mono ?_ | refine (node_Check.calls k m0 m1 m2 m3 m4 n_id n_ph n_sl n_st n_op n_od n_orr n_co n_me n_tg n_tb _ _ l n_se n_ve c_ _ (Kd.C_below HR.out HB.out) HC.out HA.out).mono ?_); rintro e wx5 ⟨rfl, hb⟩; refine ⟨_, rfl, ?_⟩; replace HB := asd (below_step HB.out hb); replace RD := asd (Kd.R_below RD.out hb); replace B3 := asd (blk_below B3.out hb); replace B4 := asd (blk_below B4.out hb); replace Bg := asd (blk_below Bg.out hb); clear hb hb3 hb4 hbg; have hb3 := ca5 B3; have hb4 := facts14 B4.out; have hbg := ca21 Bg))
   first | go_ret | ((try simp only [Exit.inBlock, Exit.then]); refine bodyPost_ret (results_tmp rfl _ _ _) rfl ?_)
   first | exact ⟨gbg, _, rfl, ⟨blk_set Bg.out 20 _, Kd.R_set RD.out Bg.out (by decide) 20 _, Kd.R_nil _ _ _ _ _, (below_step W0.out HB.out).setCell (p := ⟨gbg, 20, none⟩) (Nat.le_trans W0.out.size Gg.out) _, Nat.le_trans W0.out.size Gg.out⟩, Gg.out, AT.out, HB.out.setCell (p := ⟨gbg, 20, none⟩) Gg.out _⟩ | exact ⟨gbg, rfl, _, ⟨blk_set Bg.out 20 _, Kd.R_set RD.out Bg.out (by decide) 20 _, Kd.R_nil _ _ _ _ _, (below_step W0.out HB.out).setCell (p := ⟨gbg, 20, none⟩) (Nat.le_trans W0.out.size Gg.out) _, Nat.le_trans W0.out.size Gg.out⟩, Gg.out, AT.out, HB.out.setCell (p := ⟨gbg, 20, none⟩) Gg.out _⟩ | exact ⟨gbg, rfl, ⟨_, ⟨blk_set Bg.out 20 _, Kd.R_set RD.out Bg.out (by decide) 20 _, Kd.R_nil _ _ _ _ _, (below_step W0.out HB.out).setCell (p := ⟨gbg, 20, none⟩) (Nat.le_trans W0.out.size Gg.out) _, Nat.le_trans W0.out.size Gg.out⟩, Gg.out, AT.out, HB.out.setCell (p := ⟨gbg, 20, none⟩) Gg.out _⟩⟩
  rw [if_neg c2] at h
  have c2a : decide (now < 0) = false := decide_eq_false c2
  obtain ⟨t_, A2, h⟩ := Option.bind_eq_some_iff.mp h
  have HM := asd A2
  obtain rfl := Option.some.inj h
  clear A2 h
  cases t_ with
  | true =>
   go_wp2_with (first | ((with_reducible refine gate_callee (f := 9) rfl ?_); refine gL (some 21) Tryz.func9 #[.agg #[.int .i64 m0, .int .i64 m1, .int .i64 m2, .int .i64 m3, .int .i64 m4], .agg #[.int .i64 n_id, .int .i64 n_ph, .int .u64 n_sl, .int .i64 n_st, .int .i64 n_op, .int .i64 n_od, .int .i64 n_orr, .int .i64 n_co, .int .u16 n_me, .int .i64 n_tg, .int .i64 n_tb, .slice A l.length c, .bool n_se, .int .i64 n_ve]] ?_; have q_ := ((Wr.refl gbg wx4).set 11 (.slice Ad l.length cd)); replace B3 := asd (q_.blk B3.out Ng_3.out.symm); replace B4 := asd (q_.blk B4.out Ng_4.out.symm); replace HB := asd (HB.out.trans (q_.be _ Gg.out)); replace RD := asd (q_.row Bg.out (by decide) RD.out); replace Bg := asd (show (World.heap _)[gbg]? = some (Obj.cells #[.int .i64 n_id, .int .i64 n_ph, .int .u64 n_sl, .int .i64 n_st, .int .i64 n_op, .int .i64 n_od, .int .i64 n_orr, .int .i64 n_co, .int .u16 n_me, .int .i64 n_tg, .int .i64 n_tb, .slice Ad l.length cd, .bool n_se, .int .i64 n_ve, .int .i64 m0, .int .i64 m1, .int .i64 m2, .int .i64 m3, .int .i64 m4, .slice none 0 0, .int .i64 0] 77 (0, 0)) from (blk_put (cs := #[.int .i64 n_id, .int .i64 n_ph, .int .u64 n_sl, .int .i64 n_st, .int .i64 n_op, .int .i64 n_od, .int .i64 n_orr, .int .i64 n_co, .int .u16 n_me, .int .i64 n_tg, .int .i64 n_tb, .slice A l.length c, .bool n_se, .int .i64 n_ve, .int .i64 m0, .int .i64 m1, .int .i64 m2, .int .i64 m3, .int .i64 m4, .slice none 0 0, .int .i64 0]) Bg.out 11 (.slice Ad l.length cd) rfl)); clear q_; (first | with_reducible refine (node_Check.calls k m0 m1 m2 m3 m4 n_id n_ph n_sl n_st n_op n_od n_orr n_co n_me n_tg n_tb _ _ l n_se n_ve c_ _ (Kd.C_below HR.out HB.out) HC.out HA.out).mono ?_ | refine (node_Check.calls k m0 m1 m2 m3 m4 n_id n_ph n_sl n_st n_op n_od n_orr n_co n_me n_tg n_tb _ _ l n_se n_ve c_ _ (Kd.C_below HR.out HB.out) HC.out HA.out).mono ?_); rintro e wx5 ⟨rfl, hb⟩; refine ⟨_, rfl, ?_⟩; replace HB := asd (below_step HB.out hb); replace RD := asd (Kd.R_below RD.out hb); replace B3 := asd (blk_below B3.out hb); replace B4 := asd (blk_below B4.out hb); replace Bg := asd (blk_below Bg.out hb); clear hb hb3 hb4 hbg; have hb3 := ca5 B3; have hb4 := facts14 B4.out; have hbg := ca21 Bg) | ((with_reducible refine gate_dst (N := 29) rfl ?_); (try (refine gate_guard (by rfl) ?_; dsimp only)); refine Kd.R_lit (Kd.int .i64) _ 2 ?hg (N := 29) ?hd (xs := ([now] : List Int)) (inner := [.int .i64 now]) (ok := fun _ => True) (okp := fun _ => True) ?hr ?hp (fun _ hk => hk) trivial (Below.refl _ _) (Nat.le_refl _) (by simp) ?_; (case hd => rfl); (case hg => rfl); (case hr => first | (go_simp; done) | (go_simp; rfl)); (case hp => exact (Reps.one (show Kd.M (Kd.int .i64) _ _ _ now [.int .i64 now] from rfl) (Reps.none _ _))); intro vL wx6 ho hb hg_ hnew_; clear hg_ hnew_; obtain ⟨AL, cL, eo⟩ := Kd.R_slice ho; subst eo; have RL := asd ho; replace HB := asd (below_step HB.out hb); replace RD := asd (Kd.R_below RD.out hb); replace B3 := asd (blk_below B3.out hb); replace B4 := asd (blk_below B4.out hb); replace Bg := asd (blk_below Bg.out hb); clear hb ho hb3 hb4 hbg; have hb3 := ca5 B3; have hb4 := facts14 B4.out; have hbg := ca21 Bg) | (go_at_call 34; (first | with_reducible refine (pico_May.calls k AL cL [now] _ _ (Kd.R_reads' RL.out).2.2 (Kd.R_reads' RL.out).2.1 HM.out).mono ?_ | refine (pico_May.calls k AL cL [now] _ _ (Kd.R_reads' RL.out).2.2 (Kd.R_reads' RL.out).2.1 HM.out).mono ?_); rintro e wx7 ⟨rfl, hb⟩; replace HB := asd (below_step HB.out hb); replace RD := asd (Kd.R_below RD.out hb); replace RL := asd (Kd.R_below RL.out hb); replace B3 := asd (blk_below B3.out hb); replace B4 := asd (blk_below B4.out hb); replace Bg := asd (blk_below Bg.out hb); clear hb hb3 hb4 hbg; have hb3 := ca5 B3; have hb4 := facts14 B4.out; have hbg := ca21 Bg))
   first | go_ret | ((try simp only [Exit.inBlock, Exit.then]); refine bodyPost_ret (results_tmp rfl _ _ _) rfl ?_)
   first | exact ⟨gbg, _, rfl, ⟨Bg.out, RD.out, Kd.R_nil _ _ _ _ _, below_step W0.out HB.out, Nat.le_trans W0.out.size Gg.out⟩, Gg.out, AT.out, HB.out⟩ | exact ⟨gbg, rfl, _, ⟨Bg.out, RD.out, Kd.R_nil _ _ _ _ _, below_step W0.out HB.out, Nat.le_trans W0.out.size Gg.out⟩, Gg.out, AT.out, HB.out⟩ | exact ⟨gbg, rfl, ⟨_, ⟨Bg.out, RD.out, Kd.R_nil _ _ _ _ _, below_step W0.out HB.out, Nat.le_trans W0.out.size Gg.out⟩, Gg.out, AT.out, HB.out⟩⟩
  | false =>
   go_wp2_with (first | ((with_reducible refine gate_callee (f := 9) rfl ?_); refine gL (some 21) Tryz.func9 #[.agg #[.int .i64 m0, .int .i64 m1, .int .i64 m2, .int .i64 m3, .int .i64 m4], .agg #[.int .i64 n_id, .int .i64 n_ph, .int .u64 n_sl, .int .i64 n_st, .int .i64 n_op, .int .i64 n_od, .int .i64 n_orr, .int .i64 n_co, .int .u16 n_me, .int .i64 n_tg, .int .i64 n_tb, .slice A l.length c, .bool n_se, .int .i64 n_ve]] ?_; have q_ := ((Wr.refl gbg wx4).set 11 (.slice Ad l.length cd)); replace B3 := asd (q_.blk B3.out Ng_3.out.symm); replace B4 := asd (q_.blk B4.out Ng_4.out.symm); replace HB := asd (HB.out.trans (q_.be _ Gg.out)); replace RD := asd (q_.row Bg.out (by decide) RD.out); replace Bg := asd (show (World.heap _)[gbg]? = some (Obj.cells #[.int .i64 n_id, .int .i64 n_ph, .int .u64 n_sl, .int .i64 n_st, .int .i64 n_op, .int .i64 n_od, .int .i64 n_orr, .int .i64 n_co, .int .u16 n_me, .int .i64 n_tg, .int .i64 n_tb, .slice Ad l.length cd, .bool n_se, .int .i64 n_ve, .int .i64 m0, .int .i64 m1, .int .i64 m2, .int .i64 m3, .int .i64 m4, .slice none 0 0, .int .i64 0] 77 (0, 0)) from (blk_put (cs := #[.int .i64 n_id, .int .i64 n_ph, .int .u64 n_sl, .int .i64 n_st, .int .i64 n_op, .int .i64 n_od, .int .i64 n_orr, .int .i64 n_co, .int .u16 n_me, .int .i64 n_tg, .int .i64 n_tb, .slice A l.length c, .bool n_se, .int .i64 n_ve, .int .i64 m0, .int .i64 m1, .int .i64 m2, .int .i64 m3, .int .i64 m4, .slice none 0 0, .int .i64 0]) Bg.out 11 (.slice Ad l.length cd) rfl)); clear q_; (first | with_reducible refine (node_Check.calls k m0 m1 m2 m3 m4 n_id n_ph n_sl n_st n_op n_od n_orr n_co n_me n_tg n_tb _ _ l n_se n_ve c_ _ (Kd.C_below HR.out HB.out) HC.out HA.out).mono ?_ | refine (node_Check.calls k m0 m1 m2 m3 m4 n_id n_ph n_sl n_st n_op n_od n_orr n_co n_me n_tg n_tb _ _ l n_se n_ve c_ _ (Kd.C_below HR.out HB.out) HC.out HA.out).mono ?_); rintro e wx5 ⟨rfl, hb⟩; refine ⟨_, rfl, ?_⟩; replace HB := asd (below_step HB.out hb); replace RD := asd (Kd.R_below RD.out hb); replace B3 := asd (blk_below B3.out hb); replace B4 := asd (blk_below B4.out hb); replace Bg := asd (blk_below Bg.out hb); clear hb hb3 hb4 hbg; have hb3 := ca5 B3; have hb4 := facts14 B4.out; have hbg := ca21 Bg) | ((with_reducible refine gate_dst (N := 29) rfl ?_); (try (refine gate_guard (by rfl) ?_; dsimp only)); refine Kd.R_lit (Kd.int .i64) _ 2 ?hg (N := 29) ?hd (xs := ([now] : List Int)) (inner := [.int .i64 now]) (ok := fun _ => True) (okp := fun _ => True) ?hr ?hp (fun _ hk => hk) trivial (Below.refl _ _) (Nat.le_refl _) (by simp) ?_; (case hd => rfl); (case hg => rfl); (case hr => first | (go_simp; done) | (go_simp; rfl)); (case hp => exact (Reps.one (show Kd.M (Kd.int .i64) _ _ _ now [.int .i64 now] from rfl) (Reps.none _ _))); intro vL wx6 ho hb hg_ hnew_; clear hg_ hnew_; obtain ⟨AL, cL, eo⟩ := Kd.R_slice ho; subst eo; have RL := asd ho; replace HB := asd (below_step HB.out hb); replace RD := asd (Kd.R_below RD.out hb); replace B3 := asd (blk_below B3.out hb); replace B4 := asd (blk_below B4.out hb); replace Bg := asd (blk_below Bg.out hb); clear hb ho hb3 hb4 hbg; have hb3 := ca5 B3; have hb4 := facts14 B4.out; have hbg := ca21 Bg) | (go_at_call 34; (first | with_reducible refine (pico_May.calls k AL cL [now] _ _ (Kd.R_reads' RL.out).2.2 (Kd.R_reads' RL.out).2.1 HM.out).mono ?_ | refine (pico_May.calls k AL cL [now] _ _ (Kd.R_reads' RL.out).2.2 (Kd.R_reads' RL.out).2.1 HM.out).mono ?_); rintro e wx7 ⟨rfl, hb⟩; replace HB := asd (below_step HB.out hb); replace RD := asd (Kd.R_below RD.out hb); replace RL := asd (Kd.R_below RL.out hb); replace B3 := asd (blk_below B3.out hb); replace B4 := asd (blk_below B4.out hb); replace Bg := asd (blk_below Bg.out hb); clear hb hb3 hb4 hbg; have hb3 := ca5 B3; have hb4 := facts14 B4.out; have hbg := ca21 Bg))
   first | go_ret | ((try simp only [Exit.inBlock, Exit.then]); refine bodyPost_ret (results_tmp rfl _ _ _) rfl ?_)
   first | exact ⟨gbg, _, rfl, ⟨blk_set Bg.out 20 _, Kd.R_set RD.out Bg.out (by decide) 20 _, Kd.R_nil _ _ _ _ _, (below_step W0.out HB.out).setCell (p := ⟨gbg, 20, none⟩) (Nat.le_trans W0.out.size Gg.out) _, Nat.le_trans W0.out.size Gg.out⟩, Gg.out, AT.out, HB.out.setCell (p := ⟨gbg, 20, none⟩) Gg.out _⟩ | exact ⟨gbg, rfl, _, ⟨blk_set Bg.out 20 _, Kd.R_set RD.out Bg.out (by decide) 20 _, Kd.R_nil _ _ _ _ _, (below_step W0.out HB.out).setCell (p := ⟨gbg, 20, none⟩) (Nat.le_trans W0.out.size Gg.out) _, Nat.le_trans W0.out.size Gg.out⟩, Gg.out, AT.out, HB.out.setCell (p := ⟨gbg, 20, none⟩) Gg.out _⟩ | exact ⟨gbg, rfl, ⟨_, ⟨blk_set Bg.out 20 _, Kd.R_set RD.out Bg.out (by decide) 20 _, Kd.R_nil _ _ _ _ _, (below_step W0.out HB.out).setCell (p := ⟨gbg, 20, none⟩) (Nat.le_trans W0.out.size Gg.out) _, Nat.le_trans W0.out.size Gg.out⟩, Gg.out, AT.out, HB.out.setCell (p := ⟨gbg, 20, none⟩) Gg.out _⟩⟩
 rw [if_neg c1] at h
 have c1a : (c_ != 0) = true := bne_iff_ne.mpr c1
 obtain rfl := Option.some.inj h
 clear h
 go_wp2_with (first | ((with_reducible refine gate_callee (f := 9) rfl ?_); refine gL (some 21) Tryz.func9 #[.agg #[.int .i64 m0, .int .i64 m1, .int .i64 m2, .int .i64 m3, .int .i64 m4], .agg #[.int .i64 n_id, .int .i64 n_ph, .int .u64 n_sl, .int .i64 n_st, .int .i64 n_op, .int .i64 n_od, .int .i64 n_orr, .int .i64 n_co, .int .u16 n_me, .int .i64 n_tg, .int .i64 n_tb, .slice A l.length c, .bool n_se, .int .i64 n_ve]] ?_; have q_ := ((Wr.refl gbg wx4).set 11 (.slice Ad l.length cd)); replace B3 := asd (q_.blk B3.out Ng_3.out.symm); replace B4 := asd (q_.blk B4.out Ng_4.out.symm); replace HB := asd (HB.out.trans (q_.be _ Gg.out)); replace RD := asd (q_.row Bg.out (by decide) RD.out); replace Bg := asd (show (World.heap _)[gbg]? = some (Obj.cells #[.int .i64 n_id, .int .i64 n_ph, .int .u64 n_sl, .int .i64 n_st, .int .i64 n_op, .int .i64 n_od, .int .i64 n_orr, .int .i64 n_co, .int .u16 n_me, .int .i64 n_tg, .int .i64 n_tb, .slice Ad l.length cd, .bool n_se, .int .i64 n_ve, .int .i64 m0, .int .i64 m1, .int .i64 m2, .int .i64 m3, .int .i64 m4, .slice none 0 0, .int .i64 0] 77 (0, 0)) from (blk_put (cs := #[.int .i64 n_id, .int .i64 n_ph, .int .u64 n_sl, .int .i64 n_st, .int .i64 n_op, .int .i64 n_od, .int .i64 n_orr, .int .i64 n_co, .int .u16 n_me, .int .i64 n_tg, .int .i64 n_tb, .slice A l.length c, .bool n_se, .int .i64 n_ve, .int .i64 m0, .int .i64 m1, .int .i64 m2, .int .i64 m3, .int .i64 m4, .slice none 0 0, .int .i64 0]) Bg.out 11 (.slice Ad l.length cd) rfl)); clear q_; (first | with_reducible refine (node_Check.calls k m0 m1 m2 m3 m4 n_id n_ph n_sl n_st n_op n_od n_orr n_co n_me n_tg n_tb _ _ l n_se n_ve c_ _ (Kd.C_below HR.out HB.out) HC.out HA.out).mono ?_ | refine (node_Check.calls k m0 m1 m2 m3 m4 n_id n_ph n_sl n_st n_op n_od n_orr n_co n_me n_tg n_tb _ _ l n_se n_ve c_ _ (Kd.C_below HR.out HB.out) HC.out HA.out).mono ?_); rintro e wx5 ⟨rfl, hb⟩; refine ⟨_, rfl, ?_⟩; replace HB := asd (below_step HB.out hb); replace RD := asd (Kd.R_below RD.out hb); replace B3 := asd (blk_below B3.out hb); replace B4 := asd (blk_below B4.out hb); replace Bg := asd (blk_below Bg.out hb); clear hb hb3 hb4 hbg; have hb3 := ca5 B3; have hb4 := facts14 B4.out; have hbg := ca21 Bg))
 first | go_ret | ((try simp only [Exit.inBlock, Exit.then]); refine bodyPost_ret (results_tmp rfl _ _ _) rfl ?_)
 first | exact ⟨gbg, _, rfl, ⟨blk_set Bg.out 20 _, Kd.R_set RD.out Bg.out (by decide) 20 _, Kd.R_nil _ _ _ _ _, (below_step W0.out HB.out).setCell (p := ⟨gbg, 20, none⟩) (Nat.le_trans W0.out.size Gg.out) _, Nat.le_trans W0.out.size Gg.out⟩, Gg.out, AT.out, HB.out.setCell (p := ⟨gbg, 20, none⟩) Gg.out _⟩ | exact ⟨gbg, rfl, _, ⟨blk_set Bg.out 20 _, Kd.R_set RD.out Bg.out (by decide) 20 _, Kd.R_nil _ _ _ _ _, (below_step W0.out HB.out).setCell (p := ⟨gbg, 20, none⟩) (Nat.le_trans W0.out.size Gg.out) _, Nat.le_trans W0.out.size Gg.out⟩, Gg.out, AT.out, HB.out.setCell (p := ⟨gbg, 20, none⟩) Gg.out _⟩ | exact ⟨gbg, rfl, ⟨_, ⟨blk_set Bg.out 20 _, Kd.R_set RD.out Bg.out (by decide) 20 _, Kd.R_nil _ _ _ _ _, (below_step W0.out HB.out).setCell (p := ⟨gbg, 20, none⟩) (Nat.le_trans W0.out.size Gg.out) _, Nat.le_trans W0.out.size Gg.out⟩, Gg.out, AT.out, HB.out.setCell (p := ⟨gbg, 20, none⟩) Gg.out _⟩⟩

/-- A node. -/
def node_New.f (k : Nat) (m0 m1 m2 m3 m4 i p d r : Int) : Option (Int × Int × Int × Int × Int × Int × Int × Int × Int × Int × Int × List Int × Bool × Int × Int) := (node_Check.f k m0 m1 m2 m3 m4 i 0 0 0 p d r 0 0 0 0 ([] : List Int) false 0).bind fun c => if c = 0 then some (i, 0, 0, 0, p, d, r, 0, 0, 0, 0, ([] : List Int), false, 0, 0) else some (0, 0, 0, 0, 0, 0, 0, 0, 0, 0, 0, ([] : List Int), false, 0, c)
theorem node_New.calls (k : Nat) (m0 m1 m2 m3 m4 i p d r r1 r2 r3 r4 r5 r6 r7 r8 r9 r10 r11 : Int) (r12 : List Int) (r13 : Bool) (r14 r15 : Int) (w : World) (h : node_New.f k m0 m1 m2 m3 m4 i p d r = some (r1, r2, r3, r4, r5, r6, r7, r8, r9, r10, r11, r12, r13, r14, r15)) :
  Calls Tryz.prog 13 #[.agg #[.int .i64 m0, .int .i64 m1, .int .i64 m2, .int .i64 m3, .int .i64 m4], .int .i64 i, .agg #[.int .i64 p, .int .i64 d, .int .i64 r]] w fun e w' => ∃ v11_ : Value, e = .returned (.tuple #[.agg #[.int .i64 r1, .int .i64 r2, .int .u64 r3, .int .i64 r4, .int .i64 r5, .int .i64 r6, .int .i64 r7, .int .i64 r8, .int .u16 r9, .int .i64 r10, .int .i64 r11, v11_, .bool r13, .int .i64 r14], .int .i64 r15]) ∧ Kd.R (Kd.int .i64) 2 w' w.heap.size (fun _ => True) v11_ r12 ∧ Below w.heap.size w w' := by
 unfold node_New.f at h
 obtain ⟨c_, A1, h⟩ := Option.bind_eq_some_iff.mp h
 have HA := asd A1
 have HB := asd (Below.refl w.heap.size w)
 clear A1
 by_cases c1 : c_ = 0
 ·have c1a : (c_ != 0) = false := bne_eq_false_iff_eq.mpr c1
  rw [if_pos c1] at h
  have h := Option.some.inj h
  simp only [Prod.mk.injEq] at h
  obtain ⟨rfl, rfl, rfl, rfl, rfl, rfl, rfl, rfl, rfl, rfl, rfl, rfl, rfl, rfl, rfl⟩ := h
  go_enter Tryz.func13, Tryz.ntmps13
  go_wp2_with (first | (refine bG 3 #[.int .i64 m0, .int .i64 m1, .int .i64 m2, .int .i64 m3, .int .i64 m4] 23 ?_; intro gb3 hg wx1 B3 hb; have G3 := asd (by rw [hg]; exact HB.out.size : w.heap.size ≤ gb3); replace HB := asd (below_step HB.out hb); clear hb hg) | (refine bG 5 #[.int .i64 p, .int .i64 d, .int .i64 r] 26 ?_; intro gb5 hg wx2 B5 hb; have G5 := asd (by rw [hg]; exact HB.out.size : w.heap.size ≤ gb5); have N5_3 := asd (by rw [hg]; exact Nat.ne_of_gt (blk_lt B3.out) : gb5 ≠ gb3); replace HB := asd (below_step HB.out hb); replace B3 := asd (blk_below B3.out hb); clear hb hg; have hb5 := ca3 B5) | (refine bG 6 #[.int .i64 0, .int .i64 0, .int .u64 0, .int .i64 0, .int .i64 0, .int .i64 0, .int .i64 0, .int .i64 0, .int .u16 0, .int .i64 0, .int .i64 0, .slice none 0 0, .bool false, .int .i64 0] 32 ?_; intro gb6 hg wx3 B6 hb; have G6 := asd (by rw [hg]; exact HB.out.size : w.heap.size ≤ gb6); have N6_3 := asd (by rw [hg]; exact Nat.ne_of_gt (blk_lt B3.out) : gb6 ≠ gb3); have N6_5 := asd (by rw [hg]; exact Nat.ne_of_gt (blk_lt B5.out) : gb6 ≠ gb5); replace HB := asd (below_step HB.out hb); replace B3 := asd (blk_below B3.out hb); replace B5 := asd (blk_below B5.out hb); clear hb hg hb5; have hb5 := ca3 B5) | (refine bG 8 #[.int .i64 0, .int .i64 0, .int .u64 0, .int .i64 0, .int .i64 0, .int .i64 0, .int .i64 0, .int .i64 0, .int .u16 0, .int .i64 0, .int .i64 0, .slice none 0 0, .bool false, .int .i64 0] 32 ?_; intro gb8 hg wx4 B8 hb; have G8 := asd (by rw [hg]; exact HB.out.size : w.heap.size ≤ gb8); have N8_3 := asd (by rw [hg]; exact Nat.ne_of_gt (blk_lt B3.out) : gb8 ≠ gb3); have N8_5 := asd (by rw [hg]; exact Nat.ne_of_gt (blk_lt B5.out) : gb8 ≠ gb5); have N8_6 := asd (by rw [hg]; exact Nat.ne_of_gt (blk_lt B6.out) : gb8 ≠ gb6); replace HB := asd (below_step HB.out hb); replace B3 := asd (blk_below B3.out hb); replace B5 := asd (blk_below B5.out hb); replace B6 := asd (blk_below B6.out hb); clear hb hg hb5; have hb8 := facts14 B8.out; have hb3 := ca5 B3; have hne3 : gb3 ≠ gb8 := N8_3.out.symm) | ((with_reducible refine gate_callee (f := 9) rfl ?_); refine gL (some 15) Tryz.func9 #[.agg #[.int .i64 m0, .int .i64 m1, .int .i64 m2, .int .i64 m3, .int .i64 m4], .agg #[.int .i64 i, .int .i64 0, .int .u64 0, .int .i64 0, .int .i64 p, .int .i64 d, .int .i64 r, .int .i64 0, .int .u16 0, .int .i64 0, .int .i64 0, .slice none 0 0, .bool false, .int .i64 0]] ?_; have q_ := (((((((((((((((Wr.refl gb8 wx4).set 0 (.int .i64 i)).set 1 (.int .i64 0)).set 2 (.int .u64 0)).set 3 (.int .i64 0)).set 4 (.int .i64 p)).set 5 (.int .i64 d)).set 6 (.int .i64 r)).set 7 (.int .i64 0)).set 8 (.int .u16 0)).set 9 (.int .i64 0)).set 10 (.int .i64 0)).set 11 (.slice none 0 0)).set 12 (.bool false)).set 13 (.int .i64 0)); replace B8 := asd (blk14 (.int .i64 i) (.int .i64 0) (.int .u64 0) (.int .i64 0) (.int .i64 p) (.int .i64 d) (.int .i64 r) (.int .i64 0) (.int .u16 0) (.int .i64 0) (.int .i64 0) (.slice none 0 0) (.bool false) (.int .i64 0) B8.out); replace B3 := asd (q_.blk B3.out N8_3.out.symm); replace B5 := asd (q_.blk B5.out N8_5.out.symm); replace B6 := asd (q_.blk B6.out N8_6.out.symm); replace HB := asd (HB.out.trans (q_.be _ G8.out)); clear q_; (first | with_reducible refine (node_Check.calls k m0 m1 m2 m3 m4 i 0 0 0 p d r 0 0 0 0 none 0 [] false 0 c_ _ (Kd.C_nil _ _) (Nat.le_refl _) HA.out).mono ?_ | refine (node_Check.calls k m0 m1 m2 m3 m4 i 0 0 0 p d r 0 0 0 0 none 0 [] false 0 c_ _ (Kd.C_nil _ _) (Nat.le_refl _) HA.out).mono ?_); rintro e wx5 ⟨rfl, hb⟩; refine ⟨_, rfl, ?_⟩; replace HB := asd (below_step HB.out hb); replace B3 := asd (blk_below B3.out hb); replace B5 := asd (blk_below B5.out hb); replace B6 := asd (blk_below B6.out hb); replace B8 := asd (blk_below B8.out hb); clear hb hb8 hb3; have hb8 := facts14 B8.out; have hb6 := facts14 B6.out))
  have q_ := (((((((((((((((Wr.refl gb6 wx5).set 0 (.int .i64 i)).set 1 (.int .i64 0)).set 2 (.int .u64 0)).set 3 (.int .i64 0)).set 4 (.int .i64 p)).set 5 (.int .i64 d)).set 6 (.int .i64 r)).set 7 (.int .i64 0)).set 8 (.int .u16 0)).set 9 (.int .i64 0)).set 10 (.int .i64 0)).set 11 (.slice none 0 0)).set 12 (.bool false)).set 13 (.int .i64 0))
  replace B6 := asd (blk14 (.int .i64 i) (.int .i64 0) (.int .u64 0) (.int .i64 0) (.int .i64 p) (.int .i64 d) (.int .i64 r) (.int .i64 0) (.int .u16 0) (.int .i64 0) (.int .i64 0) (.slice none 0 0) (.bool false) (.int .i64 0) B6.out)
  replace B3 := asd (q_.blk B3.out N6_3.out.symm)
  replace B5 := asd (q_.blk B5.out N6_5.out.symm)
  replace B8 := asd (q_.blk B8.out N8_6.out)
  replace HB := asd (HB.out.trans (q_.be _ G6.out))
  clear q_
  refine bodyPost_ret (results_ct rfl _ _ gb6 32 #[.int .i64 i, .int .i64 0, .int .u64 0, .int .i64 0, .int .i64 p, .int .i64 d, .int .i64 r, .int .i64 0, .int .u16 0, .int .i64 0, .int .i64 0, .slice none 0 0, .bool false, .int .i64 0] (0, 0) _ rfl B6.out Tryz.underlying32 rfl (by kernel_rfl)) rfl ?_
  exact ⟨_, rfl, Kd.R_nil _ _ _ _ _, HB.out⟩
 have c1a : (c_ != 0) = true := bne_iff_ne.mpr c1
 rw [if_neg c1] at h
 have h := Option.some.inj h
 simp only [Prod.mk.injEq] at h
 obtain ⟨rfl, rfl, rfl, rfl, rfl, rfl, rfl, rfl, rfl, rfl, rfl, rfl, rfl, rfl, rfl⟩ := h
 go_enter Tryz.func13, Tryz.ntmps13
 go_wp2_with (first | (refine bG 3 #[.int .i64 m0, .int .i64 m1, .int .i64 m2, .int .i64 m3, .int .i64 m4] 23 ?_; intro gb3 hg wx1 B3 hb; have G3 := asd (by rw [hg]; exact HB.out.size : w.heap.size ≤ gb3); replace HB := asd (below_step HB.out hb); clear hb hg) | (refine bG 5 #[.int .i64 p, .int .i64 d, .int .i64 r] 26 ?_; intro gb5 hg wx2 B5 hb; have G5 := asd (by rw [hg]; exact HB.out.size : w.heap.size ≤ gb5); have N5_3 := asd (by rw [hg]; exact Nat.ne_of_gt (blk_lt B3.out) : gb5 ≠ gb3); replace HB := asd (below_step HB.out hb); replace B3 := asd (blk_below B3.out hb); clear hb hg; have hb5 := ca3 B5) | (refine bG 6 #[.int .i64 0, .int .i64 0, .int .u64 0, .int .i64 0, .int .i64 0, .int .i64 0, .int .i64 0, .int .i64 0, .int .u16 0, .int .i64 0, .int .i64 0, .slice none 0 0, .bool false, .int .i64 0] 32 ?_; intro gb6 hg wx3 B6 hb; have G6 := asd (by rw [hg]; exact HB.out.size : w.heap.size ≤ gb6); have N6_3 := asd (by rw [hg]; exact Nat.ne_of_gt (blk_lt B3.out) : gb6 ≠ gb3); have N6_5 := asd (by rw [hg]; exact Nat.ne_of_gt (blk_lt B5.out) : gb6 ≠ gb5); replace HB := asd (below_step HB.out hb); replace B3 := asd (blk_below B3.out hb); replace B5 := asd (blk_below B5.out hb); clear hb hg hb5; have hb5 := ca3 B5) | (refine bG 8 #[.int .i64 0, .int .i64 0, .int .u64 0, .int .i64 0, .int .i64 0, .int .i64 0, .int .i64 0, .int .i64 0, .int .u16 0, .int .i64 0, .int .i64 0, .slice none 0 0, .bool false, .int .i64 0] 32 ?_; intro gb8 hg wx4 B8 hb; have G8 := asd (by rw [hg]; exact HB.out.size : w.heap.size ≤ gb8); have N8_3 := asd (by rw [hg]; exact Nat.ne_of_gt (blk_lt B3.out) : gb8 ≠ gb3); have N8_5 := asd (by rw [hg]; exact Nat.ne_of_gt (blk_lt B5.out) : gb8 ≠ gb5); have N8_6 := asd (by rw [hg]; exact Nat.ne_of_gt (blk_lt B6.out) : gb8 ≠ gb6); replace HB := asd (below_step HB.out hb); replace B3 := asd (blk_below B3.out hb); replace B5 := asd (blk_below B5.out hb); replace B6 := asd (blk_below B6.out hb); clear hb hg hb5; have hb8 := facts14 B8.out; have hb3 := ca5 B3; have hne3 : gb3 ≠ gb8 := N8_3.out.symm) | ((with_reducible refine gate_callee (f := 9) rfl ?_); refine gL (some 15) Tryz.func9 #[.agg #[.int .i64 m0, .int .i64 m1, .int .i64 m2, .int .i64 m3, .int .i64 m4], .agg #[.int .i64 i, .int .i64 0, .int .u64 0, .int .i64 0, .int .i64 p, .int .i64 d, .int .i64 r, .int .i64 0, .int .u16 0, .int .i64 0, .int .i64 0, .slice none 0 0, .bool false, .int .i64 0]] ?_; have q_ := (((((((((((((((Wr.refl gb8 wx4).set 0 (.int .i64 i)).set 1 (.int .i64 0)).set 2 (.int .u64 0)).set 3 (.int .i64 0)).set 4 (.int .i64 p)).set 5 (.int .i64 d)).set 6 (.int .i64 r)).set 7 (.int .i64 0)).set 8 (.int .u16 0)).set 9 (.int .i64 0)).set 10 (.int .i64 0)).set 11 (.slice none 0 0)).set 12 (.bool false)).set 13 (.int .i64 0)); replace B8 := asd (blk14 (.int .i64 i) (.int .i64 0) (.int .u64 0) (.int .i64 0) (.int .i64 p) (.int .i64 d) (.int .i64 r) (.int .i64 0) (.int .u16 0) (.int .i64 0) (.int .i64 0) (.slice none 0 0) (.bool false) (.int .i64 0) B8.out); replace B3 := asd (q_.blk B3.out N8_3.out.symm); replace B5 := asd (q_.blk B5.out N8_5.out.symm); replace B6 := asd (q_.blk B6.out N8_6.out.symm); replace HB := asd (HB.out.trans (q_.be _ G8.out)); clear q_; (first | with_reducible refine (node_Check.calls k m0 m1 m2 m3 m4 i 0 0 0 p d r 0 0 0 0 none 0 [] false 0 c_ _ (Kd.C_nil _ _) (Nat.le_refl _) HA.out).mono ?_ | refine (node_Check.calls k m0 m1 m2 m3 m4 i 0 0 0 p d r 0 0 0 0 none 0 [] false 0 c_ _ (Kd.C_nil _ _) (Nat.le_refl _) HA.out).mono ?_); rintro e wx5 ⟨rfl, hb⟩; refine ⟨_, rfl, ?_⟩; replace HB := asd (below_step HB.out hb); replace B3 := asd (blk_below B3.out hb); replace B5 := asd (blk_below B5.out hb); replace B6 := asd (blk_below B6.out hb); replace B8 := asd (blk_below B8.out hb); clear hb hb8 hb3; have hb8 := facts14 B8.out; have hb6 := facts14 B6.out))
 have q_ := (((((((((((((((Wr.refl gb6 wx5).set 0 (.int .i64 0)).set 1 (.int .i64 0)).set 2 (.int .u64 0)).set 3 (.int .i64 0)).set 4 (.int .i64 0)).set 5 (.int .i64 0)).set 6 (.int .i64 0)).set 7 (.int .i64 0)).set 8 (.int .u16 0)).set 9 (.int .i64 0)).set 10 (.int .i64 0)).set 11 (.slice none 0 0)).set 12 (.bool false)).set 13 (.int .i64 0))
 replace B6 := asd (blk14 (.int .i64 0) (.int .i64 0) (.int .u64 0) (.int .i64 0) (.int .i64 0) (.int .i64 0) (.int .i64 0) (.int .i64 0) (.int .u16 0) (.int .i64 0) (.int .i64 0) (.slice none 0 0) (.bool false) (.int .i64 0) B6.out)
 replace B3 := asd (q_.blk B3.out N6_3.out.symm)
 replace B5 := asd (q_.blk B5.out N6_5.out.symm)
 replace B8 := asd (q_.blk B8.out N8_6.out)
 replace HB := asd (HB.out.trans (q_.be _ G6.out))
 clear q_
 refine bodyPost_ret (results_ct rfl _ _ gb6 32 #[.int .i64 0, .int .i64 0, .int .u64 0, .int .i64 0, .int .i64 0, .int .i64 0, .int .i64 0, .int .i64 0, .int .u16 0, .int .i64 0, .int .i64 0, .slice none 0 0, .bool false, .int .i64 0] (0, 0) _ rfl B6.out Tryz.underlying32 rfl (by kernel_rfl)) rfl ?_
 exact ⟨_, rfl, Kd.R_nil _ _ _ _ _, HB.out⟩

/-- All of a run's node is written. -/
theorem RSt.set14 {w0 wi : World} {g : Nat} {s : Rs} {dv av : Value} (h : RSt w0 wi g s dv av) (n : Rs) (u : Value) (hu : Kd.R (Kd.int .i64) 2 wi w0.heap.size (fun _ => True) u n.ds) : RSt w0 ((((((((((((((wi.setCell ⟨g, 0, none⟩ (.int .i64 n.id)).setCell ⟨g, 1, none⟩ (.int .i64 n.ph)).setCell ⟨g, 2, none⟩ (.int .u64 n.sl)).setCell ⟨g, 3, none⟩ (.int .i64 n.st)).setCell ⟨g, 4, none⟩ (.int .i64 n.op)).setCell ⟨g, 5, none⟩ (.int .i64 n.od)).setCell ⟨g, 6, none⟩ (.int .i64 n.orr)).setCell ⟨g, 7, none⟩ (.int .i64 n.co)).setCell ⟨g, 8, none⟩ (.int .u16 n.me)).setCell ⟨g, 9, none⟩ (.int .i64 n.tg)).setCell ⟨g, 10, none⟩ (.int .i64 n.tb)).setCell ⟨g, 11, none⟩ (u)).setCell ⟨g, 12, none⟩ (.bool n.se)).setCell ⟨g, 13, none⟩ (.int .i64 n.ve)) g { n with m0 := s.m0, m1 := s.m1, m2 := s.m2, m3 := s.m3, m4 := s.m4, ac := s.ac, er := s.er } u av :=
 have q := (((((((((((((((Wr.refl g wi).set 0 (.int .i64 n.id)).set 1 (.int .i64 n.ph)).set 2 (.int .u64 n.sl)).set 3 (.int .i64 n.st)).set 4 (.int .i64 n.op)).set 5 (.int .i64 n.od)).set 6 (.int .i64 n.orr)).set 7 (.int .i64 n.co)).set 8 (.int .u16 n.me)).set 9 (.int .i64 n.tg)).set 10 (.int .i64 n.tb)).set 11 (u)).set 12 (.bool n.se)).set 13 (.int .i64 n.ve))
 ⟨(blk_put (cs := #[.int .i64 n.id, .int .i64 n.ph, .int .u64 n.sl, .int .i64 n.st, .int .i64 n.op, .int .i64 n.od, .int .i64 n.orr, .int .i64 n.co, .int .u16 n.me, .int .i64 n.tg, .int .i64 n.tb, u, .bool n.se, .int .i64 s.ve, .int .i64 s.m0, .int .i64 s.m1, .int .i64 s.m2, .int .i64 s.m3, .int .i64 s.m4, av, .int .i64 s.er]) (blk_put (cs := #[.int .i64 n.id, .int .i64 n.ph, .int .u64 n.sl, .int .i64 n.st, .int .i64 n.op, .int .i64 n.od, .int .i64 n.orr, .int .i64 n.co, .int .u16 n.me, .int .i64 n.tg, .int .i64 n.tb, u, .bool s.se, .int .i64 s.ve, .int .i64 s.m0, .int .i64 s.m1, .int .i64 s.m2, .int .i64 s.m3, .int .i64 s.m4, av, .int .i64 s.er]) (blk_put (cs := #[.int .i64 n.id, .int .i64 n.ph, .int .u64 n.sl, .int .i64 n.st, .int .i64 n.op, .int .i64 n.od, .int .i64 n.orr, .int .i64 n.co, .int .u16 n.me, .int .i64 n.tg, .int .i64 n.tb, dv, .bool s.se, .int .i64 s.ve, .int .i64 s.m0, .int .i64 s.m1, .int .i64 s.m2, .int .i64 s.m3, .int .i64 s.m4, av, .int .i64 s.er]) (blk_put (cs := #[.int .i64 n.id, .int .i64 n.ph, .int .u64 n.sl, .int .i64 n.st, .int .i64 n.op, .int .i64 n.od, .int .i64 n.orr, .int .i64 n.co, .int .u16 n.me, .int .i64 n.tg, .int .i64 s.tb, dv, .bool s.se, .int .i64 s.ve, .int .i64 s.m0, .int .i64 s.m1, .int .i64 s.m2, .int .i64 s.m3, .int .i64 s.m4, av, .int .i64 s.er]) (blk_put (cs := #[.int .i64 n.id, .int .i64 n.ph, .int .u64 n.sl, .int .i64 n.st, .int .i64 n.op, .int .i64 n.od, .int .i64 n.orr, .int .i64 n.co, .int .u16 n.me, .int .i64 s.tg, .int .i64 s.tb, dv, .bool s.se, .int .i64 s.ve, .int .i64 s.m0, .int .i64 s.m1, .int .i64 s.m2, .int .i64 s.m3, .int .i64 s.m4, av, .int .i64 s.er]) (blk_put (cs := #[.int .i64 n.id, .int .i64 n.ph, .int .u64 n.sl, .int .i64 n.st, .int .i64 n.op, .int .i64 n.od, .int .i64 n.orr, .int .i64 n.co, .int .u16 s.me, .int .i64 s.tg, .int .i64 s.tb, dv, .bool s.se, .int .i64 s.ve, .int .i64 s.m0, .int .i64 s.m1, .int .i64 s.m2, .int .i64 s.m3, .int .i64 s.m4, av, .int .i64 s.er]) (blk_put (cs := #[.int .i64 n.id, .int .i64 n.ph, .int .u64 n.sl, .int .i64 n.st, .int .i64 n.op, .int .i64 n.od, .int .i64 n.orr, .int .i64 s.co, .int .u16 s.me, .int .i64 s.tg, .int .i64 s.tb, dv, .bool s.se, .int .i64 s.ve, .int .i64 s.m0, .int .i64 s.m1, .int .i64 s.m2, .int .i64 s.m3, .int .i64 s.m4, av, .int .i64 s.er]) (blk_put (cs := #[.int .i64 n.id, .int .i64 n.ph, .int .u64 n.sl, .int .i64 n.st, .int .i64 n.op, .int .i64 n.od, .int .i64 s.orr, .int .i64 s.co, .int .u16 s.me, .int .i64 s.tg, .int .i64 s.tb, dv, .bool s.se, .int .i64 s.ve, .int .i64 s.m0, .int .i64 s.m1, .int .i64 s.m2, .int .i64 s.m3, .int .i64 s.m4, av, .int .i64 s.er]) (blk_put (cs := #[.int .i64 n.id, .int .i64 n.ph, .int .u64 n.sl, .int .i64 n.st, .int .i64 n.op, .int .i64 s.od, .int .i64 s.orr, .int .i64 s.co, .int .u16 s.me, .int .i64 s.tg, .int .i64 s.tb, dv, .bool s.se, .int .i64 s.ve, .int .i64 s.m0, .int .i64 s.m1, .int .i64 s.m2, .int .i64 s.m3, .int .i64 s.m4, av, .int .i64 s.er]) (blk_put (cs := #[.int .i64 n.id, .int .i64 n.ph, .int .u64 n.sl, .int .i64 n.st, .int .i64 s.op, .int .i64 s.od, .int .i64 s.orr, .int .i64 s.co, .int .u16 s.me, .int .i64 s.tg, .int .i64 s.tb, dv, .bool s.se, .int .i64 s.ve, .int .i64 s.m0, .int .i64 s.m1, .int .i64 s.m2, .int .i64 s.m3, .int .i64 s.m4, av, .int .i64 s.er]) (blk_put (cs := #[.int .i64 n.id, .int .i64 n.ph, .int .u64 n.sl, .int .i64 s.st, .int .i64 s.op, .int .i64 s.od, .int .i64 s.orr, .int .i64 s.co, .int .u16 s.me, .int .i64 s.tg, .int .i64 s.tb, dv, .bool s.se, .int .i64 s.ve, .int .i64 s.m0, .int .i64 s.m1, .int .i64 s.m2, .int .i64 s.m3, .int .i64 s.m4, av, .int .i64 s.er]) (blk_put (cs := #[.int .i64 n.id, .int .i64 n.ph, .int .u64 s.sl, .int .i64 s.st, .int .i64 s.op, .int .i64 s.od, .int .i64 s.orr, .int .i64 s.co, .int .u16 s.me, .int .i64 s.tg, .int .i64 s.tb, dv, .bool s.se, .int .i64 s.ve, .int .i64 s.m0, .int .i64 s.m1, .int .i64 s.m2, .int .i64 s.m3, .int .i64 s.m4, av, .int .i64 s.er]) (blk_put (cs := #[.int .i64 n.id, .int .i64 s.ph, .int .u64 s.sl, .int .i64 s.st, .int .i64 s.op, .int .i64 s.od, .int .i64 s.orr, .int .i64 s.co, .int .u16 s.me, .int .i64 s.tg, .int .i64 s.tb, dv, .bool s.se, .int .i64 s.ve, .int .i64 s.m0, .int .i64 s.m1, .int .i64 s.m2, .int .i64 s.m3, .int .i64 s.m4, av, .int .i64 s.er]) (blk_put (cs := #[.int .i64 s.id, .int .i64 s.ph, .int .u64 s.sl, .int .i64 s.st, .int .i64 s.op, .int .i64 s.od, .int .i64 s.orr, .int .i64 s.co, .int .u16 s.me, .int .i64 s.tg, .int .i64 s.tb, dv, .bool s.se, .int .i64 s.ve, .int .i64 s.m0, .int .i64 s.m1, .int .i64 s.m2, .int .i64 s.m3, .int .i64 s.m4, av, .int .i64 s.er]) h.b 0 (.int .i64 n.id) rfl) 1 (.int .i64 n.ph) rfl) 2 (.int .u64 n.sl) rfl) 3 (.int .i64 n.st) rfl) 4 (.int .i64 n.op) rfl) 5 (.int .i64 n.od) rfl) 6 (.int .i64 n.orr) rfl) 7 (.int .i64 n.co) rfl) 8 (.int .u16 n.me) rfl) 9 (.int .i64 n.tg) rfl) 10 (.int .i64 n.tb) rfl) 11 (u) rfl) 12 (.bool n.se) rfl) 13 (.int .i64 n.ve) rfl), q.row h.b (by decide) hu, q.row h.b (by decide) h.a, h.bel.trans (q.be _ h.ge), h.ge⟩
theorem Kr.wr {w w1 w2 : World} {g : Nat} {v u : Value} (h : Kr w w1 g v u) (q : Wr g w1 w2) : Kr w w2 g v u := ⟨Nat.le_trans h.1 (q.be 0 (Nat.zero_le _)).size, fun j a b c d => (q.kp j b).trans (h.2 j a b c d)⟩

end Go.Proofs.YtcofclkgfandfaaGreat.Print
