-- PRINTED by print.py (a twelfth state) out of the translation. Not trusted: Lean checks it.
import Derived.Test.YtcofclkgfandfaaGreatSq
import Derived.Test.YtcofclkgfandfaaGreatPrint0
import Derived.Test.YtcofclkgfandfaaGreatPrint6
import Derived.Test.YtcofclkgfandfaaGreatPrint11
import Derived.Test.YtcofclkgfandfaaGreatPrint13
import Derived.Test.YtcofclkgfandfaaGreatPrint32
namespace Go.Proofs.YtcofclkgfandfaaGreat.Print
set_option maxHeartbeats 8000000
set_option maxRecDepth 100000
open Go.RowKit Go.Proofs.YtcofclkgfandfaaGreatW.PrintWords Go.Proofs.YtcofclkgfandfaaGreatW.PrintLast Go.Proofs.YtcofclkgfandfaaGreatW.PrintMore Go.Proofs.YtcofclkgfandfaaGreatX
attribute [local go_sem] str_lss str_geq max2_int min2_int max_two min_two max_three min_three max_four min_four   -- for this text's walks alone
set_option linter.unusedVariables false
set_option linter.unusedSimpArgs false

/-! ### node_Hear_1: function 38 -/
/-- A frame is judged. -/
def node_judges.f (k : Nat) (s : Rs) (began fk ff fs fm : Int) : Option Rs :=
 (osc_Ticks.f k s.op s.od s.orr (wrap64 (began - s.st))).bind fun a => (medl_Off.f s.m0 s.m1 s.m2 s.m3 s.m4 a.1).bind fun b =>
 if b.2.1 = false then some { (s.fl a.2).fl b.2.2 with ac := s.ac ++ [⟨3, 0, z43, 7, b.1⟩] } else
 (member_Judge.f k s.m0 s.m1 s.m2 s.m3 s.m4 s.id s.me s.sl fk ff fs fm).bind fun c => (member_Count.f k s.tg s.tb c.1).bind fun d =>
 if c.1 = 3 then some { (((s.fl a.2).fl b.2.2).fl c.2).fl d.2.2 with ve := c.1, tg := d.1, tb := d.2.1, ac := s.ac ++ [⟨3, 0, z43, 5, ff⟩] } else
 if c.1 = 2 then some (Rs.dev { (((s.fl a.2).fl b.2.2).fl c.2).fl d.2.2 with ve := c.1, tg := d.1, tb := d.2.1, ac := s.ac ++ [⟨3, 0, z43, 6, ff⟩] } b.1) else
 some (Rs.dev { (((s.fl a.2).fl b.2.2).fl c.2).fl d.2.2 with ve := c.1, tg := d.1, tb := d.2.1 } b.1)
theorem node_judges.calls (k g : Nat) (s s2 : Rs) (dv av : Value) (began fk ff fs fm : Int) (w0 w : World) (h : RSt w0 w g s dv av) (hl : s.ac.length ≤ 1000000) (hd : s.ds.length ≤ 1000000) (hf : node_judges.f k s began fk ff fs fm = some s2) :
  Calls Tryz.prog 41 #[.pointer (some ⟨g, 0, none⟩), .int .i64 began, .agg #[.int .i64 fk, .int .i64 ff, .int .u64 fs, .int .u16 fm]] w fun e w' => e = .returned (.tuple #[]) ∧ (∃ dv' av', RSt w0 w' g s2 dv' av' ∧ At w.heap.size dv dv' ∧ At w.heap.size av av') ∧ Kr w w' g dv av := by
 unfold node_judges.f at hf
 obtain ⟨⟨ticks, e1⟩, A1, hf⟩ := Option.bind_eq_some_iff.mp hf
 obtain ⟨⟨late, inn, e2⟩, A2, hf⟩ := Option.bind_eq_some_iff.mp hf
 have HA1 := asd A1
 have HA2 := asd A2
 have H := asd h
 have K := asd (Kr.refl w g dv av)
 have AD := asd (At.refl w.heap.size dv)
 have AA := asd (At.refl w.heap.size av)
 have hlen := asd hl
 have hlend := asd hd
 clear h A1 A2 hl hd
 dsimp only at hf
 have HF := asd hf
 clear hf
 go_enter Tryz.func41, Tryz.ntmps41
 go_wp2_with (first | (refine bG 5 #[.int .i64 fk, .int .i64 ff, .int .u64 fs, .int .u16 fm] 43 ?_; intro gb5 hg wx1 B5 hb; have N5 := asd (by rw [hg]; exact Nat.ne_of_gt (blk_lt H.out.b) : gb5 ≠ g); have G5 := asd (by rw [hg]; exact K.out.1 : w.heap.size ≤ gb5); have L5 := asd (by rw [hg]; exact H.out.bel.size : w0.heap.size ≤ gb5); replace H := asd (H.out.below hb); replace K := asd (K.out.step hb); clear hb hg; have hc3 : wx1.cell? ⟨g, 3, none⟩ = some (.int .i64 s.st) := (by have q := H.out.c3; (try simp only [Rs.fls] at q); exact q); have hf3 := H.out.fz 3; have hc4 : wx1.cell? ⟨g, 4, none⟩ = some (.int .i64 s.op) := (by have q := H.out.c4; (try simp only [Rs.fls] at q); exact q); have hf4 := H.out.fz 4; have hc5 : wx1.cell? ⟨g, 5, none⟩ = some (.int .i64 s.od) := (by have q := H.out.c5; (try simp only [Rs.fls] at q); exact q); have hf5 := H.out.fz 5; have hc6 : wx1.cell? ⟨g, 6, none⟩ = some (.int .i64 s.orr) := (by have q := H.out.c6; (try simp only [Rs.fls] at q); exact q); have hf6 := H.out.fz 6; have hb5 := ca4 B5))
 refine start_ (n := 18) (S := fun w' => w'.cell? ⟨g, 4, none⟩ = some (.int .i64 s.op) ∧ w'.cell? ⟨g, 5, none⟩ = some (.int .i64 s.od) ∧ w'.cell? ⟨g, 6, none⟩ = some (.int .i64 s.orr) ∧ w'.cell? ⟨g, 3, none⟩ = some (.int .i64 s.st)) (ds := []) (fb 18 0) (by kernel_rfl) rfl rfl ⟨(by have q := H.out.c4; (try simp only [Rs.fls] at q); exact q), (by have q := H.out.c5; (try simp only [Rs.fls] at q); exact q), (by have q := H.out.c6; (try simp only [Rs.fls] at q); exact q), (by have q := H.out.c3; (try simp only [Rs.fls] at q); exact q)⟩ (fun hHeld => ?_)
 have nH := asd H.out.drew
 have nK := asd K.out.drew
 have nB5 := asd (blk_drew B5.out)
 clear H K B5
 have H := nH
 have K := nK
 have B5 := nB5
 clear nH nK nB5
 generalize (wx1).drew = wd2 at H K B5 hHeld ⊢
 refine pi 0 13 18 1 ?_
 refine pi 1 14 18 3 ?_
 refine pi 2 15 18 7 ?_
 refine pi 3 16 18 15 ?_
 refine ti 4 17 18 31 hHeld ?_
 refine pi 5 18 18 63 ?_
 refine pi 6 19 18 127 ?_
 refine pi 7 20 18 255 ?_
 refine pi 8 21 18 511 ?_
 refine pi 9 22 18 1023 ?_
 refine ti 10 23 18 2047 hHeld ?_
 refine pi 11 24 18 4095 ?_
 refine one_ (i := 12) (N := some 25) (fb 18 8191) rfl rfl (by kernel_rfl) (by decide) (fun K_ hK_ => ?_)
 refine goesV_ Tryz.func84 (by kernel_rfl) rfl #[.agg #[.int .i64 s.op, .int .i64 s.od, .int .i64 s.orr], .int .i64 (wrap64 (began - s.st))] (by rfl) rfl rfl (by first | rfl | (simp; done) | (go_simp; done)) (by (try simp only [List.map_toArray, List.map_cons, List.map_nil]); first | done | rfl) ?_
 with_reducible refine (osc_Ticks.calls k s.op s.od s.orr (wrap64 (began - s.st)) ticks e1 _ HA1.out).mono ?_
 rintro e wx3 ⟨rfl, hb⟩
 refine ⟨_, rfl, ?_⟩
 have nH := asd (H.out.below hb)
 have nK := asd (K.out.step hb)
 have nB5 := asd (blk_below B5.out hb)
 clear H K B5
 have H := nH
 have K := nK
 have B5 := nB5
 clear nH nK nB5 hb
 refine hK_.out _ _ ⟨(by have q := H.out.c4; (try simp only [Rs.fls] at q); exact q), (by have q := H.out.c5; (try simp only [Rs.fls] at q); exact q), (by have q := H.out.c6; (try simp only [Rs.fls] at q); exact q), (by have q := H.out.c3; (try simp only [Rs.fls] at q); exact q)⟩ (fun hHeld => ?_)
 clear hK_ K_
 refine pi 13 12 18 16383 ?_
 refine pi 14 26 18 32767 ?_
 refine pi 15 27 18 65535 ?_
 refine pi 16 6 18 131071 ?_
 refine pi 17 7 18 262143 ?_
 refine done_ (by kernel_rfl) ?_
 cases inn with
 | false =>
  have hf := HF.out
  rw [if_pos rfl] at hf
  obtain rfl := Option.some.inj hf
  clear hf HF
  go_wp2_with (first | ((with_reducible refine gate_callee (f := 81) rfl ?_); refine gC (some 30) Tryz.func81 (node_fail.calls g s dv av e1 w0 _ H.out) ?_; rintro e wx4 ⟨rfl, hs, hk⟩; refine ⟨_, rfl, ?_⟩; have nK := asd (K.out.thenG hk); have nB5 := asd (hk.blk B5.out N5.out (by simp [Value.ownBlock]) (by simp [Value.ownBlock])); clear H K B5; have H := asd hs; have K := nK; have B5 := nB5; clear nK nB5 hs hk; have hc14 : wx4.cell? ⟨g, 14, none⟩ = some (.int .i64 s.m0) := (by have q := H.out.c14; (try simp only [Rs.fls] at q); exact q); have hf14 := H.out.fz 14; have hc15 : wx4.cell? ⟨g, 15, none⟩ = some (.int .i64 s.m1) := (by have q := H.out.c15; (try simp only [Rs.fls] at q); exact q); have hf15 := H.out.fz 15; have hc16 : wx4.cell? ⟨g, 16, none⟩ = some (.int .i64 s.m2) := (by have q := H.out.c16; (try simp only [Rs.fls] at q); exact q); have hf16 := H.out.fz 16; have hc17 : wx4.cell? ⟨g, 17, none⟩ = some (.int .i64 s.m3) := (by have q := H.out.c17; (try simp only [Rs.fls] at q); exact q); have hf17 := H.out.fz 17; have hc18 : wx4.cell? ⟨g, 18, none⟩ = some (.int .i64 s.m4) := (by have q := H.out.c18; (try simp only [Rs.fls] at q); exact q); have hf18 := H.out.fz 18; have hb5 := ca4 B5) | ((with_reducible refine gate_callee (f := 85) rfl ?_); refine gC (some 37) Tryz.func85 (medl_Off.calls s.m0 s.m1 s.m2 s.m3 s.m4 ticks late _ e2 _ HA2.out) ?_; rintro e wx5 ⟨rfl, hb⟩; refine ⟨_, rfl, ?_⟩; have nH := asd (H.out.below hb); have nK := asd (K.out.step hb); have nB5 := asd (blk_below B5.out hb); clear H K B5; have H := nH; have K := nK; have B5 := nB5; clear nH nK nB5 hb; have hc14 : wx5.cell? ⟨g, 14, none⟩ = some (.int .i64 s.m0) := (by have q := H.out.c14; (try simp only [Rs.fls] at q); exact q); have hf14 := H.out.fz 14; have hc15 : wx5.cell? ⟨g, 15, none⟩ = some (.int .i64 s.m1) := (by have q := H.out.c15; (try simp only [Rs.fls] at q); exact q); have hf15 := H.out.fz 15; have hc16 : wx5.cell? ⟨g, 16, none⟩ = some (.int .i64 s.m2) := (by have q := H.out.c16; (try simp only [Rs.fls] at q); exact q); have hf16 := H.out.fz 16; have hc17 : wx5.cell? ⟨g, 17, none⟩ = some (.int .i64 s.m3) := (by have q := H.out.c17; (try simp only [Rs.fls] at q); exact q); have hf17 := H.out.fz 17; have hc18 : wx5.cell? ⟨g, 18, none⟩ = some (.int .i64 s.m4) := (by have q := H.out.c18; (try simp only [Rs.fls] at q); exact q); have hf18 := H.out.fz 18; have hb5 := ca4 B5) | ((with_reducible refine gate_callee (f := 81) rfl ?_); refine gC (some 43) Tryz.func81 (node_fail.calls g (s.fl e1) dv av e2 w0 _ H.out) ?_; rintro e wx6 ⟨rfl, hs, hk⟩; refine ⟨_, rfl, ?_⟩; have nK := asd (K.out.thenG hk); have nB5 := asd (hk.blk B5.out N5.out (by simp [Value.ownBlock]) (by simp [Value.ownBlock])); clear H K B5; have H := asd hs; have K := nK; have B5 := nB5; clear nK nB5 hs hk; have hc14 : wx6.cell? ⟨g, 14, none⟩ = some (.int .i64 s.m0) := (by have q := H.out.c14; (try simp only [Rs.fls] at q); exact q); have hf14 := H.out.fz 14; have hc15 : wx6.cell? ⟨g, 15, none⟩ = some (.int .i64 s.m1) := (by have q := H.out.c15; (try simp only [Rs.fls] at q); exact q); have hf15 := H.out.fz 15; have hc16 : wx6.cell? ⟨g, 16, none⟩ = some (.int .i64 s.m2) := (by have q := H.out.c16; (try simp only [Rs.fls] at q); exact q); have hf16 := H.out.fz 16; have hc17 : wx6.cell? ⟨g, 17, none⟩ = some (.int .i64 s.m3) := (by have q := H.out.c17; (try simp only [Rs.fls] at q); exact q); have hf17 := H.out.fz 17; have hc18 : wx6.cell? ⟨g, 18, none⟩ = some (.int .i64 s.m4) := (by have q := H.out.c18; (try simp only [Rs.fls] at q); exact q); have hf18 := H.out.fz 18; have hb5 := ca4 B5) | ((with_reducible refine gate_callee (f := 53) rfl ?_); refine gC (some 48) Tryz.func53 (node_note.calls g ((s.fl e1).fl e2) dv av 7 late w0 _ H.out (by rw [Rs.fl_ac, Rs.fl_ac]; exact hlen.out)) ?_; rintro e wx7 ⟨rfl, ⟨v2_7, hs, hat⟩, hk⟩; refine ⟨_, rfl, ?_⟩; have nK := asd (K.out.trans AD.out AA.out hk.wideD); have nA := asd (AA.out.trans K.out.1 hat); have nB5 := asd (hk.blk B5.out N5.out (by simp [Value.ownBlock]) (Kd.R_ne H.out.a B5.out (by decide))); clear H K AA B5; have H := asd hs; have K := nK; have AA := nA; have B5 := nB5; clear nK nA nB5 hs hk hat; have hb5 := ca4 B5))
  first | go_end0 | go_ret | ((try simp only [Exit.inBlock, Exit.then]); refine bodyPost_ret (results_none rfl _ _ _) rfl ?_)
  refine ⟨rfl, ⟨_, _, ?_, AD.out, AA.out⟩, K.out⟩
  have q := H.out
  (try simp only [Rs.fl_ac] at q)
  exact q
 | true =>
  have hf := HF.out
  rw [if_neg (by decide)] at hf
  obtain ⟨⟨v, e3⟩, A3, hf⟩ := Option.bind_eq_some_iff.mp hf
  obtain ⟨⟨tg, tb, e4⟩, A4, hf⟩ := Option.bind_eq_some_iff.mp hf
  have HA3 := asd A3
  have HA4 := asd A4
  dsimp only at hf
  have HG := asd hf
  clear A3 A4 hf HF
  go_wp2_with (first | ((with_reducible refine gate_callee (f := 81) rfl ?_); refine gC (some 30) Tryz.func81 (node_fail.calls g s dv av e1 w0 _ H.out) ?_; rintro e wx4 ⟨rfl, hs, hk⟩; refine ⟨_, rfl, ?_⟩; have nK := asd (K.out.thenG hk); have nB5 := asd (hk.blk B5.out N5.out (by simp [Value.ownBlock]) (by simp [Value.ownBlock])); clear H K B5; have H := asd hs; have K := nK; have B5 := nB5; clear nK nB5 hs hk; have hc14 : wx4.cell? ⟨g, 14, none⟩ = some (.int .i64 s.m0) := (by have q := H.out.c14; (try simp only [Rs.fls] at q); exact q); have hf14 := H.out.fz 14; have hc15 : wx4.cell? ⟨g, 15, none⟩ = some (.int .i64 s.m1) := (by have q := H.out.c15; (try simp only [Rs.fls] at q); exact q); have hf15 := H.out.fz 15; have hc16 : wx4.cell? ⟨g, 16, none⟩ = some (.int .i64 s.m2) := (by have q := H.out.c16; (try simp only [Rs.fls] at q); exact q); have hf16 := H.out.fz 16; have hc17 : wx4.cell? ⟨g, 17, none⟩ = some (.int .i64 s.m3) := (by have q := H.out.c17; (try simp only [Rs.fls] at q); exact q); have hf17 := H.out.fz 17; have hc18 : wx4.cell? ⟨g, 18, none⟩ = some (.int .i64 s.m4) := (by have q := H.out.c18; (try simp only [Rs.fls] at q); exact q); have hf18 := H.out.fz 18; have hb5 := ca4 B5) | ((with_reducible refine gate_callee (f := 85) rfl ?_); refine gC (some 37) Tryz.func85 (medl_Off.calls s.m0 s.m1 s.m2 s.m3 s.m4 ticks late _ e2 _ HA2.out) ?_; rintro e wx5 ⟨rfl, hb⟩; refine ⟨_, rfl, ?_⟩; have nH := asd (H.out.below hb); have nK := asd (K.out.step hb); have nB5 := asd (blk_below B5.out hb); clear H K B5; have H := nH; have K := nK; have B5 := nB5; clear nH nK nB5 hb; have hc14 : wx5.cell? ⟨g, 14, none⟩ = some (.int .i64 s.m0) := (by have q := H.out.c14; (try simp only [Rs.fls] at q); exact q); have hf14 := H.out.fz 14; have hc15 : wx5.cell? ⟨g, 15, none⟩ = some (.int .i64 s.m1) := (by have q := H.out.c15; (try simp only [Rs.fls] at q); exact q); have hf15 := H.out.fz 15; have hc16 : wx5.cell? ⟨g, 16, none⟩ = some (.int .i64 s.m2) := (by have q := H.out.c16; (try simp only [Rs.fls] at q); exact q); have hf16 := H.out.fz 16; have hc17 : wx5.cell? ⟨g, 17, none⟩ = some (.int .i64 s.m3) := (by have q := H.out.c17; (try simp only [Rs.fls] at q); exact q); have hf17 := H.out.fz 17; have hc18 : wx5.cell? ⟨g, 18, none⟩ = some (.int .i64 s.m4) := (by have q := H.out.c18; (try simp only [Rs.fls] at q); exact q); have hf18 := H.out.fz 18; have hb5 := ca4 B5) | ((with_reducible refine gate_callee (f := 81) rfl ?_); refine gC (some 43) Tryz.func81 (node_fail.calls g (s.fl e1) dv av e2 w0 _ H.out) ?_; rintro e wx6 ⟨rfl, hs, hk⟩; refine ⟨_, rfl, ?_⟩; have nK := asd (K.out.thenG hk); have nB5 := asd (hk.blk B5.out N5.out (by simp [Value.ownBlock]) (by simp [Value.ownBlock])); clear H K B5; have H := asd hs; have K := nK; have B5 := nB5; clear nK nB5 hs hk; have hc14 : wx6.cell? ⟨g, 14, none⟩ = some (.int .i64 s.m0) := (by have q := H.out.c14; (try simp only [Rs.fls] at q); exact q); have hf14 := H.out.fz 14; have hc15 : wx6.cell? ⟨g, 15, none⟩ = some (.int .i64 s.m1) := (by have q := H.out.c15; (try simp only [Rs.fls] at q); exact q); have hf15 := H.out.fz 15; have hc16 : wx6.cell? ⟨g, 16, none⟩ = some (.int .i64 s.m2) := (by have q := H.out.c16; (try simp only [Rs.fls] at q); exact q); have hf16 := H.out.fz 16; have hc17 : wx6.cell? ⟨g, 17, none⟩ = some (.int .i64 s.m3) := (by have q := H.out.c17; (try simp only [Rs.fls] at q); exact q); have hf17 := H.out.fz 17; have hc18 : wx6.cell? ⟨g, 18, none⟩ = some (.int .i64 s.m4) := (by have q := H.out.c18; (try simp only [Rs.fls] at q); exact q); have hf18 := H.out.fz 18; have hb5 := ca4 B5))
  refine start_ (n := 26) (S := fun w' => w'.cell? ⟨g, 14, none⟩ = some (.int .i64 s.m0) ∧ w'.cell? ⟨g, 15, none⟩ = some (.int .i64 s.m1) ∧ w'.cell? ⟨g, 16, none⟩ = some (.int .i64 s.m2) ∧ w'.cell? ⟨g, 17, none⟩ = some (.int .i64 s.m3) ∧ w'.cell? ⟨g, 18, none⟩ = some (.int .i64 s.m4) ∧ w'.cell? ⟨g, 0, none⟩ = some (.int .i64 s.id) ∧ w'.cell? ⟨g, 8, none⟩ = some (.int .u16 s.me) ∧ w'.cell? ⟨g, 2, none⟩ = some (.int .u64 s.sl) ∧ w'.cell? ⟨gb5, 0, none⟩ = some (.int .i64 fk) ∧ w'.cell? ⟨gb5, 1, none⟩ = some (.int .i64 ff) ∧ w'.cell? ⟨gb5, 2, none⟩ = some (.int .u64 fs) ∧ w'.cell? ⟨gb5, 3, none⟩ = some (.int .u16 fm)) (ds := []) (fb 26 0) (by kernel_rfl) rfl rfl ⟨(by have q := H.out.c14; (try simp only [Rs.fls] at q); exact q), (by have q := H.out.c15; (try simp only [Rs.fls] at q); exact q), (by have q := H.out.c16; (try simp only [Rs.fls] at q); exact q), (by have q := H.out.c17; (try simp only [Rs.fls] at q); exact q), (by have q := H.out.c18; (try simp only [Rs.fls] at q); exact q), (by have q := H.out.c0; (try simp only [Rs.fls] at q); exact q), (by have q := H.out.c8; (try simp only [Rs.fls] at q); exact q), (by have q := H.out.c2; (try simp only [Rs.fls] at q); exact q), (blk_cell B5.out 0).trans rfl, (blk_cell B5.out 1).trans rfl, (blk_cell B5.out 2).trans rfl, (blk_cell B5.out 3).trans rfl⟩ (fun hHeld => ?_)
  have nH := asd H.out.drew
  have nK := asd K.out.drew
  have nB5 := asd (blk_drew B5.out)
  clear H K B5
  have H := nH
  have K := nK
  have B5 := nB5
  clear nH nK nB5
  generalize (wx6).drew = wd7 at H K B5 hHeld ⊢
  refine pi 0 50 26 1 ?_
  refine pi 1 51 26 3 ?_
  refine pi 2 52 26 7 ?_
  refine ti 3 53 26 15 hHeld ?_
  refine pi 4 54 26 31 ?_
  refine pi 5 55 26 63 ?_
  refine pi 6 56 26 127 ?_
  refine pi 7 57 26 255 ?_
  refine ti 8 58 26 511 hHeld ?_
  refine pi 9 59 26 1023 ?_
  refine pi 10 60 26 2047 ?_
  refine pi 11 61 26 4095 ?_
  refine pi 12 62 26 8191 ?_
  refine ti 13 63 26 16383 hHeld ?_
  refine pi 14 64 26 32767 ?_
  refine pi 15 65 26 65535 ?_
  refine pi 16 66 26 131071 ?_
  refine pi 17 67 26 262143 ?_
  refine ti 18 68 26 524287 hHeld ?_
  refine ti 19 69 26 1048575 hHeld ?_
  refine one_ (i := 20) (N := some 70) (fb 26 2097151) rfl rfl (by kernel_rfl) (by decide) (fun K_ hK_ => ?_)
  refine goesV_ Tryz.func86 (by kernel_rfl) rfl #[.agg #[.int .i64 s.m0, .int .i64 s.m1, .int .i64 s.m2, .int .i64 s.m3, .int .i64 s.m4], .int .i64 s.id, .int .u16 s.me, .int .u64 s.sl, .agg #[.int .i64 fk, .int .i64 ff, .int .u64 fs, .int .u16 fm]] (by rfl) rfl rfl (by first | rfl | (simp; done) | (go_simp; done)) (by (try simp only [List.map_toArray, List.map_cons, List.map_nil]); first | done | rfl) ?_
  with_reducible refine (member_Judge.calls k s.m0 s.m1 s.m2 s.m3 s.m4 s.id s.me s.sl fk ff fs fm v e3 _ HA3.out).mono ?_
  rintro e wx8 ⟨rfl, hb⟩
  refine ⟨_, rfl, ?_⟩
  have nH := asd (H.out.below hb)
  have nK := asd (K.out.step hb)
  have nB5 := asd (blk_below B5.out hb)
  clear H K B5
  have H := nH
  have K := nK
  have B5 := nB5
  clear nH nK nB5 hb
  refine hK_.out _ _ ⟨(by have q := H.out.c14; (try simp only [Rs.fls] at q); exact q), (by have q := H.out.c15; (try simp only [Rs.fls] at q); exact q), (by have q := H.out.c16; (try simp only [Rs.fls] at q); exact q), (by have q := H.out.c17; (try simp only [Rs.fls] at q); exact q), (by have q := H.out.c18; (try simp only [Rs.fls] at q); exact q), (by have q := H.out.c0; (try simp only [Rs.fls] at q); exact q), (by have q := H.out.c8; (try simp only [Rs.fls] at q); exact q), (by have q := H.out.c2; (try simp only [Rs.fls] at q); exact q), (blk_cell B5.out 0).trans rfl, (blk_cell B5.out 1).trans rfl, (blk_cell B5.out 2).trans rfl, (blk_cell B5.out 3).trans rfl⟩ (fun hHeld => ?_)
  clear hK_ K_
  refine pi 21 49 26 4194303 ?_
  refine pi 22 71 26 8388607 ?_
  refine pi 23 72 26 16777215 ?_
  refine pi 24 10 26 33554431 ?_
  refine pi 25 7 26 67108863 ?_
  refine done_ (by kernel_rfl) ?_
  go_wp2_with (first | ((with_reducible refine gate_callee (f := 81) rfl ?_); refine gC (some 75) Tryz.func81 (node_fail.calls g ((s.fl e1).fl e2) dv av e3 w0 _ H.out) ?_; rintro e wx9 ⟨rfl, hs, hk⟩; refine ⟨_, rfl, ?_⟩; have nK := asd (K.out.thenG hk); have nB5 := asd (hk.blk B5.out N5.out (by simp [Value.ownBlock]) (by simp [Value.ownBlock])); clear H K B5; have H := asd hs; have K := nK; have B5 := nB5; clear nK nB5 hs hk; have hc9 : wx9.cell? ⟨g, 9, none⟩ = some (.int .i64 s.tg) := (by have q := H.out.c9; (try simp only [Rs.fls] at q); exact q); have hf9 := H.out.fz 9; have hc10 : wx9.cell? ⟨g, 10, none⟩ = some (.int .i64 s.tb) := (by have q := H.out.c10; (try simp only [Rs.fls] at q); exact q); have hf10 := H.out.fz 10; have hb5 := ca4 B5) | ((with_reducible refine gate_callee (f := 87) rfl ?_); refine gC (some 83) Tryz.func87 (member_Count.calls k s.tg s.tb v tg tb e4 _ HA4.out) ?_; rintro e wx10 ⟨rfl, hb⟩; refine ⟨_, rfl, ?_⟩; have nH := asd (H.out.below hb); have nK := asd (K.out.step hb); have nB5 := asd (blk_below B5.out hb); clear H K B5; have H := nH; have K := nK; have B5 := nB5; clear nH nK nB5 hb; have hc9 : wx10.cell? ⟨g, 9, none⟩ = some (.int .i64 s.tg) := (by have q := H.out.c9; (try simp only [Rs.fls] at q); exact q); have hf9 := H.out.fz 9; have hc10 : wx10.cell? ⟨g, 10, none⟩ = some (.int .i64 s.tb) := (by have q := H.out.c10; (try simp only [Rs.fls] at q); exact q); have hf10 := H.out.fz 10; have hb5 := ca4 B5) | (refine bG 11 #[.int .i64 0, .int .i64 0] 29 ?_; intro gb11 hg wx11 B11 hb; have N11 := asd (by rw [hg]; exact Nat.ne_of_gt (blk_lt H.out.b) : gb11 ≠ g); have G11 := asd (by rw [hg]; exact K.out.1 : w.heap.size ≤ gb11); have L11 := asd (by rw [hg]; exact H.out.bel.size : w0.heap.size ≤ gb11); have N11_5 := asd (by rw [hg]; exact Nat.ne_of_gt (blk_lt B5.out) : gb11 ≠ gb5); have nH := asd (H.out.below hb); have nK := asd (K.out.step hb); have nB5 := asd (blk_below B5.out hb); clear H K B5; have H := nH; have K := nK; have B5 := nB5; clear nH nK nB5; clear hb hg; have hc9 : wx11.cell? ⟨g, 9, none⟩ = some (.int .i64 s.tg) := (by have q := H.out.c9; (try simp only [Rs.fls] at q); exact q); have hf9 := H.out.fz 9; have hc10 : wx11.cell? ⟨g, 10, none⟩ = some (.int .i64 s.tb) := (by have q := H.out.c10; (try simp only [Rs.fls] at q); exact q); have hf10 := H.out.fz 10; have hb5 := ca4 B5; have hb11 := ca2 B11) | ((with_reducible refine gate_callee (f := 81) rfl ?_); refine gL (some 88) Tryz.func81 #[.pointer (some ⟨g, 0, none⟩), .int .i64 e4] ?_; have nH := asd ((H.out.far B11.out L11.out (by decide) (by decide) (by decide) 0 (.int .i64 tg)).far (blk_put (cs := #[.int .i64 0, .int .i64 0]) B11.out 0 (.int .i64 tg) rfl) L11.out (by decide) (by decide) (by decide) 1 (.int .i64 tb)); have nK := asd ((K.out.setNew G11.out 0 (.int .i64 tg)).setNew G11.out 1 (.int .i64 tb)); have nB11 := asd (show (World.heap _)[gb11]? = some (Obj.cells #[.int .i64 tg, .int .i64 tb] 29 (0, 0)) from (blk_put (cs := #[.int .i64 tg, .int .i64 0]) (blk_put (cs := #[.int .i64 0, .int .i64 0]) B11.out 0 (.int .i64 tg) rfl) 1 (.int .i64 tb) rfl)); have nB5 := asd (blk_far (p := ⟨gb11, 1, none⟩) (blk_far (p := ⟨gb11, 0, none⟩) B5.out N11_5.out.symm (.int .i64 tg)) N11_5.out.symm (.int .i64 tb)); clear H K B5 B11; have H := nH; have K := nK; have B5 := nB5; have B11 := nB11; clear nH nK nB5 nB11; (with_reducible refine (node_fail.calls g (((s.fl e1).fl e2).fl e3) dv av e4 w0 _ H.out).mono ?_); rintro e wx12 ⟨rfl, hs, hk⟩; refine ⟨_, rfl, ?_⟩; have nK := asd (K.out.thenG hk); have nB5 := asd (hk.blk B5.out N5.out (by simp [Value.ownBlock]) (by simp [Value.ownBlock])); have nB11 := asd (hk.blk B11.out N11.out (by simp [Value.ownBlock]) (by simp [Value.ownBlock])); clear H K B5 B11; have H := asd hs; have K := nK; have B5 := nB5; have B11 := nB11; clear nK nB5 nB11 hs hk; have hc9 : wx12.cell? ⟨g, 9, none⟩ = some (.int .i64 s.tg) := (by have q := H.out.c9; (try simp only [Rs.fls] at q); exact q); have hf9 := H.out.fz 9; have hc10 : wx12.cell? ⟨g, 10, none⟩ = some (.int .i64 s.tb) := (by have q := H.out.c10; (try simp only [Rs.fls] at q); exact q); have hf10 := H.out.fz 10; have hb5 := ca4 B5; have hb11 := ca2 B11))
  refine start_ (n := 12) (S := fun w' => w'.cell? ⟨gb11, 0, none⟩ = some (.int .i64 tg) ∧ w'.cell? ⟨gb11, 1, none⟩ = some (.int .i64 tb)) (ds := []) (fb 12 0) (by kernel_rfl) rfl rfl ⟨(blk_cell B11.out 0).trans rfl, (blk_cell B11.out 1).trans rfl⟩ (fun hHeld => ?_)
  have nH := asd H.out.drew
  have nK := asd K.out.drew
  have nB5 := asd (blk_drew B5.out)
  have nB11 := asd (blk_drew B11.out)
  clear H K B5 B11
  have H := nH
  have K := nK
  have B5 := nB5
  have B11 := nB11
  clear nH nK nB5 nB11
  generalize (wx12).drew = wd13 at H K B5 B11 hHeld ⊢
  refine pi 0 89 12 1 ?_
  refine pi 1 90 12 3 ?_
  refine pi 2 91 12 7 ?_
  refine ti 3 92 12 15 hHeld ?_
  refine pi 4 93 12 31 ?_
  refine pi 5 94 12 63 ?_
  refine pi 6 95 12 127 ?_
  refine one_ (i := 7) (N := none) (fb 12 255) rfl rfl (by kernel_rfl) (by decide) (fun K_ hK_ => ?_)
  have hs13 : wd13.cell? ⟨g, 13, none⟩ = some (.int .i64 s.ve) := (by have q := H.out.c13; (try simp only [Rs.fls] at q); exact q)
  have hfs13 := H.out.fz 13
  refine skip_ (w1 := ?_) (by rfl) rfl ?_ ?_
  rotate_left
  ·go_simp
   rfl
  have nH := asd (H.out.s13 (v))
  have nK := asd (K.out.setG 13 (.int .i64 v))
  have nB5 := asd (blk_far (p := ⟨g, 13, none⟩) B5.out N5.out (.int .i64 v))
  have nB11 := asd (blk_far (p := ⟨g, 13, none⟩) B11.out N11.out (.int .i64 v))
  clear H K B5 B11
  have H := nH
  have K := nK
  have B5 := nB5
  have B11 := nB11
  clear nH nK nB5 nB11 hs13 hfs13
  generalize (wd13.setCell ⟨g, 13, none⟩ (.int .i64 v)) = wy14 at H K B5 B11 ⊢
  refine hK_.out _ _ ⟨(blk_cell B11.out 0).trans rfl, (blk_cell B11.out 1).trans rfl⟩ (fun hHeld => ?_)
  clear hK_ K_
  refine pi 8 96 12 511 ?_
  refine pi 9 97 12 1023 ?_
  refine pi 10 98 12 2047 ?_
  refine one_ (i := 11) (N := none) (fb 12 4095) rfl rfl (by kernel_rfl) (by decide) (fun K_ hK_ => ?_)
  have hs9 : wy14.cell? ⟨g, 9, none⟩ = some (.int .i64 s.tg) := (by have q := H.out.c9; (try simp only [Rs.fls] at q); exact q)
  have hfs9 := H.out.fz 9
  have hs10 : wy14.cell? ⟨g, 10, none⟩ = some (.int .i64 s.tb) := (by have q := H.out.c10; (try simp only [Rs.fls] at q); exact q)
  have hfs10 := H.out.fz 10
  refine skip_ (w1 := ?_) (by rfl) rfl ?_ ?_
  rotate_left
  ·go_simp
   rfl
  have nH := asd ((H.out.s9 (tg)).s10 (tb))
  have nK := asd ((K.out.setG 9 (.int .i64 tg)).setG 10 (.int .i64 tb))
  have nB5 := asd (blk_far (p := ⟨g, 10, none⟩) (blk_far (p := ⟨g, 9, none⟩) B5.out N5.out (.int .i64 tg)) N5.out (.int .i64 tb))
  have nB11 := asd (blk_far (p := ⟨g, 10, none⟩) (blk_far (p := ⟨g, 9, none⟩) B11.out N11.out (.int .i64 tg)) N11.out (.int .i64 tb))
  clear H K B5 B11
  have H := nH
  have K := nK
  have B5 := nB5
  have B11 := nB11
  clear nH nK nB5 nB11 hs9 hfs9 hs10 hfs10
  generalize ((wy14.setCell ⟨g, 9, none⟩ (.int .i64 tg)).setCell ⟨g, 10, none⟩ (.int .i64 tb)) = wy15 at H K B5 B11 ⊢
  refine hK_.out _ _ ⟨(blk_cell B11.out 0).trans rfl, (blk_cell B11.out 1).trans rfl⟩ (fun hHeld => ?_)
  clear hK_ K_
  refine done_ (by kernel_rfl) ?_
  have hf := HG.out
  by_cases c3 : v = 3
  ·rw [if_pos c3] at hf
   obtain rfl := Option.some.inj hf
   have c3a : (v == 3) = true := beq_iff_eq.mpr c3
   clear hf HG
   have hb5 := ca4 B5
   go_wp2_with (first | ((with_reducible refine gate_callee (f := 53) rfl ?_); refine gC (some 105) Tryz.func53 (node_note.calls g _ dv av 5 ff w0 _ H.out (by (try simp only [Rs.fls]); exact hlen.out)) ?_; rintro e wx16 ⟨rfl, ⟨v2_16, hs, hat⟩, hk⟩; refine ⟨_, rfl, ?_⟩; have nK := asd (K.out.trans AD.out AA.out hk.wideD); have nA := asd (AA.out.trans K.out.1 hat); have nB5 := asd (hk.blk B5.out N5.out (by simp [Value.ownBlock]) (Kd.R_ne H.out.a B5.out (by decide))); have nB11 := asd (hk.blk B11.out N11.out (by simp [Value.ownBlock]) (Kd.R_ne H.out.a B11.out (by decide))); clear H K AA B5 B11; have H := asd hs; have K := nK; have AA := nA; have B5 := nB5; have B11 := nB11; clear nK nA nB5 nB11 hs hk hat; have hb5 := ca4 B5; have hb11 := ca2 B11))
   first | go_end0 | go_ret | ((try simp only [Exit.inBlock, Exit.then]); refine bodyPost_ret (results_none rfl _ _ _) rfl ?_)
   refine ⟨rfl, ⟨_, _, ?_, AD.out, AA.out⟩, K.out⟩
   have q := H.out
   (try simp only [Rs.fls] at q ⊢)
   first | exact q | (rw [c3] at q; exact q) | (rw [c2] at q; exact q)
  rw [if_neg c3] at hf
  have c3a : (v == 3) = false := beq_eq_false_iff_ne.mpr c3
  by_cases c2 : v = 2
  ·rw [if_pos c2] at hf
   obtain rfl := Option.some.inj hf
   have c2a : (v == 2) = true := beq_iff_eq.mpr c2
   clear hf HG
   have hb5 := ca4 B5
   go_wp2_with (first | ((with_reducible refine gate_callee (f := 53) rfl ?_); refine gC (some 111) Tryz.func53 (node_note.calls g _ dv av 6 ff w0 _ H.out (by (try simp only [Rs.fls]); exact hlen.out)) ?_; rintro e wx16 ⟨rfl, ⟨v2_16, hs, hat⟩, hk⟩; refine ⟨_, rfl, ?_⟩; have nK := asd (K.out.trans AD.out AA.out hk.wideD); have nA := asd (AA.out.trans K.out.1 hat); have nB5 := asd (hk.blk B5.out N5.out (by simp [Value.ownBlock]) (Kd.R_ne H.out.a B5.out (by decide))); have nB11 := asd (hk.blk B11.out N11.out (by simp [Value.ownBlock]) (Kd.R_ne H.out.a B11.out (by decide))); clear H K AA B5 B11; have H := asd hs; have K := nK; have AA := nA; have B5 := nB5; have B11 := nB11; clear nK nA nB5 nB11 hs hk hat; have hb5 := ca4 B5; have hb11 := ca2 B11) | ((with_reducible refine gate_callee (f := 88) rfl ?_); refine gC (some 114) Tryz.func88 (node_dev.calls g _ dv _ late w0 _ H.out (by (try simp only [Rs.fls]); exact hlend.out)) ?_; rintro e wx17 ⟨rfl, ⟨v2_17, hs, hat⟩, hk⟩; refine ⟨_, rfl, ?_⟩; have nK := asd (K.out.trans AD.out AA.out hk.wideA); have nA := asd (AD.out.trans K.out.1 hat); have nB5 := asd (hk.blk B5.out N5.out (Kd.R_ne H.out.d B5.out (by decide)) (by simp [Value.ownBlock])); have nB11 := asd (hk.blk B11.out N11.out (Kd.R_ne H.out.d B11.out (by decide)) (by simp [Value.ownBlock])); clear H K AD B5 B11; have H := asd hs; have K := nK; have AD := nA; have B5 := nB5; have B11 := nB11; clear nK nA nB5 nB11 hs hk hat; have hb5 := ca4 B5; have hb11 := ca2 B11))
   first | go_end0 | go_ret | ((try simp only [Exit.inBlock, Exit.then]); refine bodyPost_ret (results_none rfl _ _ _) rfl ?_)
   refine ⟨rfl, ⟨_, _, ?_, AD.out, AA.out⟩, K.out⟩
   have q := H.out
   (try simp only [Rs.fls] at q ⊢)
   first | exact q | (rw [c3] at q; exact q) | (rw [c2] at q; exact q)
  rw [if_neg c2] at hf
  obtain rfl := Option.some.inj hf
  have c2a : (v == 2) = false := beq_eq_false_iff_ne.mpr c2
  clear hf HG
  go_wp2_with (first | ((with_reducible refine gate_callee (f := 88) rfl ?_); refine gC (some 114) Tryz.func88 (node_dev.calls g _ dv av late w0 _ H.out (by (try simp only [Rs.fls]); exact hlend.out)) ?_; rintro e wx16 ⟨rfl, ⟨v2_16, hs, hat⟩, hk⟩; refine ⟨_, rfl, ?_⟩; have nK := asd (K.out.trans AD.out AA.out hk.wideA); have nA := asd (AD.out.trans K.out.1 hat); have nB5 := asd (hk.blk B5.out N5.out (Kd.R_ne H.out.d B5.out (by decide)) (by simp [Value.ownBlock])); have nB11 := asd (hk.blk B11.out N11.out (Kd.R_ne H.out.d B11.out (by decide)) (by simp [Value.ownBlock])); clear H K AD B5 B11; have H := asd hs; have K := nK; have AD := nA; have B5 := nB5; have B11 := nB11; clear nK nA nB5 nB11 hs hk hat; have hb5 := ca4 B5; have hb11 := ca2 B11))
  first | go_end0 | go_ret | ((try simp only [Exit.inBlock, Exit.then]); refine bodyPost_ret (results_none rfl _ _ _) rfl ?_)
  refine ⟨rfl, ⟨_, _, ?_, AD.out, AA.out⟩, K.out⟩
  have q := H.out
  (try simp only [Rs.fls] at q ⊢)
  first | exact q | (rw [c3] at q; exact q) | (rw [c2] at q; exact q)

/-- A call of alloc or box in a region that draws. -/
theorem boxV_ {P : Program} {ops : Array Oper} {Q : Exit → Act → World → Prop} {oi : Oper} {N : Tmp} {a : Act} {W : World} {K : Act → World → Prop} {cs : Array Value} {t : TypeId} (hw : Region.wanted oi (yielded ops a.tmps) = true) (hN : oi.dst = some N)
  (hrun : (execOp a.eval oi).run P W = .ok (.value (.pointer (some ⟨W.heap.size, 0, none⟩))) (W.alloc (.cells cs t (0, 0))))
  (h : ∀ g, g = W.heap.size → ∀ w1, w1.heap[g]? = some (.cells cs t (0, 0)) → Below W.heap.size W w1 → K (a.put (some N) (.pointer (some ⟨g, 0, none⟩))) w1) : if Region.wanted oi (yielded ops a.tmps) = true then Oper.wp P oi a W K Q else K (a.put (some N) undef) W :=
 value_ hw hN hrun (h _ rfl _ (blk_new W _) (below_alloc (Below.refl _ _) _))
theorem node_timer_ac {k : Nat} {s s2 : Rs} {ticks : Int} (h : node_timer.f k s ticks = some s2) : ∃ t, s2.ac = s.ac ++ [⟨1, t, z43, 0, 0⟩] := by
 unfold node_timer.f at h
 obtain ⟨⟨t, p, d, r, s1⟩, A1, h⟩ := Option.bind_eq_some_iff.mp h
 obtain rfl := Option.some.inj h
 exact ⟨t, by rw [← (node_at_ac A1).1]⟩
theorem act1 {w : World} {base : Nat} {ok : Nat → Prop} {v : Value} {xs : List S66} (h : Kd.R k66 66 w base ok v xs) (hl : xs.length = 2) : ∃ b c, v = .slice (some ⟨b, 0, none⟩) 2 c ∧ w.cell? ⟨b, 9, none⟩ = some (.int .i64 (xs.getD 1 ⟨0, 0, z43, 0, 0⟩).f1) := by
 obtain ⟨b, c, rfl, _, _, _⟩ := Kd.R_form h (by omega)
 refine ⟨b, c, by rw [hl], ?_⟩
 obtain ⟨cs, _, hM, hc, _⟩ := Kd.R_elem h ⟨0, 0, z43, 0, 0⟩ 1 (by decide) (by omega)
 rw [k66_openM hM] at hc
 exact hc 1 _ rfl
theorem below_of_kr {wS w w1 w0 : World} {gx m : Nat} {u : Value} (hb : Below wS.heap.size wS w) (hk : Kr w w1 gx nov u) (hg : wS.heap.size ≤ gx) (hu : ∀ k, u.ownBlock = some k → wS.heap.size ≤ k) (b1 : Below m w0 w) (b2 : Below m w0 w1) : Below wS.heap.size wS w1 :=
 ⟨b2.os.trans (b1.os.symm.trans hb.os), b2.tape.trans (b1.tape.symm.trans hb.tape), b2.output.trans (b1.output.symm.trans hb.output), Nat.le_trans hb.size hk.1, fun j hj => (hk.2 j (Nat.lt_of_lt_of_le hj hb.size) (by omega) (by simp [Value.ownBlock]) (fun e => absurd (hu j e.symm) (by omega))).trans (hb.block j hj)⟩
theorem At.own {n m : Nat} {v v1 : Value} (h : At n v v1) (ho : ∀ k, v.ownBlock = some k → m ≤ k) (hn : m ≤ n) : ∀ k, v1.ownBlock = some k → m ≤ k := by
 intro k hk
 rcases h with h | ⟨b, h, hb⟩
 ·exact ho k (h ▸ hk)
 rw [h] at hk
 injection hk with hk
 omega
section
variable {w0 w w1 : World} {g gx : Nat} {s x : Rs} {dv av du au : Value}
theorem RSt.krG (h : RSt w0 w gx x du au) (hG : RSt w0 w g s dv av) (hk : Kr w w1 g nov nov) (hb : Below w0.heap.size w0 w1) (hne : gx ≠ g) : RSt w0 w1 gx x du au :=
 ⟨hk.blk h.b hne (by simp [Value.ownBlock]) (by simp [Value.ownBlock]),
 Kd.R_mono (Kd.R_step (Kd.R_bound h.d) (fun k hk1 hlt => by
  obtain ⟨_, _, _, q, hq, cells, hc⟩ := hk1
  exact hk.2 k hlt (blk_ne hc hG.b ((by decide : ∀ q, q ∈ 2 :: (Kd.int .i64).E → q ≠ 77) q hq)) (by simp [Value.ownBlock]) (by simp [Value.ownBlock]))) (fun k hk => hk.1),
 Kd.R_mono (Kd.R_step (Kd.R_bound h.a) (fun k hk1 hlt => by
  obtain ⟨_, _, _, q, hq, cells, hc⟩ := hk1
  exact hk.2 k hlt (blk_ne hc hG.b ((by decide : ∀ q, q ∈ 66 :: k66.E → q ≠ 77) q hq)) (by simp [Value.ownBlock]) (by simp [Value.ownBlock]))) (fun k hk => hk.1), hb, h.ge⟩
theorem RSt.wrOther (h : RSt w0 w gx x du au) (hG : RSt w0 w g s dv av) (q : Wr g w w1) (hne : gx ≠ g) : RSt w0 w1 gx x du au :=
 ⟨q.blk h.b hne, q.row hG.b (by decide) h.d, q.row hG.b (by decide) h.a, h.bel.trans (q.be _ hG.ge), h.ge⟩
theorem RSt.setAc (h : RSt w0 w g s dv av) (l : List S66) (u : Value) (hu : Kd.R k66 66 w w0.heap.size (fun _ => True) u l) : RSt w0 (w.setCell ⟨g, 19, none⟩ u) g { s with ac := l } dv u :=
 ⟨blk_set h.b 19 _, Kd.R_set h.d h.b (by decide) 19 _, Kd.R_set hu h.b (by decide) 19 _, h.bel.setCell h.ge _, h.ge⟩
end
/-- A node that joins. -/
def node_joins.x (s : Rs) (began lead me fs : Int) : Rs := { id := s.id, ph := 2, sl := fs, st := wrap64 (began - lead), op := s.op, od := s.od, orr := s.orr, co := 0, me := me, tg := 1, tb := 0, ds := [0], se := false, ve := 1, m0 := s.m0, m1 := s.m1, m2 := s.m2, m3 := s.m3, m4 := s.m4, ac := [⟨3, 0, z43, 3, wrap64 fs⟩], er := 0 }
/-- A frame by which a node joins. -/
def node_joins.f (k : Nat) (s : Rs) (now began fk ff fs fm : Int) : Option Rs :=
 (medl_Owner.f s.m0 s.m1 s.m2 s.m3 s.m4 fs).bind fun o => if o.2 = 0 then (if o.1 = ff then
  (osc_Run.f k s.op s.od s.orr s.m2).bind fun a => if began < a.1 then some (s.fl a.2.2.2.2) else
  (frame_With.f fm ff).bind fun t1 => (frame_Without.f t1 s.id).bind fun me =>
  (node_timer.f k (node_joins.x s began a.1 me fs) s.m1).bind fun x =>
  some (if now < (x.ac.getD 1 ⟨0, 0, z43, 0, 0⟩).f1 then { x with m0 := s.m0, m1 := s.m1, m2 := s.m2, m3 := s.m3, m4 := s.m4, er := ((s.fl a.2.2.2.2).fl x.er).er } else (s.fl a.2.2.2.2).fl x.er)
 else some s) else some s
theorem node_joins.calls (k g : Nat) (s s2 : Rs) (dv av : Value) (now began fk ff fs fm : Int) (w0 w : World) (h : RSt w0 w g s dv av) (hf : node_joins.f k s now began fk ff fs fm = some s2) :
  Calls Tryz.prog 39 #[.pointer (some ⟨g, 0, none⟩), .int .i64 now, .int .i64 began, .agg #[.int .i64 fk, .int .i64 ff, .int .u64 fs, .int .u16 fm]] w fun e w' => e = .returned (.tuple #[]) ∧ (∃ dv' av', RSt w0 w' g s2 dv' av') ∧ Kr w w' g dv av := by
 unfold node_joins.f at hf
 obtain ⟨⟨own, e1⟩, A1, hf⟩ := Option.bind_eq_some_iff.mp hf
 have HA1 := asd A1
 have W0 := asd h.bel
 have H := asd h
 have K := asd (Kr.refl w g dv av)
 have AD := asd (At.refl w.heap.size dv)
 have AA := asd (At.refl w.heap.size av)
 dsimp only at hf
 have HF := asd hf
 clear h A1 hf
 go_enter Tryz.func39, Tryz.ntmps39
 go_wp2_with (first | (refine bG 7 #[.int .i64 fk, .int .i64 ff, .int .u64 fs, .int .u16 fm] 43 ?_; intro gb7 hg wx1 B7 hb; have N7_g := asd (by rw [hg]; exact Nat.ne_of_gt (blk_lt H.out.b) : gb7 ≠ g); replace H := asd (H.out.below hb); replace K := asd (K.out.step hb); clear hb hg; obtain ⟨hb7_0, hg7_0, hb7_1, hg7_1, hb7_2, hg7_2, hb7_3, hg7_3⟩ := ca4 B7))
 refine start_ (n := 12) (S := fun w' => w'.cell? ⟨g, 14, none⟩ = some (.int .i64 s.m0) ∧ w'.cell? ⟨g, 15, none⟩ = some (.int .i64 s.m1) ∧ w'.cell? ⟨g, 16, none⟩ = some (.int .i64 s.m2) ∧ w'.cell? ⟨g, 17, none⟩ = some (.int .i64 s.m3) ∧ w'.cell? ⟨g, 18, none⟩ = some (.int .i64 s.m4) ∧ w'.cell? ⟨gb7, 2, none⟩ = some (.int .u64 fs)) (ds := []) (fb 12 0) (by kernel_rfl) rfl rfl ⟨H.out.c14, H.out.c15, H.out.c16, H.out.c17, H.out.c18, (blk_cell B7.out 2).trans rfl⟩ (fun hHeld => ?_)
 replace B7 := asd (blk_drew B7.out)
 replace H := asd (H.out.drew)
 replace K := asd (K.out.drew)
 generalize (wx1).drew = wd2 at B7 H K hHeld ⊢
 refine pi 0 14 12 1 ?_
 refine pi 1 15 12 3 ?_
 refine pi 2 16 12 7 ?_
 refine ti 3 17 12 15 hHeld ?_
 refine pi 4 18 12 31 ?_
 refine ti 5 19 12 63 hHeld ?_
 refine one_ (i := 6) (N := some 20) (fb 12 127) rfl rfl (by kernel_rfl) (by decide) (fun K_ hK_ => ?_)
 refine goesV_ Tryz.func16 (by kernel_rfl) rfl #[.agg #[.int .i64 s.m0, .int .i64 s.m1, .int .i64 s.m2, .int .i64 s.m3, .int .i64 s.m4], .int .u64 fs] (by rfl) rfl rfl (by first | rfl | (simp; done) | (go_simp; done)) (by (try simp only [List.map_toArray, List.map_cons, List.map_nil]); first | done | rfl) ?_
 with_reducible refine (medl_Owner.calls s.m0 s.m1 s.m2 s.m3 s.m4 fs own e1 _ HA1.out).mono ?_
 rintro e wx3 ⟨rfl, hb⟩
 refine ⟨_, rfl, ?_⟩
 replace B7 := asd (blk_below B7.out hb)
 replace H := asd (H.out.below hb)
 replace K := asd (K.out.step hb)
 clear hb
 refine hK_.out _ _ ⟨H.out.c14, H.out.c15, H.out.c16, H.out.c17, H.out.c18, (blk_cell B7.out 2).trans rfl⟩ (fun hHeld => ?_)
 clear hK_ K_
 refine pi 7 13 12 255 ?_
 refine pi 8 21 12 511 ?_
 refine pi 9 22 12 1023 ?_
 refine pi 10 8 12 2047 ?_
 refine pi 11 9 12 4095 ?_
 refine done_ (by kernel_rfl) ?_
 clear hb7_0 hg7_0 hb7_1 hg7_1 hb7_2 hg7_2 hb7_3 hg7_3
 obtain ⟨hb7_0, hg7_0, hb7_1, hg7_1, hb7_2, hg7_2, hb7_3, hg7_3⟩ := ca4 B7
 by_cases c1 : e1 = 0
 ·have c1a : (e1 != 0) = false := bne_eq_false_iff_eq.mpr c1
  by_cases c2 : own = ff
  ·have c2a : (own != ff) = false := bne_eq_false_iff_eq.mpr c2
   have hf := HF.out
   rw [if_pos c1, if_pos c2] at hf
   obtain ⟨⟨lead, p_, d_, r_, e3⟩, A3, hf⟩ := Option.bind_eq_some_iff.mp hf
   have HA3 := asd A3
   dsimp only at hf
   have HG := asd hf
   clear A3 hf HF
   go_wp2
   refine start_ (n := 19) (S := fun w' => w'.cell? ⟨g, 4, none⟩ = some (.int .i64 s.op) ∧ w'.cell? ⟨g, 5, none⟩ = some (.int .i64 s.od) ∧ w'.cell? ⟨g, 6, none⟩ = some (.int .i64 s.orr) ∧ w'.cell? ⟨g, 16, none⟩ = some (.int .i64 s.m2) ∧ w'.cell? ⟨gb7, 0, none⟩ = some (.int .i64 fk)) (ds := []) (fb 19 0) (by kernel_rfl) rfl rfl ⟨H.out.c4, H.out.c5, H.out.c6, H.out.c16, (blk_cell B7.out 0).trans rfl⟩ (fun hHeld => ?_)
   replace B7 := asd (blk_drew B7.out)
   replace H := asd (H.out.drew)
   replace K := asd (K.out.drew)
   generalize (wx3).drew = wd4 at B7 H K hHeld ⊢
   refine pi 0 32 19 1 ?_
   refine pi 1 33 19 3 ?_
   refine pi 2 34 19 7 ?_
   refine pi 3 35 19 15 ?_
   refine ti 4 36 19 31 hHeld ?_
   refine pi 5 37 19 63 ?_
   refine pi 6 38 19 127 ?_
   refine pi 7 39 19 255 ?_
   refine pi 8 40 19 511 ?_
   refine ti 9 41 19 1023 hHeld ?_
   refine join_ (σ := Nat) 2 (fb 19 131071) (fun gb11 => [(42, .tuple #[.int .i64 lead, .agg #[.int .i64 p_, .int .i64 d_, .int .i64 r_], .int .i64 e3]), (31, .tuple #[.int .i64 lead, .agg #[.int .i64 p_, .int .i64 d_, .int .i64 r_], .int .i64 e3]), (43, .int .i64 lead), (44, .agg #[.int .i64 p_, .int .i64 d_, .int .i64 r_]), (45, .int .i64 e3), (11, .pointer (some ⟨gb11, 0, none⟩)), (10, .int .i64 lead)]) (fun gb11 w' => RSt w0 w' g s dv av ∧ Kr w w' g dv av ∧ w'.heap[gb7]? = some (.cells #[.int .i64 fk, .int .i64 ff, .int .u64 fs, .int .u16 fm] 43 (0, 0)) ∧ w'.heap[gb11]? = some (.cells #[.int .i64 0, .int .i64 0, .int .i64 0] 26 (0, 0)) ∧ w.heap.size ≤ gb11) ?_ ?_
   rotate_left
   ·intro hJ
    refine two_ (i := 10) (j := 15) (Ni := some 42) (Nj := some 11) (fb 19 2047) (fb 19 33791) rfl rfl rfl rfl (by kernel_rfl) (by decide) (by decide) (fun K_ hK_ => ?_) (fun K_ hK_ => ?_)
    ·refine goesV_ Tryz.func80 (by kernel_rfl) rfl #[.agg #[.int .i64 s.op, .int .i64 s.od, .int .i64 s.orr], .int .i64 s.m2] (by rfl) rfl rfl (by first | rfl | (simp; done) | (go_simp; done)) (by (try simp only [List.map_toArray, List.map_cons, List.map_nil]); first | done | rfl) ?_
     with_reducible refine (osc_Run.calls k s.op s.od s.orr s.m2 lead p_ d_ r_ e3 _ HA3.out).mono ?_
     rintro e wx5 ⟨rfl, hb⟩
     refine ⟨_, rfl, ?_⟩
     replace B7 := asd (blk_below B7.out hb)
     replace H := asd (H.out.below hb)
     replace K := asd (K.out.step hb)
     clear hb
     refine hK_.out _ _ ⟨H.out.c4, H.out.c5, H.out.c6, H.out.c16, (blk_cell B7.out 0).trans rfl⟩ (fun hHeld => ?_)
     clear hK_ K_
     refine pi 11 31 19 4095 ?_
     refine pi 12 43 19 8191 ?_
     refine pi 13 44 19 16383 ?_
     refine pi 14 45 19 32767 ?_
     refine one_ (i := 15) (N := some 11) (fb 19 65535) rfl rfl (by kernel_rfl) (by decide) (fun K_ hK_ => ?_)
     refine boxV_ (N := 11) (cs := #[.int .i64 0, .int .i64 0, .int .i64 0]) (t := 26) (by rfl) rfl ?hr ?_
     (case hr => first | (go_simp; done) | (go_simp; rfl))
     intro gb11 hg wx6 hbox hb
     have G11 := asd (by rw [hg]; exact K.out.1 : w.heap.size ≤ gb11)
     have N11_g := asd (by rw [hg]; exact Nat.ne_of_gt (blk_lt H.out.b) : gb11 ≠ g)
     replace B7 := asd (blk_below B7.out hb)
     replace H := asd (H.out.below hb)
     replace K := asd (K.out.step hb)
     have B11 := asd hbox
     clear hb hbox hg
     refine hK_.out _ _ ⟨H.out.c4, H.out.c5, H.out.c6, H.out.c16, (blk_cell B7.out 0).trans rfl⟩ (fun hHeld => ?_)
     clear hK_ K_
     refine pi 16 10 19 131071 ?_
     exact norm_ (by rfl) (hJ _ _ ⟨H.out, K.out, B7.out, B11.out, G11.out⟩)
    refine boxV_ (N := 11) (cs := #[.int .i64 0, .int .i64 0, .int .i64 0]) (t := 26) (by rfl) rfl ?hr ?_
    (case hr => first | (go_simp; done) | (go_simp; rfl))
    intro gb11 hg wx5 hbox hb
    have G11 := asd (by rw [hg]; exact K.out.1 : w.heap.size ≤ gb11)
    have N11_g := asd (by rw [hg]; exact Nat.ne_of_gt (blk_lt H.out.b) : gb11 ≠ g)
    replace B7 := asd (blk_below B7.out hb)
    replace H := asd (H.out.below hb)
    replace K := asd (K.out.step hb)
    have B11 := asd hbox
    clear hb hbox hg
    refine hK_.out _ _ ⟨H.out.c4, H.out.c5, H.out.c6, H.out.c16, (blk_cell B7.out 0).trans rfl⟩ (fun hHeld => ?_)
    clear hK_ K_
    refine one_ (i := 10) (N := some 42) (fb 19 34815) rfl rfl (by kernel_rfl) (by decide) (fun K_ hK_ => ?_)
    refine goesV_ Tryz.func80 (by kernel_rfl) rfl #[.agg #[.int .i64 s.op, .int .i64 s.od, .int .i64 s.orr], .int .i64 s.m2] (by rfl) rfl rfl (by first | rfl | (simp; done) | (go_simp; done)) (by (try simp only [List.map_toArray, List.map_cons, List.map_nil]); first | done | rfl) ?_
    with_reducible refine (osc_Run.calls k s.op s.od s.orr s.m2 lead p_ d_ r_ e3 _ HA3.out).mono ?_
    rintro e wx6 ⟨rfl, hb⟩
    refine ⟨_, rfl, ?_⟩
    replace B7 := asd (blk_below B7.out hb)
    replace B11 := asd (blk_below B11.out hb)
    replace H := asd (H.out.below hb)
    replace K := asd (K.out.step hb)
    clear hb
    refine hK_.out _ _ ⟨H.out.c4, H.out.c5, H.out.c6, H.out.c16, (blk_cell B7.out 0).trans rfl⟩ (fun hHeld => ?_)
    clear hK_ K_
    refine pi 11 31 19 36863 ?_
    refine pi 12 43 19 40959 ?_
    refine pi 13 44 19 49151 ?_
    refine pi 14 45 19 65535 ?_
    refine pi 16 10 19 131071 ?_
    exact norm_ (by rfl) (hJ _ _ ⟨H.out, K.out, B7.out, B11.out, G11.out⟩)
   intro gb11 wj7 hj_
   clear H K B7 hHeld
   obtain ⟨h1_, h2_, h3_, h4_, h5_⟩ := hj_
   have H := asd h1_
   have K := asd h2_
   have B7 := asd h3_
   have B11 := asd h4_
   have G11 := asd h5_
   have N11_g := asd (blk_ne h4_ h1_.b (by decide) : gb11 ≠ g)
   clear h1_ h2_ h3_ h4_ h5_
   refine norm_ (a' := ?_) ?_ ?_
   rotate_left
   ·simp only [putAll, Act.put, sqa, sqb, sqc, i64_w, i32_w]
    rfl
   refine one_ (i := 17) (N := none) (fb 19 262143) rfl rfl (by kernel_rfl) (by decide) (fun K_ hK_ => ?_)
   have hq0 : wj7.cell? ⟨gb11, 0, none⟩ = some (.int .i64 0) := (blk_cell B11.out 0).trans rfl
   have hr0 := blk_frozen B11.out 0
   have hq1 : wj7.cell? ⟨gb11, 1, none⟩ = some (.int .i64 0) := (blk_cell B11.out 1).trans rfl
   have hr1 := blk_frozen B11.out 1
   have hq2 : wj7.cell? ⟨gb11, 2, none⟩ = some (.int .i64 0) := (blk_cell B11.out 2).trans rfl
   have hr2 := blk_frozen B11.out 2
   refine skip_ (w1 := ?_) (by rfl) rfl ?_ ?_
   rotate_left
   ·go_simp
    rfl
   have q_ := ((((Wr.refl gb11 wj7).set 0 (.int .i64 p_)).set 1 (.int .i64 d_)).set 2 (.int .i64 r_))
   replace B7 := asd (q_.blk B7.out (blk_ne B7.out B11.out (by decide)))
   replace H := asd (q_.run B11.out (by decide) (by decide) (by decide) (Nat.le_trans W0.out.size G11.out) H.out)
   replace B11 := asd (show (World.heap _)[gb11]? = some (Obj.cells #[.int .i64 p_, .int .i64 d_, .int .i64 r_] 26 (0, 0)) from (blk_put (cs := #[.int .i64 p_, .int .i64 d_, .int .i64 0]) (blk_put (cs := #[.int .i64 p_, .int .i64 0, .int .i64 0]) (blk_put (cs := #[.int .i64 0, .int .i64 0, .int .i64 0]) B11.out 0 (.int .i64 p_) rfl) 1 (.int .i64 d_) rfl) 2 (.int .i64 r_) rfl))
   replace K := asd (K.out.wrNew q_ G11.out)
   clear q_ hq0 hr0 hq1 hr1 hq2 hr2
   generalize (((wj7.setCell ⟨gb11, 0, none⟩ (.int .i64 p_)).setCell ⟨gb11, 1, none⟩ (.int .i64 d_)).setCell ⟨gb11, 2, none⟩ (.int .i64 r_)) = wy8 at B7 B11 H K ⊢
   refine hK_.out _ _ ⟨H.out.c4, H.out.c5, H.out.c6, H.out.c16, (blk_cell B7.out 0).trans rfl⟩ (fun hHeld => ?_)
   clear hK_ K_
   refine pi 18 9 19 524287 ?_
   refine done_ (by kernel_rfl) ?_
   by_cases c3 : began < lead
   ·have c3a : decide (began < lead) = true := decide_eq_true c3
    have hf := HG.out
    rw [if_pos c3] at hf
    obtain rfl := Option.some.inj hf
    go_wp2_with (first | ((with_reducible refine gate_callee (f := 81) rfl ?_); refine gC (some 48) Tryz.func81 (node_fail.calls g s dv av e3 w0 _ H.out) ?_; rintro e wx9 ⟨rfl, hs, hk⟩; refine ⟨_, rfl, ?_⟩; clear B11; replace K := asd (K.out.thenG hk); replace H := asd (hs); replace B7 := asd (hk.blk B7.out N7_g.out (by simp [Value.ownBlock]) (by simp [Value.ownBlock])); clear hs hk))
    first | go_end0 | go_ret | ((try simp only [Exit.inBlock, Exit.then]); refine bodyPost_ret (results_none rfl _ _ _) rfl ?_)
    exact ⟨rfl, ⟨_, _, H.out⟩, K.out⟩
   have c3a : decide (began < lead) = false := decide_eq_false c3
   have hf := HG.out
   rw [if_neg c3] at hf
   obtain ⟨t1, A4, hf⟩ := Option.bind_eq_some_iff.mp hf
   obtain ⟨me, A5, hf⟩ := Option.bind_eq_some_iff.mp hf
   obtain ⟨x, A6, hf⟩ := Option.bind_eq_some_iff.mp hf
   have HW1 := asd A4
   have HW2 := asd A5
   have HT := asd A6
   have HZ := asd (Option.some.inj hf)
   clear hf A4 A5 A6 HG
   go_wp2_with (first | ((with_reducible refine gate_callee (f := 81) rfl ?_); refine gC (some 48) Tryz.func81 (node_fail.calls g s dv av e3 w0 _ H.out) ?_; rintro e wx9 ⟨rfl, hs, hk⟩; refine ⟨_, rfl, ?_⟩; clear B11; replace K := asd (K.out.thenG hk); replace H := asd (hs); replace B7 := asd (hk.blk B7.out N7_g.out (by simp [Value.ownBlock]) (by simp [Value.ownBlock])); clear hs hk))
   refine start_ (n := 36) (S := fun w' => w'.cell? ⟨g, 0, none⟩ = some (.int .i64 s.id) ∧ w'.cell? ⟨g, 4, none⟩ = some (.int .i64 s.op) ∧ w'.cell? ⟨g, 5, none⟩ = some (.int .i64 s.od) ∧ w'.cell? ⟨g, 6, none⟩ = some (.int .i64 s.orr) ∧ w'.cell? ⟨g, 14, none⟩ = some (.int .i64 s.m0) ∧ w'.cell? ⟨g, 15, none⟩ = some (.int .i64 s.m1) ∧ w'.cell? ⟨g, 16, none⟩ = some (.int .i64 s.m2) ∧ w'.cell? ⟨g, 17, none⟩ = some (.int .i64 s.m3) ∧ w'.cell? ⟨g, 18, none⟩ = some (.int .i64 s.m4) ∧ w'.cell? ⟨gb7, 1, none⟩ = some (.int .i64 ff) ∧ w'.cell? ⟨gb7, 2, none⟩ = some (.int .u64 fs) ∧ w'.cell? ⟨gb7, 3, none⟩ = some (.int .u16 fm)) (ds := []) (fb 36 0) (by kernel_rfl) rfl rfl ⟨(by have q := H.out.drew.c0; simp only [Rs.fls] at q; exact q), (by have q := H.out.drew.c4; simp only [Rs.fls] at q; exact q), (by have q := H.out.drew.c5; simp only [Rs.fls] at q; exact q), (by have q := H.out.drew.c6; simp only [Rs.fls] at q; exact q), (by have q := H.out.drew.c14; simp only [Rs.fls] at q; exact q), (by have q := H.out.drew.c15; simp only [Rs.fls] at q; exact q), (by have q := H.out.drew.c16; simp only [Rs.fls] at q; exact q), (by have q := H.out.drew.c17; simp only [Rs.fls] at q; exact q), (by have q := H.out.drew.c18; simp only [Rs.fls] at q; exact q), (blk_cell (blk_drew B7.out) 1).trans rfl, (blk_cell (blk_drew B7.out) 2).trans rfl, (blk_cell (blk_drew B7.out) 3).trans rfl⟩ (fun hHeld => ?_)
   replace H := asd (H.out.drew)
   replace K := asd (K.out.drew)
   replace B7 := asd (blk_drew B7.out)
   generalize (wx9).drew = wS at H K B7 hHeld ⊢
   have HB := asd (Below.refl wS.heap.size wS)
   refine pi 0 52 36 1 ?_
   refine pi 1 53 36 3 ?_
   refine pi 2 54 36 7 ?_
   refine ti 3 55 36 15 hHeld ?_
   refine pi 4 56 36 31 ?_
   refine pi 5 57 36 63 ?_
   refine pi 6 58 36 127 ?_
   refine pi 7 59 36 255 ?_
   refine ti 8 60 36 511 hHeld ?_
   refine pi 9 61 36 1023 ?_
   refine pi 10 62 36 2047 ?_
   refine pi 11 63 36 4095 ?_
   refine pi 12 64 36 8191 ?_
   refine ti 13 65 36 16383 hHeld ?_
   refine pi 14 66 36 32767 ?_
   refine ti 15 67 36 65535 hHeld ?_
   refine pi 16 68 36 131071 ?_
   refine pi 17 69 36 262143 ?_
   refine pi 18 70 36 524287 ?_
   refine pi 19 71 36 1048575 ?_
   refine ti 20 72 36 2097151 hHeld ?_
   refine pi 21 73 36 4194303 ?_
   refine ti 22 74 36 8388607 hHeld ?_
   refine pi 24 76 36 25165823 ?_
   refine pi 25 77 36 58720255 ?_
   refine pi 26 78 36 125829119 ?_
   refine pi 27 79 36 260046847 ?_
   refine ti 28 80 36 528482303 hHeld ?_
   refine pi 30 82 36 1602224127 ?_
   refine join_ (σ := Option Addr × Nat) 2 (fb 36 17179869183) (fun vx => [(75, .int .u16 t1), (81, .int .u16 me), (83, .slice vx.1 1 vx.2), (84, .agg #[.int .i64 s.id, .int .i64 2, .int .u64 fs, .int .i64 (wrap64 (began - lead)), .int .i64 s.op, .int .i64 s.od, .int .i64 s.orr, .int .i64 0, .int .u16 me, .int .i64 1, .int .i64 0, .slice vx.1 1 vx.2, .bool false, .int .i64 1]), (85, .agg #[.int .i64 s.id, .int .i64 2, .int .u64 fs, .int .i64 (wrap64 (began - lead)), .int .i64 s.op, .int .i64 s.od, .int .i64 s.orr, .int .i64 0, .int .u16 me, .int .i64 1, .int .i64 0, .slice vx.1 1 vx.2, .bool false, .int .i64 1, .int .i64 s.m0, .int .i64 s.m1, .int .i64 s.m2, .int .i64 s.m3, .int .i64 s.m4, .slice none 0 0, .int .i64 0])]) (fun vx w' => Below wS.heap.size wS w' ∧ Kd.R (Kd.int .i64) 2 w' wS.heap.size (fun _ => True) (.slice vx.1 1 vx.2) [0]) ?_ ?_
   rotate_left
   ·intro hJ
    refine two_ (i := 23) (j := 31) (Ni := some 75) (Nj := some 83) (fb 36 1610612735) (fb 36 3749707775) rfl rfl rfl rfl (by kernel_rfl) (by decide) (by decide) (fun K_ hK_ => ?_) (fun K_ hK_ => ?_)
    ·refine goesV_ Tryz.func83 (by kernel_rfl) rfl #[.int .u16 fm, .int .i64 ff] (by rfl) rfl rfl (by first | rfl | (simp; done) | (go_simp; done)) (by (try simp only [List.map_toArray, List.map_cons, List.map_nil]); first | done | rfl) ?_
     with_reducible refine (frame_With.calls fm ff t1 _ HW1.out).mono ?_
     rintro e wx11 ⟨rfl, hb0⟩
     refine ⟨_, rfl, ?_⟩
     have hb := hb0.below
     clear hb0
     replace HB := asd (below_step HB.out hb)
     clear hb
     refine hK_.out _ _ ⟨(by have q := (H.out.below HB.out).c0; simp only [Rs.fls] at q; exact q), (by have q := (H.out.below HB.out).c4; simp only [Rs.fls] at q; exact q), (by have q := (H.out.below HB.out).c5; simp only [Rs.fls] at q; exact q), (by have q := (H.out.below HB.out).c6; simp only [Rs.fls] at q; exact q), (by have q := (H.out.below HB.out).c14; simp only [Rs.fls] at q; exact q), (by have q := (H.out.below HB.out).c15; simp only [Rs.fls] at q; exact q), (by have q := (H.out.below HB.out).c16; simp only [Rs.fls] at q; exact q), (by have q := (H.out.below HB.out).c17; simp only [Rs.fls] at q; exact q), (by have q := (H.out.below HB.out).c18; simp only [Rs.fls] at q; exact q), (blk_cell (blk_below B7.out HB.out) 1).trans rfl, (blk_cell (blk_below B7.out HB.out) 2).trans rfl, (blk_cell (blk_below B7.out HB.out) 3).trans rfl⟩ (fun hHeld => ?_)
     clear hK_ K_
     refine two_ (i := 29) (j := 31) (Ni := some 81) (Nj := some 83) (fb 36 2147483647) (fb 36 3758096383) rfl rfl rfl rfl (by kernel_rfl) (by decide) (by decide) (fun K_ hK_ => ?_) (fun K_ hK_ => ?_)
     ·refine goesV_ Tryz.func82 (by kernel_rfl) rfl #[.int .u16 t1, .int .i64 s.id] (by rfl) rfl rfl (by first | rfl | (simp; done) | (go_simp; done)) (by (try simp only [List.map_toArray, List.map_cons, List.map_nil]); first | done | rfl) ?_
      with_reducible refine (frame_Without.calls t1 s.id me _ HW2.out).mono ?_
      rintro e wx12 ⟨rfl, hb0⟩
      refine ⟨_, rfl, ?_⟩
      have hb := hb0.below
      clear hb0
      replace HB := asd (below_step HB.out hb)
      clear hb
      refine hK_.out _ _ ⟨(by have q := (H.out.below HB.out).c0; simp only [Rs.fls] at q; exact q), (by have q := (H.out.below HB.out).c4; simp only [Rs.fls] at q; exact q), (by have q := (H.out.below HB.out).c5; simp only [Rs.fls] at q; exact q), (by have q := (H.out.below HB.out).c6; simp only [Rs.fls] at q; exact q), (by have q := (H.out.below HB.out).c14; simp only [Rs.fls] at q; exact q), (by have q := (H.out.below HB.out).c15; simp only [Rs.fls] at q; exact q), (by have q := (H.out.below HB.out).c16; simp only [Rs.fls] at q; exact q), (by have q := (H.out.below HB.out).c17; simp only [Rs.fls] at q; exact q), (by have q := (H.out.below HB.out).c18; simp only [Rs.fls] at q; exact q), (blk_cell (blk_below B7.out HB.out) 1).trans rfl, (blk_cell (blk_below B7.out HB.out) 2).trans rfl, (blk_cell (blk_below B7.out HB.out) 3).trans rfl⟩ (fun hHeld => ?_)
      clear hK_ K_
      refine one_ (i := 31) (N := some 83) (fb 36 4294967295) rfl rfl (by kernel_rfl) (by decide) (fun K_ hK_ => ?_)
      refine Kd.R_lit_step (Kd.int .i64) (w0 := wS) wS.heap.size 2 (by rfl) (N := 83) ?hd (xs := ([0] : List Int)) (inner := [.int .i64 0]) (ok := fun _ => True) (okp := fun _ => True) ?hr ?hp (fun _ hk => hk) trivial HB.out HB.out.size (by simp) ?_
      (case hd => rfl)
      (case hr => first | (go_simp; done) | (go_simp; rfl))
      (case hp => exact (Reps.one (show Kd.M (Kd.int .i64) _ _ _ 0 [.int .i64 0] from rfl) (Reps.none _ _)))
      intro vx wx13 ho hb hg_ hnew_
      clear hg_ hnew_ HB
      have HB := asd hb
      have RL := asd ho
      clear hb ho
      obtain ⟨Ax, cx, eo⟩ := Kd.R_slice RL.out
      subst eo
      refine hK_.out _ _ ⟨(by have q := (H.out.below HB.out).c0; simp only [Rs.fls] at q; exact q), (by have q := (H.out.below HB.out).c4; simp only [Rs.fls] at q; exact q), (by have q := (H.out.below HB.out).c5; simp only [Rs.fls] at q; exact q), (by have q := (H.out.below HB.out).c6; simp only [Rs.fls] at q; exact q), (by have q := (H.out.below HB.out).c14; simp only [Rs.fls] at q; exact q), (by have q := (H.out.below HB.out).c15; simp only [Rs.fls] at q; exact q), (by have q := (H.out.below HB.out).c16; simp only [Rs.fls] at q; exact q), (by have q := (H.out.below HB.out).c17; simp only [Rs.fls] at q; exact q), (by have q := (H.out.below HB.out).c18; simp only [Rs.fls] at q; exact q), (blk_cell (blk_below B7.out HB.out) 1).trans rfl, (blk_cell (blk_below B7.out HB.out) 2).trans rfl, (blk_cell (blk_below B7.out HB.out) 3).trans rfl⟩ (fun hHeld => ?_)
      clear hK_ K_
      refine pi 32 84 36 8589934591 ?_
      refine pi 33 85 36 17179869183 ?_
      exact norm_ (by rfl) (hJ (Ax, cx) _ ⟨HB.out, RL.out⟩)
     refine Kd.R_lit_step (Kd.int .i64) (w0 := wS) wS.heap.size 2 (by rfl) (N := 83) ?hd (xs := ([0] : List Int)) (inner := [.int .i64 0]) (ok := fun _ => True) (okp := fun _ => True) ?hr ?hp (fun _ hk => hk) trivial HB.out HB.out.size (by simp) ?_
     (case hd => rfl)
     (case hr => first | (go_simp; done) | (go_simp; rfl))
     (case hp => exact (Reps.one (show Kd.M (Kd.int .i64) _ _ _ 0 [.int .i64 0] from rfl) (Reps.none _ _)))
     intro vx wx12 ho hb hg_ hnew_
     clear hg_ hnew_ HB
     have HB := asd hb
     have RL := asd ho
     clear hb ho
     obtain ⟨Ax, cx, eo⟩ := Kd.R_slice RL.out
     subst eo
     refine hK_.out _ _ ⟨(by have q := (H.out.below HB.out).c0; simp only [Rs.fls] at q; exact q), (by have q := (H.out.below HB.out).c4; simp only [Rs.fls] at q; exact q), (by have q := (H.out.below HB.out).c5; simp only [Rs.fls] at q; exact q), (by have q := (H.out.below HB.out).c6; simp only [Rs.fls] at q; exact q), (by have q := (H.out.below HB.out).c14; simp only [Rs.fls] at q; exact q), (by have q := (H.out.below HB.out).c15; simp only [Rs.fls] at q; exact q), (by have q := (H.out.below HB.out).c16; simp only [Rs.fls] at q; exact q), (by have q := (H.out.below HB.out).c17; simp only [Rs.fls] at q; exact q), (by have q := (H.out.below HB.out).c18; simp only [Rs.fls] at q; exact q), (blk_cell (blk_below B7.out HB.out) 1).trans rfl, (blk_cell (blk_below B7.out HB.out) 2).trans rfl, (blk_cell (blk_below B7.out HB.out) 3).trans rfl⟩ (fun hHeld => ?_)
     clear hK_ K_
     refine one_ (i := 29) (N := some 81) (fb 36 4294967295) rfl rfl (by kernel_rfl) (by decide) (fun K_ hK_ => ?_)
     refine goesV_ Tryz.func82 (by kernel_rfl) rfl #[.int .u16 t1, .int .i64 s.id] (by rfl) rfl rfl (by first | rfl | (simp; done) | (go_simp; done)) (by (try simp only [List.map_toArray, List.map_cons, List.map_nil]); first | done | rfl) ?_
     with_reducible refine (frame_Without.calls t1 s.id me _ HW2.out).mono ?_
     rintro e wx13 ⟨rfl, hb0⟩
     refine ⟨_, rfl, ?_⟩
     have hb := hb0.below
     clear hb0
     replace HB := asd (below_step HB.out hb)
     replace RL := asd (Kd.R_below RL.out hb)
     clear hb
     refine hK_.out _ _ ⟨(by have q := (H.out.below HB.out).c0; simp only [Rs.fls] at q; exact q), (by have q := (H.out.below HB.out).c4; simp only [Rs.fls] at q; exact q), (by have q := (H.out.below HB.out).c5; simp only [Rs.fls] at q; exact q), (by have q := (H.out.below HB.out).c6; simp only [Rs.fls] at q; exact q), (by have q := (H.out.below HB.out).c14; simp only [Rs.fls] at q; exact q), (by have q := (H.out.below HB.out).c15; simp only [Rs.fls] at q; exact q), (by have q := (H.out.below HB.out).c16; simp only [Rs.fls] at q; exact q), (by have q := (H.out.below HB.out).c17; simp only [Rs.fls] at q; exact q), (by have q := (H.out.below HB.out).c18; simp only [Rs.fls] at q; exact q), (blk_cell (blk_below B7.out HB.out) 1).trans rfl, (blk_cell (blk_below B7.out HB.out) 2).trans rfl, (blk_cell (blk_below B7.out HB.out) 3).trans rfl⟩ (fun hHeld => ?_)
     clear hK_ K_
     refine pi 32 84 36 8589934591 ?_
     refine pi 33 85 36 17179869183 ?_
     exact norm_ (by rfl) (hJ (Ax, cx) _ ⟨HB.out, RL.out⟩)
    refine Kd.R_lit_step (Kd.int .i64) (w0 := wS) wS.heap.size 2 (by rfl) (N := 83) ?hd (xs := ([0] : List Int)) (inner := [.int .i64 0]) (ok := fun _ => True) (okp := fun _ => True) ?hr ?hp (fun _ hk => hk) trivial HB.out HB.out.size (by simp) ?_
    (case hd => rfl)
    (case hr => first | (go_simp; done) | (go_simp; rfl))
    (case hp => exact (Reps.one (show Kd.M (Kd.int .i64) _ _ _ 0 [.int .i64 0] from rfl) (Reps.none _ _)))
    intro vx wx11 ho hb hg_ hnew_
    clear hg_ hnew_ HB
    have HB := asd hb
    have RL := asd ho
    clear hb ho
    obtain ⟨Ax, cx, eo⟩ := Kd.R_slice RL.out
    subst eo
    refine hK_.out _ _ ⟨(by have q := (H.out.below HB.out).c0; simp only [Rs.fls] at q; exact q), (by have q := (H.out.below HB.out).c4; simp only [Rs.fls] at q; exact q), (by have q := (H.out.below HB.out).c5; simp only [Rs.fls] at q; exact q), (by have q := (H.out.below HB.out).c6; simp only [Rs.fls] at q; exact q), (by have q := (H.out.below HB.out).c14; simp only [Rs.fls] at q; exact q), (by have q := (H.out.below HB.out).c15; simp only [Rs.fls] at q; exact q), (by have q := (H.out.below HB.out).c16; simp only [Rs.fls] at q; exact q), (by have q := (H.out.below HB.out).c17; simp only [Rs.fls] at q; exact q), (by have q := (H.out.below HB.out).c18; simp only [Rs.fls] at q; exact q), (blk_cell (blk_below B7.out HB.out) 1).trans rfl, (blk_cell (blk_below B7.out HB.out) 2).trans rfl, (blk_cell (blk_below B7.out HB.out) 3).trans rfl⟩ (fun hHeld => ?_)
    clear hK_ K_
    refine one_ (i := 23) (N := some 75) (fb 36 3758096383) rfl rfl (by kernel_rfl) (by decide) (fun K_ hK_ => ?_)
    refine goesV_ Tryz.func83 (by kernel_rfl) rfl #[.int .u16 fm, .int .i64 ff] (by rfl) rfl rfl (by first | rfl | (simp; done) | (go_simp; done)) (by (try simp only [List.map_toArray, List.map_cons, List.map_nil]); first | done | rfl) ?_
    with_reducible refine (frame_With.calls fm ff t1 _ HW1.out).mono ?_
    rintro e wx12 ⟨rfl, hb0⟩
    refine ⟨_, rfl, ?_⟩
    have hb := hb0.below
    clear hb0
    replace HB := asd (below_step HB.out hb)
    replace RL := asd (Kd.R_below RL.out hb)
    clear hb
    refine hK_.out _ _ ⟨(by have q := (H.out.below HB.out).c0; simp only [Rs.fls] at q; exact q), (by have q := (H.out.below HB.out).c4; simp only [Rs.fls] at q; exact q), (by have q := (H.out.below HB.out).c5; simp only [Rs.fls] at q; exact q), (by have q := (H.out.below HB.out).c6; simp only [Rs.fls] at q; exact q), (by have q := (H.out.below HB.out).c14; simp only [Rs.fls] at q; exact q), (by have q := (H.out.below HB.out).c15; simp only [Rs.fls] at q; exact q), (by have q := (H.out.below HB.out).c16; simp only [Rs.fls] at q; exact q), (by have q := (H.out.below HB.out).c17; simp only [Rs.fls] at q; exact q), (by have q := (H.out.below HB.out).c18; simp only [Rs.fls] at q; exact q), (blk_cell (blk_below B7.out HB.out) 1).trans rfl, (blk_cell (blk_below B7.out HB.out) 2).trans rfl, (blk_cell (blk_below B7.out HB.out) 3).trans rfl⟩ (fun hHeld => ?_)
    clear hK_ K_
    refine one_ (i := 29) (N := some 81) (fb 36 4294967295) rfl rfl (by kernel_rfl) (by decide) (fun K_ hK_ => ?_)
    refine goesV_ Tryz.func82 (by kernel_rfl) rfl #[.int .u16 t1, .int .i64 s.id] (by rfl) rfl rfl (by first | rfl | (simp; done) | (go_simp; done)) (by (try simp only [List.map_toArray, List.map_cons, List.map_nil]); first | done | rfl) ?_
    with_reducible refine (frame_Without.calls t1 s.id me _ HW2.out).mono ?_
    rintro e wx13 ⟨rfl, hb0⟩
    refine ⟨_, rfl, ?_⟩
    have hb := hb0.below
    clear hb0
    replace HB := asd (below_step HB.out hb)
    replace RL := asd (Kd.R_below RL.out hb)
    clear hb
    refine hK_.out _ _ ⟨(by have q := (H.out.below HB.out).c0; simp only [Rs.fls] at q; exact q), (by have q := (H.out.below HB.out).c4; simp only [Rs.fls] at q; exact q), (by have q := (H.out.below HB.out).c5; simp only [Rs.fls] at q; exact q), (by have q := (H.out.below HB.out).c6; simp only [Rs.fls] at q; exact q), (by have q := (H.out.below HB.out).c14; simp only [Rs.fls] at q; exact q), (by have q := (H.out.below HB.out).c15; simp only [Rs.fls] at q; exact q), (by have q := (H.out.below HB.out).c16; simp only [Rs.fls] at q; exact q), (by have q := (H.out.below HB.out).c17; simp only [Rs.fls] at q; exact q), (by have q := (H.out.below HB.out).c18; simp only [Rs.fls] at q; exact q), (blk_cell (blk_below B7.out HB.out) 1).trans rfl, (blk_cell (blk_below B7.out HB.out) 2).trans rfl, (blk_cell (blk_below B7.out HB.out) 3).trans rfl⟩ (fun hHeld => ?_)
    clear hK_ K_
    refine pi 32 84 36 8589934591 ?_
    refine pi 33 85 36 17179869183 ?_
    exact norm_ (by rfl) (hJ (Ax, cx) _ ⟨HB.out, RL.out⟩)
   intro vx wj14 hj_
   obtain ⟨Ax, cx⟩ := vx
   obtain ⟨h1_, h2_⟩ := hj_
   clear HB hHeld
   have HB := asd h1_
   have RL := asd h2_
   clear h1_ h2_
   refine norm_ (a' := ?_) ?_ ?_
   rotate_left
   ·simp only [putAll, Act.put, sqa, sqb, sqc, i64_w, i32_w]
    rfl
   refine one_ (i := 34) (N := some 86) (fb 36 34359738367) rfl rfl (by kernel_rfl) (by decide) (fun K_ hK_ => ?_)
   refine boxV_ (N := 86) (cs := #[.int .i64 s.id, .int .i64 2, .int .u64 fs, .int .i64 (wrap64 (began - lead)), .int .i64 s.op, .int .i64 s.od, .int .i64 s.orr, .int .i64 0, .int .u16 me, .int .i64 1, .int .i64 0, .slice Ax 1 cx, .bool false, .int .i64 1, .int .i64 s.m0, .int .i64 s.m1, .int .i64 s.m2, .int .i64 s.m3, .int .i64 s.m4, .slice none 0 0, .int .i64 0]) (t := 77) (by rfl) rfl ?hr ?_
   (case hr => first | (go_simp; done) | (go_simp; rfl))
   intro gx hg wx15 hbox hb
   have GX := asd (by rw [hg]; exact HB.out.size : wS.heap.size ≤ gx)
   replace HB := asd (below_step HB.out hb)
   replace RL := asd (Kd.R_below RL.out hb)
   have BX := asd hbox
   clear hb hbox hg
   refine hK_.out _ _ ⟨(by have q := (H.out.below HB.out).c0; simp only [Rs.fls] at q; exact q), (by have q := (H.out.below HB.out).c4; simp only [Rs.fls] at q; exact q), (by have q := (H.out.below HB.out).c5; simp only [Rs.fls] at q; exact q), (by have q := (H.out.below HB.out).c6; simp only [Rs.fls] at q; exact q), (by have q := (H.out.below HB.out).c14; simp only [Rs.fls] at q; exact q), (by have q := (H.out.below HB.out).c15; simp only [Rs.fls] at q; exact q), (by have q := (H.out.below HB.out).c16; simp only [Rs.fls] at q; exact q), (by have q := (H.out.below HB.out).c17; simp only [Rs.fls] at q; exact q), (by have q := (H.out.below HB.out).c18; simp only [Rs.fls] at q; exact q), (blk_cell (blk_below B7.out HB.out) 1).trans rfl, (blk_cell (blk_below B7.out HB.out) 2).trans rfl, (blk_cell (blk_below B7.out HB.out) 3).trans rfl⟩ (fun hHeld => ?_)
   clear hK_ K_
   refine pi 35 12 36 68719476735 ?_
   refine done_ (by kernel_rfl) ?_
   have HX := asd (⟨BX.out, Kd.R_lower RL.out H.out.bel.size, Kd.R_nil _ _ _ _ _, (H.out.below HB.out).bel, Nat.le_trans H.out.bel.size GX.out⟩ : RSt w0 wx15 gx { node_joins.x s began lead me fs with ac := [] } (.slice Ax 1 cx) nov)
   have OA := asd (fun k hk => nomatch hk : ∀ k, (nov : Value).ownBlock = some k → wS.heap.size ≤ k)
   have NXg := asd (fun e => absurd (blk_lt H.out.b) (by rw [← e]; have := GX.out; omega) : gx ≠ g)
   clear RL BX
   have hb7_2 : wx15.cell? ⟨gb7, 2, none⟩ = some (.int .u64 fs) := (blk_cell (blk_below B7.out HB.out) 2).trans rfl
   obtain ⟨t, ht⟩ : ∃ t, t = (x.ac.getD 1 ⟨0, 0, z43, 0, 0⟩).f1 := ⟨_, rfl⟩
   have HTT := asd ht
   clear ht
   by_cases c4 : now < t
   ·have c4a : decide (now < t) = true := decide_eq_true c4
    have e_ := HZ.out
    rw [← HTT.out, if_pos c4] at e_
    subst e_
    clear HZ
    go_wp2_with (first | ((with_reducible refine gate_callee (f := 53) rfl ?_); refine gC (some 91) Tryz.func53 (node_note.calls gx { node_joins.x s began lead me fs with ac := [] } (.slice Ax 1 cx) nov 3 (wrap64 fs) w0 _ HX.out (Nat.zero_le _)) ?_; rintro e wn ⟨rfl, ⟨va, hs, hat⟩, hk⟩; refine ⟨_, rfl, ?_⟩; have nHB := asd (below_of_kr HB.out hk GX.out OA.out HX.out.bel hs.bel); have nOA := asd (hat.own OA.out HB.out.size); clear HB OA HX; have HB := nHB; have OA := nOA; have HX := asd (show RSt w0 wn gx (node_joins.x s began lead me fs) (.slice Ax 1 cx) va from hs); clear nHB nOA hs hat hk; have hc15 : wn.cell? ⟨g, 15, none⟩ = some (.int .i64 s.m1) := (by have q := (H.out.below HB.out).c15; simp only [Rs.fls] at q; exact q)) | ((with_reducible refine gate_callee (f := 54) rfl ?_); refine gC (some 98) Tryz.func54 (node_timer.calls k gx (node_joins.x s began lead me fs) x (.slice Ax 1 cx) va s.m1 w0 _ HX.out (by unfold node_joins.x; simp only [List.length_cons, List.length_nil]; omega) HT.out) ?_; rintro e wt ⟨rfl, ⟨vb, hs, hat⟩, hk⟩; refine ⟨_, rfl, ?_⟩; have nHB := asd (below_of_kr HB.out hk GX.out OA.out HX.out.bel hs.bel); have nOA := asd (hat.own OA.out HB.out.size); clear HB OA HX; have HB := nHB; have OA := nOA; have HX := asd hs; clear nHB nOA hs hat hk; have hx20 : wt.cell? ⟨gx, 20, none⟩ = some (.int .i64 x.er) := HX.out.c20) | ((with_reducible refine gate_callee (f := 81) rfl ?_); refine gC (some 104) Tryz.func81 (node_fail.calls g (s.fl e3) dv av x.er w0 _ (H.out.below HB.out)) ?_; rintro e wf ⟨rfl, hs, hk⟩; refine ⟨_, rfl, ?_⟩; have nHX := asd (HX.out.krG (H.out.below HB.out) hk hs.bel NXg.out); have nK := asd ((K.out.step HB.out).thenG hk); clear H HB OA K HX B7; have H := asd hs; have HX := nHX; have K := nK; clear nHX nK hs hk; obtain ⟨ba, ca_, hva, hact⟩ := act1 HX.out.a (by obtain ⟨t_, e_⟩ := node_timer_ac HT.out; rw [e_]; unfold node_joins.x; simp only [List.length_append, List.length_cons, List.length_nil]); subst hva; rw [← HTT.out] at hact; have hx19 : wf.cell? ⟨gx, 19, none⟩ = some (.slice (some ⟨ba, 0, none⟩) 2 ca_) := HX.out.c19))
    refine start_ (n := 16) (S := fun w' => w'.cell? ⟨gx, 0, none⟩ = some (.int .i64 x.id) ∧ w'.cell? ⟨gx, 1, none⟩ = some (.int .i64 x.ph) ∧ w'.cell? ⟨gx, 2, none⟩ = some (.int .u64 x.sl) ∧ w'.cell? ⟨gx, 3, none⟩ = some (.int .i64 x.st) ∧ w'.cell? ⟨gx, 4, none⟩ = some (.int .i64 x.op) ∧ w'.cell? ⟨gx, 5, none⟩ = some (.int .i64 x.od) ∧ w'.cell? ⟨gx, 6, none⟩ = some (.int .i64 x.orr) ∧ w'.cell? ⟨gx, 7, none⟩ = some (.int .i64 x.co) ∧ w'.cell? ⟨gx, 8, none⟩ = some (.int .u16 x.me) ∧ w'.cell? ⟨gx, 9, none⟩ = some (.int .i64 x.tg) ∧ w'.cell? ⟨gx, 10, none⟩ = some (.int .i64 x.tb) ∧ w'.cell? ⟨gx, 11, none⟩ = some (.slice Ax 1 cx) ∧ w'.cell? ⟨gx, 12, none⟩ = some (.bool x.se) ∧ w'.cell? ⟨gx, 13, none⟩ = some (.int .i64 x.ve) ∧ w'.cell? ⟨gx, 19, none⟩ = some (.slice (some ⟨ba, 0, none⟩) 2 ca_)) (ds := []) (fb 16 0) (by kernel_rfl) rfl rfl ⟨HX.out.drew.c0, HX.out.drew.c1, HX.out.drew.c2, HX.out.drew.c3, HX.out.drew.c4, HX.out.drew.c5, HX.out.drew.c6, HX.out.drew.c7, HX.out.drew.c8, HX.out.drew.c9, HX.out.drew.c10, HX.out.drew.c11, HX.out.drew.c12, HX.out.drew.c13, HX.out.drew.c19⟩ (fun hHeld => ?_)
    replace H := asd (H.out.drew)
    replace K := asd (K.out.drew)
    replace HX := asd (HX.out.drew)
    generalize wf.drew = wd11 at H K HX hHeld ⊢
    refine pi 0 114 16 1 ?_
    refine pi 1 115 16 3 ?_
    refine pi 2 116 16 7 ?_
    refine pi 3 117 16 15 ?_
    refine pi 4 118 16 31 ?_
    refine ti 5 119 16 63 hHeld ?_
    refine pi 6 120 16 127 ?_
    refine pi 7 121 16 255 ?_
    refine pi 8 122 16 511 ?_
    refine ti 9 123 16 1023 hHeld ?_
    refine pi 10 124 16 2047 ?_
    refine pi 11 125 16 4095 ?_
    refine one_ (i := 12) (N := none) (fb 16 8191) rfl rfl (by kernel_rfl) (by decide) (fun K_ hK_ => ?_)
    have hq0 := H.out.c0
    have hr0 := H.out.fz 0
    have hq1 := H.out.c1
    have hr1 := H.out.fz 1
    have hq2 := H.out.c2
    have hr2 := H.out.fz 2
    have hq3 := H.out.c3
    have hr3 := H.out.fz 3
    have hq4 := H.out.c4
    have hr4 := H.out.fz 4
    have hq5 := H.out.c5
    have hr5 := H.out.fz 5
    have hq6 := H.out.c6
    have hr6 := H.out.fz 6
    have hq7 := H.out.c7
    have hr7 := H.out.fz 7
    have hq8 := H.out.c8
    have hr8 := H.out.fz 8
    have hq9 := H.out.c9
    have hr9 := H.out.fz 9
    have hq10 := H.out.c10
    have hr10 := H.out.fz 10
    have hq11 := H.out.c11
    have hr11 := H.out.fz 11
    have hq12 := H.out.c12
    have hr12 := H.out.fz 12
    have hq13 := H.out.c13
    have hr13 := H.out.fz 13
    refine skip_ (w1 := ?_) (by rfl) rfl ?_ ?_
    rotate_left
    ·go_simp
     rfl
    have q_ := (((((((((((((((Wr.refl g wd11).set 0 (.int .i64 x.id)).set 1 (.int .i64 x.ph)).set 2 (.int .u64 x.sl)).set 3 (.int .i64 x.st)).set 4 (.int .i64 x.op)).set 5 (.int .i64 x.od)).set 6 (.int .i64 x.orr)).set 7 (.int .i64 x.co)).set 8 (.int .u16 x.me)).set 9 (.int .i64 x.tg)).set 10 (.int .i64 x.tb)).set 11 (.slice Ax 1 cx)).set 12 (.bool x.se)).set 13 (.int .i64 x.ve))
    have nHX := asd (HX.out.wrOther H.out q_ NXg.out)
    have nH := asd (H.out.set14 x (.slice Ax 1 cx) HX.out.d)
    have nK := asd (K.out.wr q_)
    clear HX H K
    have HX := nHX
    have H := nH
    have K := nK
    clear nHX nH nK q_ hq0 hr0 hq1 hr1 hq2 hr2 hq3 hr3 hq4 hr4 hq5 hr5 hq6 hr6 hq7 hr7 hq8 hr8 hq9 hr9 hq10 hr10 hq11 hr11 hq12 hr12 hq13 hr13
    generalize ((((((((((((((wd11.setCell ⟨g, 0, none⟩ (.int .i64 x.id)).setCell ⟨g, 1, none⟩ (.int .i64 x.ph)).setCell ⟨g, 2, none⟩ (.int .u64 x.sl)).setCell ⟨g, 3, none⟩ (.int .i64 x.st)).setCell ⟨g, 4, none⟩ (.int .i64 x.op)).setCell ⟨g, 5, none⟩ (.int .i64 x.od)).setCell ⟨g, 6, none⟩ (.int .i64 x.orr)).setCell ⟨g, 7, none⟩ (.int .i64 x.co)).setCell ⟨g, 8, none⟩ (.int .u16 x.me)).setCell ⟨g, 9, none⟩ (.int .i64 x.tg)).setCell ⟨g, 10, none⟩ (.int .i64 x.tb)).setCell ⟨g, 11, none⟩ (.slice Ax 1 cx)).setCell ⟨g, 12, none⟩ (.bool x.se)).setCell ⟨g, 13, none⟩ (.int .i64 x.ve)) = wz12 at H K HX ⊢
    refine hK_.out _ _ ⟨HX.out.c0, HX.out.c1, HX.out.c2, HX.out.c3, HX.out.c4, HX.out.c5, HX.out.c6, HX.out.c7, HX.out.c8, HX.out.c9, HX.out.c10, HX.out.c11, HX.out.c12, HX.out.c13, HX.out.c19⟩ (fun hHeld => ?_)
    clear hK_ K_
    refine pi 13 126 16 16383 ?_
    refine pi 14 127 16 32767 ?_
    refine one_ (i := 15) (N := none) (fb 16 65535) rfl rfl (by kernel_rfl) (by decide) (fun K_ hK_ => ?_)
    have hq19 := H.out.c19
    have hr19 := H.out.fz 19
    refine skip_ (w1 := ?_) (by rfl) rfl ?_ ?_
    rotate_left
    ·go_simp
     rfl
    have q_ := ((Wr.refl g wz12).set 19 (.slice (some ⟨ba, 0, none⟩) 2 ca_))
    have nHX := asd (HX.out.wrOther H.out q_ NXg.out)
    have nH := asd (H.out.setAc x.ac (.slice (some ⟨ba, 0, none⟩) 2 ca_) HX.out.a)
    have nK := asd (K.out.wr q_)
    clear HX H K
    have HX := nHX
    have H := nH
    have K := nK
    clear nHX nH nK q_ hq19 hr19
    generalize (wz12.setCell ⟨g, 19, none⟩ (.slice (some ⟨ba, 0, none⟩) 2 ca_)) = wz15 at H K HX ⊢
    refine hK_.out _ _ ⟨HX.out.c0, HX.out.c1, HX.out.c2, HX.out.c3, HX.out.c4, HX.out.c5, HX.out.c6, HX.out.c7, HX.out.c8, HX.out.c9, HX.out.c10, HX.out.c11, HX.out.c12, HX.out.c13, HX.out.c19⟩ (fun hHeld => ?_)
    clear hK_ K_
    refine done_ (by kernel_rfl) ?_
    go_wp2
    first | go_end0 | go_ret | ((try simp only [Exit.inBlock, Exit.then]); refine bodyPost_ret (results_none rfl _ _ _) rfl ?_)
    have q := H.out
    simp only [Rs.fls] at q
    exact ⟨rfl, ⟨_, _, q⟩, K.out⟩
   have c4a : decide (now < t) = false := decide_eq_false c4
   have e_ := HZ.out
   rw [← HTT.out, if_neg c4] at e_
   subst e_
   clear HZ
   go_wp2_with (first | ((with_reducible refine gate_callee (f := 53) rfl ?_); refine gC (some 91) Tryz.func53 (node_note.calls gx { node_joins.x s began lead me fs with ac := [] } (.slice Ax 1 cx) nov 3 (wrap64 fs) w0 _ HX.out (Nat.zero_le _)) ?_; rintro e wn ⟨rfl, ⟨va, hs, hat⟩, hk⟩; refine ⟨_, rfl, ?_⟩; have nHB := asd (below_of_kr HB.out hk GX.out OA.out HX.out.bel hs.bel); have nOA := asd (hat.own OA.out HB.out.size); clear HB OA HX; have HB := nHB; have OA := nOA; have HX := asd (show RSt w0 wn gx (node_joins.x s began lead me fs) (.slice Ax 1 cx) va from hs); clear nHB nOA hs hat hk; have hc15 : wn.cell? ⟨g, 15, none⟩ = some (.int .i64 s.m1) := (by have q := (H.out.below HB.out).c15; simp only [Rs.fls] at q; exact q)) | ((with_reducible refine gate_callee (f := 54) rfl ?_); refine gC (some 98) Tryz.func54 (node_timer.calls k gx (node_joins.x s began lead me fs) x (.slice Ax 1 cx) va s.m1 w0 _ HX.out (by unfold node_joins.x; simp only [List.length_cons, List.length_nil]; omega) HT.out) ?_; rintro e wt ⟨rfl, ⟨vb, hs, hat⟩, hk⟩; refine ⟨_, rfl, ?_⟩; have nHB := asd (below_of_kr HB.out hk GX.out OA.out HX.out.bel hs.bel); have nOA := asd (hat.own OA.out HB.out.size); clear HB OA HX; have HB := nHB; have OA := nOA; have HX := asd hs; clear nHB nOA hs hat hk; have hx20 : wt.cell? ⟨gx, 20, none⟩ = some (.int .i64 x.er) := HX.out.c20) | ((with_reducible refine gate_callee (f := 81) rfl ?_); refine gC (some 104) Tryz.func81 (node_fail.calls g (s.fl e3) dv av x.er w0 _ (H.out.below HB.out)) ?_; rintro e wf ⟨rfl, hs, hk⟩; refine ⟨_, rfl, ?_⟩; have nHX := asd (HX.out.krG (H.out.below HB.out) hk hs.bel NXg.out); have nK := asd ((K.out.step HB.out).thenG hk); clear H HB OA K HX B7; have H := asd hs; have HX := nHX; have K := nK; clear nHX nK hs hk; obtain ⟨ba, ca_, hva, hact⟩ := act1 HX.out.a (by obtain ⟨t_, e_⟩ := node_timer_ac HT.out; rw [e_]; unfold node_joins.x; simp only [List.length_append, List.length_cons, List.length_nil]); subst hva; rw [← HTT.out] at hact; have hx19 : wf.cell? ⟨gx, 19, none⟩ = some (.slice (some ⟨ba, 0, none⟩) 2 ca_) := HX.out.c19))
   first | go_end0 | go_ret | ((try simp only [Exit.inBlock, Exit.then]); refine bodyPost_ret (results_none rfl _ _ _) rfl ?_)
   exact ⟨rfl, ⟨_, _, H.out⟩, K.out⟩
  have c2a : (own != ff) = true := bne_iff_ne.mpr c2
  have hf := HF.out
  rw [if_pos c1, if_neg c2] at hf
  obtain rfl := Option.some.inj hf
  go_wp2
  first | go_end0 | go_ret | ((try simp only [Exit.inBlock, Exit.then]); refine bodyPost_ret (results_none rfl _ _ _) rfl ?_)
  exact ⟨rfl, ⟨_, _, H.out⟩, K.out⟩
 have c1a : (e1 != 0) = true := bne_iff_ne.mpr c1
 have hf := HF.out
 rw [if_neg c1] at hf
 obtain rfl := Option.some.inj hf
 go_wp2
 first | go_end0 | go_ret | ((try simp only [Exit.inBlock, Exit.then]); refine bodyPost_ret (results_none rfl _ _ _) rfl ?_)
 exact ⟨rfl, ⟨_, _, H.out⟩, K.out⟩


end Go.Proofs.YtcofclkgfandfaaGreat.Print
