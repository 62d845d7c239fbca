-- PRINTED by print.py (a twelfth state) out of the translation. Not trusted: Lean checks it.
import Derived.Test.YtcofclkgfandfaaGreatSq
import Derived.Test.YtcofclkgfandfaaGreatPrint0
import Derived.Test.YtcofclkgfandfaaGreatPrint11
import Derived.Test.YtcofclkgfandfaaGreatPrint12
namespace Go.Proofs.YtcofclkgfandfaaGreat.Print
open Go.RowKit Go.Proofs.YtcofclkgfandfaaGreatW.PrintWords Go.Proofs.YtcofclkgfandfaaGreatW.PrintLast Go.Proofs.YtcofclkgfandfaaGreatW.PrintMore Go.Proofs.YtcofclkgfandfaaGreatX
attribute [local go_sem] str_lss str_geq max2_int min2_int max_two min_two max_three min_three max_four min_four   -- for this text's walks alone
set_option linter.unusedVariables false
set_option linter.unusedSimpArgs false

/-! ### node_Timer: function 23 -/
/-- What starts. -/
def node_starts.f (k : Nat) (s : Rs) (now : Int) : Option Rs := (frame_With.f 0 s.id).bind fun me => node_timer.f k { { s with ph := 2, sl := (IntKind.u64.wrap s.id), st := now, co := 0, me := me, tg := 1, tb := 0, ds := [], se := false, ve := 0 } with ac := s.ac ++ [⟨3, 0, z43, 2, 0⟩] } s.m2
set_option maxHeartbeats 8000000 in
set_option maxRecDepth 100000 in
theorem node_starts.calls (k : Nat) (g : Nat) (s s2 : Rs) (dv av : Value) (now : Int) (w0 w : World) (h : RSt w0 w g s dv av) (hl : s.ac.length ≤ 900000) (hf : node_starts.f k s now = some s2) :
  Calls Tryz.prog 62 #[.pointer (some ⟨g, 0, none⟩), .int .i64 now] w fun e w' => e = .returned (.tuple #[]) ∧ (∃ av', RSt w0 w' g s2 nov av' ∧ At w.heap.size av av') ∧ Kr w w' g nov av := by
 unfold node_starts.f at hf
 obtain ⟨me, A1, hf⟩ := Option.bind_eq_some_iff.mp hf
 have HA := asd A1
 have H := asd h
 have K := asd (Kr.refl w g nov av)
 have AD := asd (At.refl w.heap.size nov)
 have AA := asd (At.refl w.heap.size av)
 have hlen := asd hl
 have HF := asd hf
 clear h hl A1 hf
 go_enter Tryz.func62, Tryz.ntmps62
 go_wp2
 refine start_ (n := 29) (S := fun w' => w'.cell? ⟨g, 0, none⟩ = some (.int .i64 (s).id) ∧ w'.cell? ⟨g, 4, none⟩ = some (.int .i64 (s).op) ∧ w'.cell? ⟨g, 5, none⟩ = some (.int .i64 (s).od) ∧ w'.cell? ⟨g, 6, none⟩ = some (.int .i64 (s).orr)) (ds := []) (fb 29 0) (by kernel_rfl) rfl rfl ⟨H.out.c0, H.out.c4, H.out.c5, H.out.c6⟩ (fun hHeld => ?_)
 replace H := asd (H.out.drew)
 replace K := asd (K.out.drew)
 generalize (w).drew = wd1 at H K hHeld ⊢
 refine pz (i := 0) (N := some 4) (fb 29 1) ?_
 refine pz (i := 1) (N := some 5) (fb 29 3) ?_
 refine pz (i := 2) (N := some 6) (fb 29 7) ?_
 refine pz (i := 3) (N := some 7) (fb 29 15) ?_
 refine pz (i := 4) (N := some 8) (fb 29 31) ?_
 refine tz (i := 5) (N := some 9) (fb 29 63) hHeld ?_
 refine pz (i := 6) (N := some 10) (fb 29 127) ?_
 refine pz (i := 7) (N := some 11) (fb 29 255) ?_
 refine pz (i := 8) (N := some 12) (fb 29 511) ?_
 refine pz (i := 9) (N := some 13) (fb 29 1023) ?_
 refine tz (i := 10) (N := some 14) (fb 29 2047) hHeld ?_
 refine pz (i := 11) (N := some 15) (fb 29 4095) ?_
 refine pz (i := 12) (N := some 16) (fb 29 8191) ?_
 refine pz (i := 13) (N := some 17) (fb 29 16383) ?_
 refine pz (i := 14) (N := some 18) (fb 29 32767) ?_
 refine tz (i := 15) (N := some 19) (fb 29 65535) hHeld ?_
 refine pz (i := 16) (N := some 20) (fb 29 131071) ?_
 refine pz (i := 17) (N := some 21) (fb 29 262143) ?_
 refine pz (i := 18) (N := some 22) (fb 29 524287) ?_
 refine pz (i := 19) (N := some 23) (fb 29 1048575) ?_
 refine pz (i := 20) (N := some 24) (fb 29 2097151) ?_
 refine pz (i := 21) (N := some 25) (fb 29 4194303) ?_
 refine tz (i := 22) (N := some 26) (fb 29 8388607) hHeld ?_
 refine pz (i := 24) (N := some 28) (fb 29 25165823) ?_
 refine one_ (i := 23) (N := some 27) (fb 29 33554431) rfl rfl (by kernel_rfl) (by decide) (fun K_ hK_ => ?_)
 refine goesV_ Tryz.func83 (by kernel_rfl) rfl #[.int .u16 0, .int .i64 s.id] (by rfl) rfl rfl (by first | rfl | (simp; done) | (go_simp; done)) (by (try simp only [List.map_toArray, List.map_cons, List.map_nil]); first | done | rfl) ?_
 with_reducible refine (frame_With.calls 0 s.id me _ HA.out).mono ?_
 rintro e wx2 ⟨rfl, hb0⟩
 refine ⟨_, rfl, ?_⟩
 have hb := hb0.below
 clear hb0
 replace H := asd (H.out.below hb)
 replace K := asd (K.out.step hb)
 clear hb
 refine hK_.out _ _ ⟨H.out.c0, H.out.c4, H.out.c5, H.out.c6⟩ (fun hHeld => ?_)
 clear hK_ K_
 refine pz (i := 25) (N := some 29) (fb 29 67108863) ?_
 refine pz (i := 26) (N := some 30) (fb 29 134217727) ?_
 refine pz (i := 27) (N := some 31) (fb 29 268435455) ?_
 refine one_ (i := 28) (N := none) (fb 29 536870911) rfl rfl (by kernel_rfl) (by decide) (fun K_ hK_ => ?_)
 have hq0 := H.out.c0
 have hr0 := H.out.fz 0
 have hq1 := H.out.c1
 have hr1 := H.out.fz 1
 have hq2 := H.out.c2
 have hr2 := H.out.fz 2
 have hq3 := H.out.c3
 have hr3 := H.out.fz 3
 have hq4 := H.out.c4
 have hr4 := H.out.fz 4
 have hq5 := H.out.c5
 have hr5 := H.out.fz 5
 have hq6 := H.out.c6
 have hr6 := H.out.fz 6
 have hq7 := H.out.c7
 have hr7 := H.out.fz 7
 have hq8 := H.out.c8
 have hr8 := H.out.fz 8
 have hq9 := H.out.c9
 have hr9 := H.out.fz 9
 have hq10 := H.out.c10
 have hr10 := H.out.fz 10
 have hq11 := H.out.c11
 have hr11 := H.out.fz 11
 have hq12 := H.out.c12
 have hr12 := H.out.fz 12
 have hq13 := H.out.c13
 have hr13 := H.out.fz 13
 refine skip_ (w1 := ?_) (by rfl) rfl ?_ ?_
 rotate_left
 ·go_simp
  rfl
 have q_ := (((((((((((((((Wr.refl g wx2).set 0 (.int .i64 s.id)).set 1 (.int .i64 2)).set 2 (.int .u64 (IntKind.u64.wrap s.id))).set 3 (.int .i64 now)).set 4 (.int .i64 s.op)).set 5 (.int .i64 s.od)).set 6 (.int .i64 s.orr)).set 7 (.int .i64 0)).set 8 (.int .u16 me)).set 9 (.int .i64 1)).set 10 (.int .i64 0)).set 11 (.slice none 0 0)).set 12 (.bool false)).set 13 (.int .i64 0))
 replace H := asd (H.out.set14 { s with ph := 2, sl := (IntKind.u64.wrap s.id), st := now, co := 0, me := me, tg := 1, tb := 0, ds := [], se := false, ve := 0 } (.slice none 0 0) (Kd.R_nil _ _ _ _ _))
 replace K := asd (K.out.wr q_)
 clear q_ hq0 hr0 hq1 hr1 hq2 hr2 hq3 hr3 hq4 hr4 hq5 hr5 hq6 hr6 hq7 hr7 hq8 hr8 hq9 hr9 hq10 hr10 hq11 hr11 hq12 hr12 hq13 hr13
 generalize ((((((((((((((wx2.setCell ⟨g, 0, none⟩ (.int .i64 s.id)).setCell ⟨g, 1, none⟩ (.int .i64 2)).setCell ⟨g, 2, none⟩ (.int .u64 (IntKind.u64.wrap s.id))).setCell ⟨g, 3, none⟩ (.int .i64 now)).setCell ⟨g, 4, none⟩ (.int .i64 s.op)).setCell ⟨g, 5, none⟩ (.int .i64 s.od)).setCell ⟨g, 6, none⟩ (.int .i64 s.orr)).setCell ⟨g, 7, none⟩ (.int .i64 0)).setCell ⟨g, 8, none⟩ (.int .u16 me)).setCell ⟨g, 9, none⟩ (.int .i64 1)).setCell ⟨g, 10, none⟩ (.int .i64 0)).setCell ⟨g, 11, none⟩ (.slice none 0 0)).setCell ⟨g, 12, none⟩ (.bool false)).setCell ⟨g, 13, none⟩ (.int .i64 0)) = wy3 at H K ⊢
 refine hK_.out _ _ ⟨H.out.c0, H.out.c4, H.out.c5, H.out.c6⟩ (fun hHeld => ?_)
 clear hK_ K_
 refine done_ (by kernel_rfl) ?_
 go_wp2_with (first | ((with_reducible refine gate_callee (f := 53) rfl ?_); refine gL (some 33) Tryz.func53 #[.pointer (some ⟨g, 0, none⟩), .int .i64 2, .int .i64 0] ?_; (with_reducible refine (node_note.calls g { s with ph := 2, sl := (IntKind.u64.wrap s.id), st := now, co := 0, me := me, tg := 1, tb := 0, ds := [], se := false, ve := 0 } nov av 2 0 w0 _ H.out (by have := hlen.out; show s.ac.length ≤ 1000000; omega)).mono ?_); rintro e wx4 ⟨rfl, ⟨v2_wx4, hs, hat⟩, hk⟩; refine ⟨_, rfl, ?_⟩; have nK := asd (K.out.trans AD.out AA.out hk.wideD); have nAA := asd (AA.out.trans K.out.1 hat); have nH := asd (hs); clear K AA H; have K := nK; have AA := nAA; have H := nH; clear nK nAA nH hs hat hk; have hc16 : wx4.cell? ⟨g, 16, none⟩ = some (.int .i64 (s).m2) := (by have q := H.out.c16; (try simp only [Rs.fls] at q); exact q); have hf16 := H.out.fz 16) | ((with_reducible refine gate_callee (f := 54) rfl ?_); refine gL (some 40) Tryz.func54 #[.pointer (some ⟨g, 0, none⟩), .int .i64 s.m2] ?_; (with_reducible refine (node_timer.calls k g { { s with ph := 2, sl := (IntKind.u64.wrap s.id), st := now, co := 0, me := me, tg := 1, tb := 0, ds := [], se := false, ve := 0 } with ac := s.ac ++ [⟨3, 0, z43, 2, 0⟩] } s2 nov _ s.m2 w0 _ H.out (by have := hlen.out; show (s.ac ++ [_]).length ≤ 1000000; simp only [List.length_append, List.length_singleton]; omega) HF.out).mono ?_); rintro e wx5 ⟨rfl, ⟨v2_wx5, hs, hat⟩, hk⟩; refine ⟨_, rfl, ?_⟩; have nK := asd (K.out.trans AD.out AA.out hk.wideD); have nAA := asd (AA.out.trans K.out.1 hat); have nH := asd (hs); clear K AA H; have K := nK; have AA := nAA; have H := nH; clear nK nAA nH hs hat hk hc16 hf16; have hc16 : wx5.cell? ⟨g, 16, none⟩ = some (.int .i64 (s2).m2) := (by have q := H.out.c16; (try simp only [Rs.fls] at q); exact q); have hf16 := H.out.fz 16))
 first | go_end0 | go_ret | ((try simp only [Exit.inBlock, Exit.then]); refine bodyPost_ret (results_none rfl _ _ _) rfl ?_)
 exact ⟨rfl, ⟨_, H.out, AA.out⟩, K.out⟩

/-- What a timer does to what listens (what is active: not told here). -/
def node_timers.f (k : Nat) (now : Int) (s : Rs) : Option Rs := if s.ph = 1 then node_starts.f k s now else if s.ph = 2 then none else some s
set_option maxHeartbeats 8000000 in
set_option maxRecDepth 100000 in
theorem node_timers.calls (k : Nat) (b9 b5 g : Nat) (s s2 : Rs) (dv av : Value) (now : Int) (w0 w : World) (h : RSt w0 w g s dv av) (h9 : w.heap[b9]? = some (.cells #[.pointer (some ⟨g, 0, none⟩)] 74 (0, 0))) (h5 : w.heap[b5]? = some (.cells #[.int .i64 now] 2 (0, 0))) (hl : s.ac.length ≤ 900000) (hf : node_timers.f k now s = some s2) :
  Calls Tryz.prog 61 #[.pointer (some ⟨b9, 0, none⟩), .pointer (some ⟨b5, 0, none⟩)] w fun e w' => e = .returned (.tuple #[]) ∧ (∃ dv' av', RSt w0 w' g s2 dv' av') ∧ Kr w w' g nov av := by
 have H := asd h
 have B9 := asd h9
 have N9_g := asd (blk_ne h9 h.b (by decide) : b9 ≠ g)
 have B5 := asd h5
 have N5_g := asd (blk_ne h5 h.b (by decide) : b5 ≠ g)
 have hlen := asd hl
 have hb9 := ca1 B9
 have hb5 := ca1 B5
 have hc1 : w.cell? ⟨g, 1, none⟩ = some (.int .i64 (s).ph) := (by have q := H.out.c1; (try simp only [Rs.fls] at q); exact q)
 have hf1 := H.out.fz 1
 unfold node_timers.f at hf
 clear h h9 h5 hl
 by_cases c : s.ph = 1
 ·have ca : (s.ph == 1) = true := beq_iff_eq.mpr c
  rw [if_pos c] at hf
  have HF := asd hf
  clear hf
  go_enter Tryz.func61, Tryz.ntmps61
  go_wp2_with (first | ((with_reducible refine gate_callee (f := 62) rfl ?_); refine gL (some 13) Tryz.func62 #[.pointer (some ⟨g, 0, none⟩), .int .i64 now] ?_; (with_reducible refine (node_starts.calls k g s s2 dv av now w0 _ H.out hlen.out HF.out).mono ?_); rintro e wx1 ⟨rfl, ⟨v2_, hs, hat⟩, hk⟩; refine ⟨_, rfl, ?_⟩; have HS := asd hs; have HK := asd hk; clear hs hat hk))
  first | go_end0 | go_ret | ((try simp only [Exit.inBlock, Exit.then]); refine bodyPost_ret (results_none rfl _ _ _) rfl ?_)
  exact ⟨rfl, ⟨_, _, HS.out⟩, HK.out⟩
 ·have ca : (s.ph == 1) = false := beq_eq_false_iff_ne.mpr c
  rw [if_neg c] at hf
  by_cases d : s.ph = 2
  ·rw [if_pos d] at hf
   exact nomatch hf
  ·have da : (s.ph != 2) = true := bne_iff_ne.mpr d
   rw [if_neg d] at hf
   obtain rfl := Option.some.inj hf
   go_enter Tryz.func61, Tryz.ntmps61
   go_wp2
   first | go_end0 | go_ret | ((try simp only [Exit.inBlock, Exit.then]); refine bodyPost_ret (results_none rfl _ _ _) rfl ?_)
   exact ⟨rfl, ⟨_, _, H.out⟩, Kr.refl w g _ _⟩

/-- node_Timer. -/
def node_Timer.f (k : Nat) (m0 m1 m2 m3 m4 : Int) (n_id n_ph n_sl n_st n_op n_od n_orr n_co n_me n_tg n_tb : Int) (l : List Int) (n_se : Bool) (n_ve : Int) (now : Int) : Option (Int × Int × Int × Int × Int × Int × Int × Int × Int × Int × Int × List Int × Bool × Int × List S66 × Int) := (node_begin.f k m0 m1 m2 m3 m4 n_id n_ph n_sl n_st n_op n_od n_orr n_co n_me n_tg n_tb n_ve n_se l now).bind fun e => (if e = 0 then node_timers.f k now (⟨n_id, n_ph, n_sl, n_st, n_op, n_od, n_orr, n_co, n_me, n_tg, n_tb, l, n_se, n_ve, m0, m1, m2, m3, m4, [], 0⟩ : Rs) else some { (⟨n_id, n_ph, n_sl, n_st, n_op, n_od, n_orr, n_co, n_me, n_tg, n_tb, l, n_se, n_ve, m0, m1, m2, m3, m4, [], 0⟩ : Rs) with er := e }).bind fun s2 => some (nodeTold { (⟨n_id, n_ph, n_sl, n_st, n_op, n_od, n_orr, n_co, n_me, n_tg, n_tb, l, n_se, n_ve, m0, m1, m2, m3, m4, [], 0⟩ : Rs) with er := e } s2)
set_option maxHeartbeats 8000000 in
set_option maxRecDepth 100000 in
theorem node_Timer.calls (k : Nat) (m0 m1 m2 m3 m4 : Int) (n_id n_ph n_sl n_st n_op n_od n_orr n_co n_me n_tg n_tb : Int) (A : Option Addr) (c : Nat) (l : List Int) (n_se : Bool) (n_ve : Int) (now : Int) (r1 r2 r3 r4 r5 r6 r7 r8 r9 r10 r11 : Int) (r12 : List Int) (r13 : Bool) (r14 : Int) (r15 : List S66) (r16 : Int) (w : World) (hr : Kd.C (Kd.int .i64) w A l.length l) (hc : l.length ≤ c) (h : node_Timer.f k m0 m1 m2 m3 m4 n_id n_ph n_sl n_st n_op n_od n_orr n_co n_me n_tg n_tb l n_se n_ve now = some (r1, r2, r3, r4, r5, r6, r7, r8, r9, r10, r11, r12, r13, r14, r15, r16)) :
  Calls Tryz.prog 23 #[.agg #[.int .i64 m0, .int .i64 m1, .int .i64 m2, .int .i64 m3, .int .i64 m4], .agg #[.int .i64 n_id, .int .i64 n_ph, .int .u64 n_sl, .int .i64 n_st, .int .i64 n_op, .int .i64 n_od, .int .i64 n_orr, .int .i64 n_co, .int .u16 n_me, .int .i64 n_tg, .int .i64 n_tb, .slice A l.length c, .bool n_se, .int .i64 n_ve], .int .i64 now] w fun e w' => ∃ v11_ v14_ : Value, e = .returned (.tuple #[.agg #[.int .i64 r1, .int .i64 r2, .int .u64 r3, .int .i64 r4, .int .i64 r5, .int .i64 r6, .int .i64 r7, .int .i64 r8, .int .u16 r9, .int .i64 r10, .int .i64 r11, v11_, .bool r13, .int .i64 r14], v14_, .int .i64 r16]) ∧ Kd.R (Kd.int .i64) 2 w' w.heap.size (fun _ => True) v11_ r12 ∧ Kd.R k66 66 w' w.heap.size (fun _ => True) v14_ r15 ∧ Below w.heap.size w w' := by
 unfold node_Timer.f at h
 obtain ⟨e_, A1, h⟩ := Option.bind_eq_some_iff.mp h
 obtain ⟨s2, A2, h⟩ := Option.bind_eq_some_iff.mp h
 have h := Option.some.inj h
 have HA := asd A1
 have HR := asd hr
 have HC := asd hc
 have HLN := asd (show l.length < 17592186044416 from node_begin_len A1)
 have HB := asd (Below.refl w.heap.size w)
 have W0 := asd (Below.refl w.heap.size w)
 have HN := asd (show ({ (⟨n_id, n_ph, n_sl, n_st, n_op, n_od, n_orr, n_co, n_me, n_tg, n_tb, l, n_se, n_ve, m0, m1, m2, m3, m4, [], 0⟩ : Rs) with er := e_ } : Rs).er ≠ 0 → s2 = { (⟨n_id, n_ph, n_sl, n_st, n_op, n_od, n_orr, n_co, n_me, n_tg, n_tb, l, n_se, n_ve, m0, m1, m2, m3, m4, [], 0⟩ : Rs) with er := e_ } from fun hn => by rw [if_neg hn] at A2; exact (Option.some.inj A2).symm)
 have HF := asd (show ({ (⟨n_id, n_ph, n_sl, n_st, n_op, n_od, n_orr, n_co, n_me, n_tg, n_tb, l, n_se, n_ve, m0, m1, m2, m3, m4, [], 0⟩ : Rs) with er := e_ } : Rs).er = 0 → node_timers.f k now { (⟨n_id, n_ph, n_sl, n_st, n_op, n_od, n_orr, n_co, n_me, n_tg, n_tb, l, n_se, n_ve, m0, m1, m2, m3, m4, [], 0⟩ : Rs) with er := e_ } = some s2 from fun hn => by rw [if_pos hn] at A2; exact (congrArg _ (by rw [show e_ = 0 from hn])).trans A2)
 have HE := asd h
 have hmf : ∀ fn first cap w, (Instr.makeFunc fn first cap).run Tryz.prog w = .ok (.func fn first cap) w := fun _ _ _ _ => rfl
 clear hr hc h A1 A2
 go_enter Tryz.func23, Tryz.ntmps23
 go_wp2_with (first | ((with_reducible refine gate_dst (N := 3) rfl ?_); refine bx (N := 3) (cs := #[.int .i64 m0, .int .i64 m1, .int .i64 m2, .int .i64 m3, .int .i64 m4]) (t := 23) ?_; intro gb3 hg wx1 hbox hb; have G3 := asd (by rw [hg]; exact HB.out.size : w.heap.size ≤ gb3); replace HB := asd (below_step HB.out hb); have B3 := asd hbox; clear hb hbox hg; have hb3 := ca5 B3) | ((with_reducible refine gate_dst (N := 4) rfl ?_); refine bx (N := 4) (cs := #[.int .i64 n_id, .int .i64 n_ph, .int .u64 n_sl, .int .i64 n_st, .int .i64 n_op, .int .i64 n_od, .int .i64 n_orr, .int .i64 n_co, .int .u16 n_me, .int .i64 n_tg, .int .i64 n_tb, .slice A l.length c, .bool n_se, .int .i64 n_ve]) (t := 32) ?_; intro gb4 hg wx2 hbox hb; have G4 := asd (by rw [hg]; exact HB.out.size : w.heap.size ≤ gb4); have N4_3 := asd (by rw [hg]; exact Nat.ne_of_gt (blk_lt B3.out) : gb4 ≠ gb3); replace HB := asd (below_step HB.out hb); replace B3 := asd (blk_below B3.out hb); have B4 := asd hbox; clear hb hbox hg hb3; have hb3 := ca5 B3; have hb4 := facts14 B4.out) | ((with_reducible refine gate_dst (N := 5) rfl ?_); refine bx (N := 5) (cs := #[.int .i64 now]) (t := 2) ?_; intro gb5 hg wx3 hbox hb; have G5 := asd (by rw [hg]; exact HB.out.size : w.heap.size ≤ gb5); have N5_3 := asd (by rw [hg]; exact Nat.ne_of_gt (blk_lt B3.out) : gb5 ≠ gb3); have N5_4 := asd (by rw [hg]; exact Nat.ne_of_gt (blk_lt B4.out) : gb5 ≠ gb4); replace HB := asd (below_step HB.out hb); replace B3 := asd (blk_below B3.out hb); replace B4 := asd (blk_below B4.out hb); have B5 := asd hbox; clear hb hbox hg hb3 hb4; have hb3 := ca5 B3; have hb4 := facts14 B4.out; have hb5 := ca1 B5) | ((with_reducible refine gate_dst (N := 6) rfl ?_); refine bx (N := 6) (cs := #[.int .i64 0, .int .i64 0, .int .u64 0, .int .i64 0, .int .i64 0, .int .i64 0, .int .i64 0, .int .i64 0, .int .u16 0, .int .i64 0, .int .i64 0, .slice none 0 0, .bool false, .int .i64 0]) (t := 32) ?_; intro gb6 hg wx4 hbox hb; have G6 := asd (by rw [hg]; exact HB.out.size : w.heap.size ≤ gb6); have N6_3 := asd (by rw [hg]; exact Nat.ne_of_gt (blk_lt B3.out) : gb6 ≠ gb3); have N6_4 := asd (by rw [hg]; exact Nat.ne_of_gt (blk_lt B4.out) : gb6 ≠ gb4); have N6_5 := asd (by rw [hg]; exact Nat.ne_of_gt (blk_lt B5.out) : gb6 ≠ gb5); replace HB := asd (below_step HB.out hb); replace B3 := asd (blk_below B3.out hb); replace B4 := asd (blk_below B4.out hb); replace B5 := asd (blk_below B5.out hb); have B6 := asd hbox; clear hb hbox hg hb3 hb4 hb5; have hb3 := ca5 B3; have hb4 := facts14 B4.out; have hb5 := ca1 B5) | ((with_reducible refine gate_callee (f := 36) rfl ?_); refine gL (some 13) Tryz.func36 #[.agg #[.int .i64 m0, .int .i64 m1, .int .i64 m2, .int .i64 m3, .int .i64 m4], .agg #[.int .i64 n_id, .int .i64 n_ph, .int .u64 n_sl, .int .i64 n_st, .int .i64 n_op, .int .i64 n_od, .int .i64 n_orr, .int .i64 n_co, .int .u16 n_me, .int .i64 n_tg, .int .i64 n_tb, .slice A l.length c, .bool n_se, .int .i64 n_ve], .int .i64 now] ?_; (with_reducible refine (node_begin.calls k m0 m1 m2 m3 m4 n_id n_ph n_sl n_st n_op n_od n_orr n_co n_me n_tg n_tb n_ve n_se A c l now e_ w _ HB (Kd.C_below HR.out HB.out) HC.out HLN.out HA.out).mono ?_); rintro e wx5 ⟨g, dv, rfl, hs, hgs, hds, hb⟩; refine ⟨_, rfl, ?_⟩; have N3_g := asd (fun e => absurd (blk_lt B3.out) (by rw [e]; omega) : gb3 ≠ g); have N4_g := asd (fun e => absurd (blk_lt B4.out) (by rw [e]; omega) : gb4 ≠ g); have N5_g := asd (fun e => absurd (blk_lt B5.out) (by rw [e]; omega) : gb5 ≠ g); have N6_g := asd (fun e => absurd (blk_lt B6.out) (by rw [e]; omega) : gb6 ≠ g); replace HB := asd (below_step HB.out hb); replace B3 := asd (blk_below B3.out hb); replace B4 := asd (blk_below B4.out hb); replace B5 := asd (blk_below B5.out hb); replace B6 := asd (blk_below B6.out hb); have H := asd hs; clear hs hgs hds hb hb3 hb4 hb5; have hb5 := ca1 B5; have hb3 := ca5 B3) | ((with_reducible refine gate_dst (N := 9) rfl ?_); refine bx (N := 9) (cs := #[.pointer none]) (t := 74) ?_; intro gb9 hg wx6 hbox hb; have G9 := asd (by rw [hg]; exact HB.out.size : w.heap.size ≤ gb9); have N9_3 := asd (by rw [hg]; exact Nat.ne_of_gt (blk_lt B3.out) : gb9 ≠ gb3); have N9_4 := asd (by rw [hg]; exact Nat.ne_of_gt (blk_lt B4.out) : gb9 ≠ gb4); have N9_5 := asd (by rw [hg]; exact Nat.ne_of_gt (blk_lt B5.out) : gb9 ≠ gb5); have N9_6 := asd (by rw [hg]; exact Nat.ne_of_gt (blk_lt B6.out) : gb9 ≠ gb6); have N9_g := asd (by rw [hg]; exact Nat.ne_of_gt (blk_lt H.out.b) : gb9 ≠ g); replace HB := asd (below_step HB.out hb); replace B3 := asd (blk_below B3.out hb); replace B4 := asd (blk_below B4.out hb); replace B5 := asd (blk_below B5.out hb); replace B6 := asd (blk_below B6.out hb); replace H := asd (H.out.below hb); have B9 := asd hbox; clear hb hbox hg hb5 hb3; have hb9 := ca1 B9) | ((with_reducible refine gate_callee (f := 37) rfl ?_); refine gL (some 16) Tryz.func37 #[.pointer (some ⟨g, 0, none⟩), .func (.func 61) #[] #[.pointer (some ⟨gb9, 0, none⟩), .pointer (some ⟨gb5, 0, none⟩)]] ?_; have q_ := ((Wr.refl gb9 wx6).set 0 (.pointer (some ⟨g, 0, none⟩))); replace B3 := asd (q_.blk B3.out N9_3.out.symm); replace B4 := asd (q_.blk B4.out N9_4.out.symm); replace B5 := asd (q_.blk B5.out N9_5.out.symm); replace B6 := asd (q_.blk B6.out N9_6.out.symm); replace HB := asd (HB.out.trans (q_.be _ G9.out)); replace H := asd (q_.run B9.out (by decide) (by decide) (by decide) (Nat.le_trans W0.out.size G9.out) H.out); replace B9 := asd (show (World.heap _)[gb9]? = some (Obj.cells #[.pointer (some ⟨g, 0, none⟩)] 74 (0, 0)) from (blk_put (cs := #[.pointer none]) B9.out 0 (.pointer (some ⟨g, 0, none⟩)) rfl)); clear q_; refine (node_do.calls 61 Tryz.f61 #[.pointer (some ⟨gb9, 0, none⟩), .pointer (some ⟨gb5, 0, none⟩)] Tryz.func61 (by kernel_rfl) rfl g { (⟨n_id, n_ph, n_sl, n_st, n_op, n_od, n_orr, n_co, n_me, n_tg, n_tb, l, n_se, n_ve, m0, m1, m2, m3, m4, [], 0⟩ : Rs) with er := e_ } s2 dv (.slice none 0 0) w _ H.out HLN.out HN.out (fun c_ w1 hb1 => (node_timers.calls k gb9 gb5 g _ s2 dv (.slice none 0 0) now w w1 (H.out.below hb1) (blk_below B9.out hb1) (blk_below B5.out hb1) (Nat.zero_le _) (HF.out c_)).mono (fun e w2 hq => ⟨hq.1, _, _, hq.2.1.choose_spec.choose_spec, hq.2.2.wideD⟩))).mono ?_; rintro e wx7 hD; obtain ⟨sr, hsr, nv, av2, rfl, hnv, hav, hbl, hkr⟩ := hD.one; refine ⟨_, rfl, ?_⟩; have SR := hsr; have nB6 := asd (hkr.blk B6.out N6_g.out (Kd.R_ne H.out.d B6.out (by decide)) (by simp [Value.ownBlock])); clear H HB B3 B4 B5 B6 B9; have B6 := nB6; have HB := asd hbl; have RN := asd hnv; have RA := asd hav; clear nB6 hD hsr hnv hav hbl hkr; obtain ⟨An, cn, ed⟩ := Kd.R_slice RN.out; subst ed; clear hb9; have hb6 := facts14 B6.out))
 have q_ := (((((((((((((((Wr.refl gb6 wx7).set 0 (.int .i64 sr.id)).set 1 (.int .i64 sr.ph)).set 2 (.int .u64 sr.sl)).set 3 (.int .i64 sr.st)).set 4 (.int .i64 sr.op)).set 5 (.int .i64 sr.od)).set 6 (.int .i64 sr.orr)).set 7 (.int .i64 sr.co)).set 8 (.int .u16 sr.me)).set 9 (.int .i64 sr.tg)).set 10 (.int .i64 sr.tb)).set 11 (.slice An sr.ds.length cn)).set 12 (.bool sr.se)).set 13 (.int .i64 sr.ve))
 replace HB := asd (HB.out.trans (q_.be _ G6.out))
 replace RN := asd (q_.row B6.out (by decide) RN.out)
 replace RA := asd (q_.row B6.out (by decide) RA.out)
 replace B6 := asd (blk14 (.int .i64 sr.id) (.int .i64 sr.ph) (.int .u64 sr.sl) (.int .i64 sr.st) (.int .i64 sr.op) (.int .i64 sr.od) (.int .i64 sr.orr) (.int .i64 sr.co) (.int .u16 sr.me) (.int .i64 sr.tg) (.int .i64 sr.tb) (.slice An sr.ds.length cn) (.bool sr.se) (.int .i64 sr.ve) B6.out)
 clear q_
 have E : nodeTold { (⟨n_id, n_ph, n_sl, n_st, n_op, n_od, n_orr, n_co, n_me, n_tg, n_tb, l, n_se, n_ve, m0, m1, m2, m3, m4, [], 0⟩ : Rs) with er := e_ } s2 = (r1, r2, r3, r4, r5, r6, r7, r8, r9, r10, r11, r12, r13, r14, r15, r16) := HE.out
 unfold nodeTold at E
 simp only [← SR.out, Prod.mk.injEq] at E
 obtain ⟨rfl, rfl, rfl, rfl, rfl, rfl, rfl, rfl, rfl, rfl, rfl, rfl, rfl, rfl, rfl, rfl⟩ := E
 refine bodyPost_ret (results_ctt rfl _ _ gb6 32 #[.int .i64 sr.id, .int .i64 sr.ph, .int .u64 sr.sl, .int .i64 sr.st, .int .i64 sr.op, .int .i64 sr.od, .int .i64 sr.orr, .int .i64 sr.co, .int .u16 sr.me, .int .i64 sr.tg, .int .i64 sr.tb, .slice An sr.ds.length cn, .bool sr.se, .int .i64 sr.ve] (0, 0) _ rfl B6.out Tryz.underlying32 rfl (by kernel_rfl)) rfl ?_
 exact ⟨_, _, rfl, RN.out, RA.out, HB.out⟩


/-! ### palletlaw13_four: function 28 -/
def palletlaw13_four.f  : Option (Int × Int × Int × Int × Int) := some (4, 100, 20, 30, 10)
set_option maxHeartbeats 8000000 in
set_option maxRecDepth 100000 in
theorem palletlaw13_four.calls  (r1 : Int) (r2 : Int) (r3 : Int) (r4 : Int) (r5 : Int) (w : World) (h : palletlaw13_four.f  = some (r1, r2, r3, r4, r5)) :
  Calls Tryz.prog 28 #[] w fun e w' => e = .returned (.agg #[.int .i64 r1, .int .i64 r2, .int .i64 r3, .int .i64 r4, .int .i64 r5]) ∧ Below w.heap.size w w' := by
 have hu23 := Tryz.underlying23
 have HB := asd (Below.refl w.heap.size w)
 have H : (some (4, 100, 20, 30, 10)) = some (r1, r2, r3, r4, r5) := h
 clear h
 simp only [Option.some.injEq, Prod.mk.injEq] at H
 obtain ⟨rfl, rfl, rfl, rfl, rfl⟩ := H
 go_enter Tryz.func28, Tryz.ntmps28
 go_wp2_with (first | ((with_reducible refine gate_dst (N := 0) rfl ?_); refine bx (N := 0) (cs := #[.int .i64 0, .int .i64 0, .int .i64 0, .int .i64 0, .int .i64 0]) (t := 23) ?_; intro gb416 hg w1 hbox hb; have BK416 := asd (hbox); have GW416 := bz HB hg; have GE416 := bz HB hg; replace HB := bs HB hb; clear hb hbox hg; have hcz2 := cf5 BK416))
 refine bodyPost_ret (results_cell_row rfl _ _ gb416 23 #[.int .i64 4, .int .i64 100, .int .i64 20, .int .i64 30, .int .i64 10] (0, 0) _ rfl (by (with_reducible repeat (first | refine blk_drewN ?_ _ | refine blk_drew ?_ | refine blk_alloc ?_ _)); refine blk_put (cs := #[.int .i64 4, .int .i64 100, .int .i64 20, .int .i64 30, .int .i64 0]) ?_ 4 _ rfl; (with_reducible repeat (first | refine blk_drewN ?_ _ | refine blk_drew ?_ | refine blk_alloc ?_ _)); refine blk_put (cs := #[.int .i64 4, .int .i64 100, .int .i64 20, .int .i64 0, .int .i64 0]) ?_ 3 _ rfl; (with_reducible repeat (first | refine blk_drewN ?_ _ | refine blk_drew ?_ | refine blk_alloc ?_ _)); refine blk_put (cs := #[.int .i64 4, .int .i64 100, .int .i64 0, .int .i64 0, .int .i64 0]) ?_ 2 _ rfl; (with_reducible repeat (first | refine blk_drewN ?_ _ | refine blk_drew ?_ | refine blk_alloc ?_ _)); refine blk_put (cs := #[.int .i64 4, .int .i64 0, .int .i64 0, .int .i64 0, .int .i64 0]) ?_ 1 _ rfl; (with_reducible repeat (first | refine blk_drewN ?_ _ | refine blk_drew ?_ | refine blk_alloc ?_ _)); refine blk_put (cs := #[.int .i64 0, .int .i64 0, .int .i64 0, .int .i64 0, .int .i64 0]) ?_ 0 _ rfl; (with_reducible repeat (first | refine blk_drewN ?_ _ | refine blk_drew ?_ | refine blk_alloc ?_ _)); exact BK416.out) Tryz.underlying23 rfl (by kernel_rfl)) rfl ?_
 exact ⟨by first | rfl | (simp [errW_none, errW_some] <;> rfl) | (simp [*, errW_none, errW_some] <;> rfl), by repeat (first | (with_reducible first | exact HB.out | apply below_alloc | apply pw_below_drewN | apply below_drew1 | refine below_set ?_ GE416.out) | exact HB.out)⟩


/-! ### palletlaw13_live: function 7 -/
def palletlaw13_live.f (k : Nat)  : Option (Bool) := (palletlaw13_four.f).bind fun bt417 => ((node_New.f k bt417.1 bt417.2.1 bt417.2.2.1 bt417.2.2.2.1 bt417.2.2.2.2 1 10 0 0).bind fun bt422 => ((palletlaw13_four.f).bind fun bt440 => ((node_Wake.f k bt440.1 bt440.2.1 bt440.2.2.1 bt440.2.2.2.1 bt440.2.2.2.2 bt422.1 bt422.2.1 bt422.2.2.1 bt422.2.2.2.1 bt422.2.2.2.2.1 bt422.2.2.2.2.2.1 bt422.2.2.2.2.2.2.1 bt422.2.2.2.2.2.2.2.1 bt422.2.2.2.2.2.2.2.2.1 bt422.2.2.2.2.2.2.2.2.2.1 bt422.2.2.2.2.2.2.2.2.2.2.1 bt422.2.2.2.2.2.2.2.2.2.2.2.1 bt422.2.2.2.2.2.2.2.2.2.2.2.2.1 bt422.2.2.2.2.2.2.2.2.2.2.2.2.2.1 0).bind fun bt445 => ((palletlaw13_four.f).bind fun bt465 => ((node_Timer.f k bt465.1 bt465.2.1 bt465.2.2.1 bt465.2.2.2.1 bt465.2.2.2.2 bt445.1 bt445.2.1 bt445.2.2.1 bt445.2.2.2.1 bt445.2.2.2.2.1 bt445.2.2.2.2.2.1 bt445.2.2.2.2.2.2.1 bt445.2.2.2.2.2.2.2.1 bt445.2.2.2.2.2.2.2.2.1 bt445.2.2.2.2.2.2.2.2.2.1 bt445.2.2.2.2.2.2.2.2.2.2.1 bt445.2.2.2.2.2.2.2.2.2.2.2.1 bt445.2.2.2.2.2.2.2.2.2.2.2.2.1 bt445.2.2.2.2.2.2.2.2.2.2.2.2.2.1 10000).bind fun bt470 => (if bt422.2.2.2.2.2.2.2.2.2.2.2.2.2.2 = 0 then (if bt445.2.2.2.2.2.2.2.2.2.2.2.2.2.2.2 = 0 then (if bt470.2.2.2.2.2.2.2.2.2.2.2.2.2.2.2 = 0 then (if (bt445.2.2.2.2.2.2.2.2.2.2.2.2.2.2.1.length : Int) = 2 then (if 1 < (bt445.2.2.2.2.2.2.2.2.2.2.2.2.2.2.1.length : Int) then (if ((rd_T66 bt445.2.2.2.2.2.2.2.2.2.2.2.2.2.2.1 1).f1) = 10000 then (if (bt470.2.2.2.2.2.2.2.2.2.2.2.2.2.2.1.length : Int) = 2 then (if 1 < (bt470.2.2.2.2.2.2.2.2.2.2.2.2.2.2.1.length : Int) then (if ((rd_T66 bt470.2.2.2.2.2.2.2.2.2.2.2.2.2.2.1 1).f1) = 10200 then (some (bt470.2.1 == 2)) else (none)) else (none)) else (none)) else (none)) else (none)) else (none)) else (none)) else (none)) else (none)))))))
def palletlaw13_live.T2 : Bool × List (List Nat × List Nat) := (true, [([], []), ([], []), ([0, 1, 0], [0, 1]), ([2], [2]), ([3], [3]), ([3], [3]), ([3], [3]), ([4, 2, 0, 1, 2, 3, 4], [4]), ([5, 7, 0, 1, 2, 3, 4, 5, 7], [5]), ([6, 8, 0, 1, 2, 3, 4, 5, 6, 7, 8], [6])])
def palletlaw13_live.B2 : List Nat := [0, 0, 3, 7, 15, 15, 15, 31, 191, 511]
theorem palletlaw13_live.tab2 : rtab .any (opsOf Tryz.f7 2) = palletlaw13_live.T2 := by kernel_rfl
theorem palletlaw13_live.bits2 : waitsOk palletlaw13_live.T2.2 palletlaw13_live.B2 = true := by kernel_rfl
def palletlaw13_live.T3 : Bool × List (List Nat × List Nat) := (true, [([], []), ([], []), ([0, 1, 0], [0, 1]), ([2], [2]), ([3], [3]), ([3], [3]), ([3], [3]), ([4, 2, 0, 1, 2, 3, 4], [4]), ([5, 7, 0, 1, 2, 3, 4, 5, 7], [5]), ([6, 8, 0, 1, 2, 3, 4, 5, 6, 7, 8], [6])])
def palletlaw13_live.B3 : List Nat := [0, 0, 3, 7, 15, 15, 15, 31, 191, 511]
theorem palletlaw13_live.tab3 : rtab .any (opsOf Tryz.f7 3) = palletlaw13_live.T3 := by kernel_rfl
theorem palletlaw13_live.bits3 : waitsOk palletlaw13_live.T3.2 palletlaw13_live.B3 = true := by kernel_rfl
set_option maxHeartbeats 8000000 in
set_option maxRecDepth 100000 in
theorem palletlaw13_live.calls (k : Nat)  (r : Bool) (w : World) (h : palletlaw13_live.f k  = some r) :
  Calls Tryz.prog 7 #[] w fun e w' => e = .returned (.bool r) ∧ Below w.heap.size w w' := by
 have hu26 := Tryz.underlying26
 have hu32 := Tryz.underlying32
 have HB := asd (Below.refl w.heap.size w)
 have H : ((palletlaw13_four.f).bind fun bt417 => ((node_New.f k bt417.1 bt417.2.1 bt417.2.2.1 bt417.2.2.2.1 bt417.2.2.2.2 1 10 0 0).bind fun bt422 => ((palletlaw13_four.f).bind fun bt440 => ((node_Wake.f k bt440.1 bt440.2.1 bt440.2.2.1 bt440.2.2.2.1 bt440.2.2.2.2 bt422.1 bt422.2.1 bt422.2.2.1 bt422.2.2.2.1 bt422.2.2.2.2.1 bt422.2.2.2.2.2.1 bt422.2.2.2.2.2.2.1 bt422.2.2.2.2.2.2.2.1 bt422.2.2.2.2.2.2.2.2.1 bt422.2.2.2.2.2.2.2.2.2.1 bt422.2.2.2.2.2.2.2.2.2.2.1 bt422.2.2.2.2.2.2.2.2.2.2.2.1 bt422.2.2.2.2.2.2.2.2.2.2.2.2.1 bt422.2.2.2.2.2.2.2.2.2.2.2.2.2.1 0).bind fun bt445 => ((palletlaw13_four.f).bind fun bt465 => ((node_Timer.f k bt465.1 bt465.2.1 bt465.2.2.1 bt465.2.2.2.1 bt465.2.2.2.2 bt445.1 bt445.2.1 bt445.2.2.1 bt445.2.2.2.1 bt445.2.2.2.2.1 bt445.2.2.2.2.2.1 bt445.2.2.2.2.2.2.1 bt445.2.2.2.2.2.2.2.1 bt445.2.2.2.2.2.2.2.2.1 bt445.2.2.2.2.2.2.2.2.2.1 bt445.2.2.2.2.2.2.2.2.2.2.1 bt445.2.2.2.2.2.2.2.2.2.2.2.1 bt445.2.2.2.2.2.2.2.2.2.2.2.2.1 bt445.2.2.2.2.2.2.2.2.2.2.2.2.2.1 10000).bind fun bt470 => (if bt422.2.2.2.2.2.2.2.2.2.2.2.2.2.2 = 0 then (if bt445.2.2.2.2.2.2.2.2.2.2.2.2.2.2.2 = 0 then (if bt470.2.2.2.2.2.2.2.2.2.2.2.2.2.2.2 = 0 then (if (bt445.2.2.2.2.2.2.2.2.2.2.2.2.2.2.1.length : Int) = 2 then (if 1 < (bt445.2.2.2.2.2.2.2.2.2.2.2.2.2.2.1.length : Int) then (if ((rd_T66 bt445.2.2.2.2.2.2.2.2.2.2.2.2.2.2.1 1).f1) = 10000 then (if (bt470.2.2.2.2.2.2.2.2.2.2.2.2.2.2.1.length : Int) = 2 then (if 1 < (bt470.2.2.2.2.2.2.2.2.2.2.2.2.2.2.1.length : Int) then (if ((rd_T66 bt470.2.2.2.2.2.2.2.2.2.2.2.2.2.2.1 1).f1) = 10200 then (some (bt470.2.1 == 2)) else (none)) else (none)) else (none)) else (none)) else (none)) else (none)) else (none)) else (none)) else (none)))))))) = some r := h
 clear h
 replace H := Option.bind_eq_some_iff.mp H
 obtain ⟨⟨t417, t418, t419, t420, t421⟩, A10, H⟩ := H
 replace H : ((node_New.f k t417 t418 t419 t420 t421 1 10 0 0).bind fun bt422 => ((palletlaw13_four.f).bind fun bt440 => ((node_Wake.f k bt440.1 bt440.2.1 bt440.2.2.1 bt440.2.2.2.1 bt440.2.2.2.2 bt422.1 bt422.2.1 bt422.2.2.1 bt422.2.2.2.1 bt422.2.2.2.2.1 bt422.2.2.2.2.2.1 bt422.2.2.2.2.2.2.1 bt422.2.2.2.2.2.2.2.1 bt422.2.2.2.2.2.2.2.2.1 bt422.2.2.2.2.2.2.2.2.2.1 bt422.2.2.2.2.2.2.2.2.2.2.1 bt422.2.2.2.2.2.2.2.2.2.2.2.1 bt422.2.2.2.2.2.2.2.2.2.2.2.2.1 bt422.2.2.2.2.2.2.2.2.2.2.2.2.2.1 0).bind fun bt445 => ((palletlaw13_four.f).bind fun bt465 => ((node_Timer.f k bt465.1 bt465.2.1 bt465.2.2.1 bt465.2.2.2.1 bt465.2.2.2.2 bt445.1 bt445.2.1 bt445.2.2.1 bt445.2.2.2.1 bt445.2.2.2.2.1 bt445.2.2.2.2.2.1 bt445.2.2.2.2.2.2.1 bt445.2.2.2.2.2.2.2.1 bt445.2.2.2.2.2.2.2.2.1 bt445.2.2.2.2.2.2.2.2.2.1 bt445.2.2.2.2.2.2.2.2.2.2.1 bt445.2.2.2.2.2.2.2.2.2.2.2.1 bt445.2.2.2.2.2.2.2.2.2.2.2.2.1 bt445.2.2.2.2.2.2.2.2.2.2.2.2.2.1 10000).bind fun bt470 => (if bt422.2.2.2.2.2.2.2.2.2.2.2.2.2.2 = 0 then (if bt445.2.2.2.2.2.2.2.2.2.2.2.2.2.2.2 = 0 then (if bt470.2.2.2.2.2.2.2.2.2.2.2.2.2.2.2 = 0 then (if (bt445.2.2.2.2.2.2.2.2.2.2.2.2.2.2.1.length : Int) = 2 then (if 1 < (bt445.2.2.2.2.2.2.2.2.2.2.2.2.2.2.1.length : Int) then (if ((rd_T66 bt445.2.2.2.2.2.2.2.2.2.2.2.2.2.2.1 1).f1) = 10000 then (if (bt470.2.2.2.2.2.2.2.2.2.2.2.2.2.2.1.length : Int) = 2 then (if 1 < (bt470.2.2.2.2.2.2.2.2.2.2.2.2.2.2.1.length : Int) then (if ((rd_T66 bt470.2.2.2.2.2.2.2.2.2.2.2.2.2.2.1 1).f1) = 10200 then (some (bt470.2.1 == 2)) else (none)) else (none)) else (none)) else (none)) else (none)) else (none)) else (none)) else (none)) else (none))))))) = some r := H
 have A1 := asd A10
 clear A10
 replace H := Option.bind_eq_some_iff.mp H
 obtain ⟨⟨t422, t423, t424, t425, t426, t427, t428, t429, t430, t431, t432, t433, t436, t437, t438⟩, A20, H⟩ := H
 replace H : ((palletlaw13_four.f).bind fun bt440 => ((node_Wake.f k bt440.1 bt440.2.1 bt440.2.2.1 bt440.2.2.2.1 bt440.2.2.2.2 t422 t423 t424 t425 t426 t427 t428 t429 t430 t431 t432 t433 t436 t437 0).bind fun bt445 => ((palletlaw13_four.f).bind fun bt465 => ((node_Timer.f k bt465.1 bt465.2.1 bt465.2.2.1 bt465.2.2.2.1 bt465.2.2.2.2 bt445.1 bt445.2.1 bt445.2.2.1 bt445.2.2.2.1 bt445.2.2.2.2.1 bt445.2.2.2.2.2.1 bt445.2.2.2.2.2.2.1 bt445.2.2.2.2.2.2.2.1 bt445.2.2.2.2.2.2.2.2.1 bt445.2.2.2.2.2.2.2.2.2.1 bt445.2.2.2.2.2.2.2.2.2.2.1 bt445.2.2.2.2.2.2.2.2.2.2.2.1 bt445.2.2.2.2.2.2.2.2.2.2.2.2.1 bt445.2.2.2.2.2.2.2.2.2.2.2.2.2.1 10000).bind fun bt470 => (if t438 = 0 then (if bt445.2.2.2.2.2.2.2.2.2.2.2.2.2.2.2 = 0 then (if bt470.2.2.2.2.2.2.2.2.2.2.2.2.2.2.2 = 0 then (if (bt445.2.2.2.2.2.2.2.2.2.2.2.2.2.2.1.length : Int) = 2 then (if 1 < (bt445.2.2.2.2.2.2.2.2.2.2.2.2.2.2.1.length : Int) then (if ((rd_T66 bt445.2.2.2.2.2.2.2.2.2.2.2.2.2.2.1 1).f1) = 10000 then (if (bt470.2.2.2.2.2.2.2.2.2.2.2.2.2.2.1.length : Int) = 2 then (if 1 < (bt470.2.2.2.2.2.2.2.2.2.2.2.2.2.2.1.length : Int) then (if ((rd_T66 bt470.2.2.2.2.2.2.2.2.2.2.2.2.2.2.1 1).f1) = 10200 then (some (bt470.2.1 == 2)) else (none)) else (none)) else (none)) else (none)) else (none)) else (none)) else (none)) else (none)) else (none)))))) = some r := H
 have A2 := asd A20
 clear A20
 replace H := Option.bind_eq_some_iff.mp H
 obtain ⟨⟨t440, t441, t442, t443, t444⟩, A30, H⟩ := H
 replace H : ((node_Wake.f k t440 t441 t442 t443 t444 t422 t423 t424 t425 t426 t427 t428 t429 t430 t431 t432 t433 t436 t437 0).bind fun bt445 => ((palletlaw13_four.f).bind fun bt465 => ((node_Timer.f k bt465.1 bt465.2.1 bt465.2.2.1 bt465.2.2.2.1 bt465.2.2.2.2 bt445.1 bt445.2.1 bt445.2.2.1 bt445.2.2.2.1 bt445.2.2.2.2.1 bt445.2.2.2.2.2.1 bt445.2.2.2.2.2.2.1 bt445.2.2.2.2.2.2.2.1 bt445.2.2.2.2.2.2.2.2.1 bt445.2.2.2.2.2.2.2.2.2.1 bt445.2.2.2.2.2.2.2.2.2.2.1 bt445.2.2.2.2.2.2.2.2.2.2.2.1 bt445.2.2.2.2.2.2.2.2.2.2.2.2.1 bt445.2.2.2.2.2.2.2.2.2.2.2.2.2.1 10000).bind fun bt470 => (if t438 = 0 then (if bt445.2.2.2.2.2.2.2.2.2.2.2.2.2.2.2 = 0 then (if bt470.2.2.2.2.2.2.2.2.2.2.2.2.2.2.2 = 0 then (if (bt445.2.2.2.2.2.2.2.2.2.2.2.2.2.2.1.length : Int) = 2 then (if 1 < (bt445.2.2.2.2.2.2.2.2.2.2.2.2.2.2.1.length : Int) then (if ((rd_T66 bt445.2.2.2.2.2.2.2.2.2.2.2.2.2.2.1 1).f1) = 10000 then (if (bt470.2.2.2.2.2.2.2.2.2.2.2.2.2.2.1.length : Int) = 2 then (if 1 < (bt470.2.2.2.2.2.2.2.2.2.2.2.2.2.2.1.length : Int) then (if ((rd_T66 bt470.2.2.2.2.2.2.2.2.2.2.2.2.2.2.1 1).f1) = 10200 then (some (bt470.2.1 == 2)) else (none)) else (none)) else (none)) else (none)) else (none)) else (none)) else (none)) else (none)) else (none))))) = some r := H
 have A3 := asd A30
 clear A30
 replace H := Option.bind_eq_some_iff.mp H
 obtain ⟨⟨t445, t446, t447, t448, t449, t450, t451, t452, t453, t454, t455, t456, t459, t460, t461, t464⟩, A40, H⟩ := H
 replace H : ((palletlaw13_four.f).bind fun bt465 => ((node_Timer.f k bt465.1 bt465.2.1 bt465.2.2.1 bt465.2.2.2.1 bt465.2.2.2.2 t445 t446 t447 t448 t449 t450 t451 t452 t453 t454 t455 t456 t459 t460 10000).bind fun bt470 => (if t438 = 0 then (if t464 = 0 then (if bt470.2.2.2.2.2.2.2.2.2.2.2.2.2.2.2 = 0 then (if (t461.length : Int) = 2 then (if 1 < (t461.length : Int) then (if ((rd_T66 t461 1).f1) = 10000 then (if (bt470.2.2.2.2.2.2.2.2.2.2.2.2.2.2.1.length : Int) = 2 then (if 1 < (bt470.2.2.2.2.2.2.2.2.2.2.2.2.2.2.1.length : Int) then (if ((rd_T66 bt470.2.2.2.2.2.2.2.2.2.2.2.2.2.2.1 1).f1) = 10200 then (some (bt470.2.1 == 2)) else (none)) else (none)) else (none)) else (none)) else (none)) else (none)) else (none)) else (none)) else (none)))) = some r := H
 have A4 := asd A40
 clear A40
 replace H := Option.bind_eq_some_iff.mp H
 obtain ⟨⟨t465, t466, t467, t468, t469⟩, A50, H⟩ := H
 replace H : ((node_Timer.f k t465 t466 t467 t468 t469 t445 t446 t447 t448 t449 t450 t451 t452 t453 t454 t455 t456 t459 t460 10000).bind fun bt470 => (if t438 = 0 then (if t464 = 0 then (if bt470.2.2.2.2.2.2.2.2.2.2.2.2.2.2.2 = 0 then (if (t461.length : Int) = 2 then (if 1 < (t461.length : Int) then (if ((rd_T66 t461 1).f1) = 10000 then (if (bt470.2.2.2.2.2.2.2.2.2.2.2.2.2.2.1.length : Int) = 2 then (if 1 < (bt470.2.2.2.2.2.2.2.2.2.2.2.2.2.2.1.length : Int) then (if ((rd_T66 bt470.2.2.2.2.2.2.2.2.2.2.2.2.2.2.1 1).f1) = 10200 then (some (bt470.2.1 == 2)) else (none)) else (none)) else (none)) else (none)) else (none)) else (none)) else (none)) else (none)) else (none))) = some r := H
 have A5 := asd A50
 clear A50
 replace H := Option.bind_eq_some_iff.mp H
 obtain ⟨⟨t470, t471, t472, t473, t474, t475, t476, t477, t478, t479, t480, t481, t484, t485, t486, t489⟩, A60, H⟩ := H
 replace H : (if t438 = 0 then (if t464 = 0 then (if t489 = 0 then (if (t461.length : Int) = 2 then (if 1 < (t461.length : Int) then (if ((rd_T66 t461 1).f1) = 10000 then (if (t486.length : Int) = 2 then (if 1 < (t486.length : Int) then (if ((rd_T66 t486 1).f1) = 10200 then (some (t471 == 2)) else (none)) else (none)) else (none)) else (none)) else (none)) else (none)) else (none)) else (none)) else (none)) = some r := H
 have A6 := asd A60
 clear A60
 by_cases c7 : t438 = 0
 ·rw [if_pos c7] at H
  have c7b0 : (t438 == 0) = true := beq_iff_eq.mpr c7
  have c7b1 : (t438 != 0) = false := bne_eq_false_iff_eq.mpr c7
  clear c7
  by_cases c8 : t464 = 0
  ·rw [if_pos c8] at H
   have c8b0 : (t464 == 0) = true := beq_iff_eq.mpr c8
   have c8b1 : (t464 != 0) = false := bne_eq_false_iff_eq.mpr c8
   clear c8
   by_cases c9 : t489 = 0
   ·rw [if_pos c9] at H
    have c9b0 : (t489 == 0) = true := beq_iff_eq.mpr c9
    have c9b1 : (t489 != 0) = false := bne_eq_false_iff_eq.mpr c9
    clear c9
    by_cases c10 : (t461.length : Int) = 2
    ·rw [if_pos c10] at H
     have c10b0 : ((t461.length : Int) == 2) = true := beq_iff_eq.mpr c10
     have c10b1 : ((t461.length : Int) != 2) = false := bne_eq_false_iff_eq.mpr c10
     clear c10
     by_cases c11 : 1 < (t461.length : Int)
     ·rw [if_pos c11] at H
      have c11b0 : decide (1 < (t461.length : Int)) = true := decide_eq_true c11
      have c11b1 : decide (1 < t461.length) = true := decide_eq_true (by omega)
      clear c11
      by_cases c12 : ((rd_T66 t461 1).f1) = 10000
      ·rw [if_pos c12] at H
       have c12b0 : (((rd_T66 t461 1).f1) == 10000) = true := beq_iff_eq.mpr c12
       have c12b1 : (((rd_T66 t461 1).f1) != 10000) = false := bne_eq_false_iff_eq.mpr c12
       clear c12
       by_cases c13 : (t486.length : Int) = 2
       ·rw [if_pos c13] at H
        have c13b0 : ((t486.length : Int) == 2) = true := beq_iff_eq.mpr c13
        have c13b1 : ((t486.length : Int) != 2) = false := bne_eq_false_iff_eq.mpr c13
        clear c13
        by_cases c14 : 1 < (t486.length : Int)
        ·rw [if_pos c14] at H
         have c14b0 : decide (1 < (t486.length : Int)) = true := decide_eq_true c14
         have c14b1 : decide (1 < t486.length) = true := decide_eq_true (by omega)
         clear c14
         by_cases c15 : ((rd_T66 t486 1).f1) = 10200
         ·rw [if_pos c15] at H
          have c15b0 : (((rd_T66 t486 1).f1) == 10200) = true := beq_iff_eq.mpr c15
          have c15b1 : (((rd_T66 t486 1).f1) != 10200) = false := bne_eq_false_iff_eq.mpr c15
          clear c15
          obtain rfl := Option.some.inj H
          go_enter Tryz.func7, Tryz.ntmps7
          try go_wp2_with (first | ((with_reducible refine gate_callee (f := 28) rfl ?_); refine gL (some 8) Tryz.func28 #[] ?_; (with_reducible refine (palletlaw13_four.calls  t417 t418 t419 t420 t421 _ A1.out).mono ?_); rintro e w16 ⟨rfl, hb⟩; refine ⟨_, rfl, ?_⟩; replace HB := bs HB hb; (try clear hb)) | ((with_reducible refine gate_callee (f := 13) rfl ?_); refine gL (some 10) Tryz.func13 #[.agg #[.int .i64 t417, .int .i64 t418, .int .i64 t419, .int .i64 t420, .int .i64 t421], .int .i64 1, .agg #[.int .i64 10, .int .i64 0, .int .i64 0]] ?_; (with_reducible refine (node_New.calls k t417 t418 t419 t420 t421 1 10 0 0 t422 t423 t424 t425 t426 t427 t428 t429 t430 t431 t432 t433 t436 t437 t438 _ A2.out).mono ?_); rintro e w17 ⟨v434, rfl, ho0, hb⟩; refine ⟨_, rfl, ?_⟩; have HO435 := rl ho0 HB; replace HB := bs HB hb; (try clear hb); (try clear ho0)) | ((with_reducible refine gate_dst (N := 1) rfl ?_); (try (refine gate_guard (by rfl) ?_; dsimp only)); refine bx (N := 1) (cs := #[.int .i64 0, .int .i64 0, .int .u64 0, .int .i64 0, .int .i64 0, .int .i64 0, .int .i64 0, .int .i64 0, .int .u16 0, .int .i64 0, .int .i64 0, .slice none 0 0, .bool false, .int .i64 0]) (t := 32) ?_; intro gb439 hg w18 hbox hb; have BK439 := asd (hbox); have GW439 := bz HB hg; have GE439 := bz HB hg; replace HO435 := rb HO435 hb; replace HB := bs HB hb; clear hb hbox hg; have hcz19 := cf14 BK439; obtain ⟨Ao20, co20, eo20⟩ := Kd.R_slice HO435.out; subst eo20))
          have n0_ : Aside0 (Kd.R (Kd.int .i64) 2 ((((((((((((((w18.setCell ⟨gb439, 0, none⟩ (.int .i64 t422)).setCell ⟨gb439, 1, none⟩ (.int .i64 t423)).setCell ⟨gb439, 2, none⟩ (.int .u64 t424)).setCell ⟨gb439, 3, none⟩ (.int .i64 t425)).setCell ⟨gb439, 4, none⟩ (.int .i64 t426)).setCell ⟨gb439, 5, none⟩ (.int .i64 t427)).setCell ⟨gb439, 6, none⟩ (.int .i64 t428)).setCell ⟨gb439, 7, none⟩ (.int .i64 t429)).setCell ⟨gb439, 8, none⟩ (.int .u16 t430)).setCell ⟨gb439, 9, none⟩ (.int .i64 t431)).setCell ⟨gb439, 10, none⟩ (.int .i64 t432)).setCell ⟨gb439, 11, none⟩ (.slice Ao20 t433.length co20)).setCell ⟨gb439, 12, none⟩ (.bool t436)).setCell ⟨gb439, 13, none⟩ (.int .i64 t437)) w.heap.size (fun _ => True) (.slice Ao20 t433.length co20) t433) := rf HO435 BK439 (by decide) (fun _ hk => trivial)
          have n1_ : Aside0 (((((((((((((((w18.setCell ⟨gb439, 0, none⟩ (.int .i64 t422)).setCell ⟨gb439, 1, none⟩ (.int .i64 t423)).setCell ⟨gb439, 2, none⟩ (.int .u64 t424)).setCell ⟨gb439, 3, none⟩ (.int .i64 t425)).setCell ⟨gb439, 4, none⟩ (.int .i64 t426)).setCell ⟨gb439, 5, none⟩ (.int .i64 t427)).setCell ⟨gb439, 6, none⟩ (.int .i64 t428)).setCell ⟨gb439, 7, none⟩ (.int .i64 t429)).setCell ⟨gb439, 8, none⟩ (.int .u16 t430)).setCell ⟨gb439, 9, none⟩ (.int .i64 t431)).setCell ⟨gb439, 10, none⟩ (.int .i64 t432)).setCell ⟨gb439, 11, none⟩ (.slice Ao20 t433.length co20)).setCell ⟨gb439, 12, none⟩ (.bool t436)).setCell ⟨gb439, 13, none⟩ (.int .i64 t437)).heap[gb439]? = some (.cells #[.int .i64 t422, .int .i64 t423, .int .u64 t424, .int .i64 t425, .int .i64 t426, .int .i64 t427, .int .i64 t428, .int .i64 t429, .int .u16 t430, .int .i64 t431, .int .i64 t432, .slice Ao20 t433.length co20, .bool t436, .int .i64 t437] 32 (0, 0))) := bp14 BK439
          have n2_ : Aside0 (Below w.heap.size w ((((((((((((((w18.setCell ⟨gb439, 0, none⟩ (.int .i64 t422)).setCell ⟨gb439, 1, none⟩ (.int .i64 t423)).setCell ⟨gb439, 2, none⟩ (.int .u64 t424)).setCell ⟨gb439, 3, none⟩ (.int .i64 t425)).setCell ⟨gb439, 4, none⟩ (.int .i64 t426)).setCell ⟨gb439, 5, none⟩ (.int .i64 t427)).setCell ⟨gb439, 6, none⟩ (.int .i64 t428)).setCell ⟨gb439, 7, none⟩ (.int .i64 t429)).setCell ⟨gb439, 8, none⟩ (.int .u16 t430)).setCell ⟨gb439, 9, none⟩ (.int .i64 t431)).setCell ⟨gb439, 10, none⟩ (.int .i64 t432)).setCell ⟨gb439, 11, none⟩ (.slice Ao20 t433.length co20)).setCell ⟨gb439, 12, none⟩ (.bool t436)).setCell ⟨gb439, 13, none⟩ (.int .i64 t437))) := ⟨by repeat (first | (with_reducible first | exact HB.out | apply below_alloc | apply pw_below_drewN | apply below_drew1 | refine below_set ?_ GE439.out) | exact HB.out)⟩
          (try clear HO435)
          (try clear BK439)
          (try clear HB)
          generalize ((((((((((((((w18.setCell ⟨gb439, 0, none⟩ (.int .i64 t422)).setCell ⟨gb439, 1, none⟩ (.int .i64 t423)).setCell ⟨gb439, 2, none⟩ (.int .u64 t424)).setCell ⟨gb439, 3, none⟩ (.int .i64 t425)).setCell ⟨gb439, 4, none⟩ (.int .i64 t426)).setCell ⟨gb439, 5, none⟩ (.int .i64 t427)).setCell ⟨gb439, 6, none⟩ (.int .i64 t428)).setCell ⟨gb439, 7, none⟩ (.int .i64 t429)).setCell ⟨gb439, 8, none⟩ (.int .u16 t430)).setCell ⟨gb439, 9, none⟩ (.int .i64 t431)).setCell ⟨gb439, 10, none⟩ (.int .i64 t432)).setCell ⟨gb439, 11, none⟩ (.slice Ao20 t433.length co20)).setCell ⟨gb439, 12, none⟩ (.bool t436)).setCell ⟨gb439, 13, none⟩ (.int .i64 t437)) = w21 at n0_ n1_ n2_ ⊢
          have HO435 := n0_
          have BK439 := n1_
          have HB := n2_
          clear n0_ n1_ n2_
          have n0_ := asd (Kd.R_drew HO435.out)
          have n1_ := asd (blk_drew BK439.out)
          have n2_ := asd (below_drew1 HB.out)
          clear HO435 BK439 HB
          have HO435 := n0_
          have BK439 := n1_
          have HB := n2_
          clear n0_ n1_ n2_
          refine start_ (n := 10) (S := fun w' => w'.cell? ⟨gb439, 0, none⟩ = some (.int .i64 t422) ∧ w'.cell? ⟨gb439, 1, none⟩ = some (.int .i64 t423) ∧ w'.cell? ⟨gb439, 2, none⟩ = some (.int .u64 t424) ∧ w'.cell? ⟨gb439, 3, none⟩ = some (.int .i64 t425) ∧ w'.cell? ⟨gb439, 4, none⟩ = some (.int .i64 t426) ∧ w'.cell? ⟨gb439, 5, none⟩ = some (.int .i64 t427) ∧ w'.cell? ⟨gb439, 6, none⟩ = some (.int .i64 t428) ∧ w'.cell? ⟨gb439, 7, none⟩ = some (.int .i64 t429) ∧ w'.cell? ⟨gb439, 8, none⟩ = some (.int .u16 t430) ∧ w'.cell? ⟨gb439, 9, none⟩ = some (.int .i64 t431) ∧ w'.cell? ⟨gb439, 10, none⟩ = some (.int .i64 t432) ∧ w'.cell? ⟨gb439, 11, none⟩ = some (.slice Ao20 t433.length co20) ∧ w'.cell? ⟨gb439, 12, none⟩ = some (.bool t436) ∧ w'.cell? ⟨gb439, 13, none⟩ = some (.int .i64 t437)) (ds := [7]) (fb 10 0) (by kernel_rfl) rfl rfl ⟨(blk_cell BK439.out 0).trans rfl, (blk_cell BK439.out 1).trans rfl, (blk_cell BK439.out 2).trans rfl, (blk_cell BK439.out 3).trans rfl, (blk_cell BK439.out 4).trans rfl, (blk_cell BK439.out 5).trans rfl, (blk_cell BK439.out 6).trans rfl, (blk_cell BK439.out 7).trans rfl, (blk_cell BK439.out 8).trans rfl, (blk_cell BK439.out 9).trans rfl, (blk_cell BK439.out 10).trans rfl, (blk_cell BK439.out 11).trans rfl, (blk_cell BK439.out 12).trans rfl, (blk_cell BK439.out 13).trans rfl⟩ (fun hHeld => ?_); refine with_tabW palletlaw13_live.tab2 palletlaw13_live.bits2 (fun HT_ HW_ => ?_)
          generalize w21.drew = w22 at HO435 BK439 HB hHeld ⊢
          refine tz (i := 1) (N := some 15) (fb 10 2) hHeld ?_ (hc := take_ofW HT_.out HW_.out (by kernel_rfl))
          refine one_ (i := 0) (N := some 14) (fb 10 3) rfl rfl (one_of HT_.out (by kernel_rfl)) (by decide) (fun K hK => ?_)
          refine goes_ Tryz.func28 (by kernel_rfl) rfl #[] (by rfl) rfl rfl (by (try simp only [List.map_toArray, List.map_cons, List.map_nil]); first | done | rfl | (simp only [List.length_drop, List.length_take]; first | rfl | (rw [Nat.min_eq_left (Int.toNat_le.2 (of_decide_eq_true (by assumption)))]; rfl))) ?_
          with_reducible refine (palletlaw13_four.calls  t440 t441 t442 t443 t444 _ A3.out).mono ?_
          rintro e w23 ⟨rfl, hb⟩
          refine ⟨_, rfl, ?_⟩
          replace HO435 := rb HO435 hb
          replace BK439 := bb BK439 hb
          replace HB := bs HB hb
          (try clear hb)
          (try clear hb2)
          (try clear hk)
          (try clear hi)
          refine hK.out _ _ ⟨(blk_cell BK439.out 0).trans rfl, (blk_cell BK439.out 1).trans rfl, (blk_cell BK439.out 2).trans rfl, (blk_cell BK439.out 3).trans rfl, (blk_cell BK439.out 4).trans rfl, (blk_cell BK439.out 5).trans rfl, (blk_cell BK439.out 6).trans rfl, (blk_cell BK439.out 7).trans rfl, (blk_cell BK439.out 8).trans rfl, (blk_cell BK439.out 9).trans rfl, (blk_cell BK439.out 10).trans rfl, (blk_cell BK439.out 11).trans rfl, (blk_cell BK439.out 12).trans rfl, (blk_cell BK439.out 13).trans rfl⟩ (fun hHeld => ?_)
          clear hK K
          refine norm_ (a' := ?_) ?_ ?_
          rotate_left
          ·show Act.put _ (some 14) _ = _
           simp only [Act.put, List.setIfInBounds_toArray, List.set_cons_zero, List.set_cons_succ, i64_w, i32_w]
           rfl
          refine one_ (i := 2) (N := some 16) (fb 10 7) rfl rfl (one_of HT_.out (by kernel_rfl)) (by decide) (fun K hK => ?_)
          refine goes_ Tryz.func15 (by kernel_rfl) rfl #[.agg #[.int .i64 t440, .int .i64 t441, .int .i64 t442, .int .i64 t443, .int .i64 t444], .agg #[.int .i64 t422, .int .i64 t423, .int .u64 t424, .int .i64 t425, .int .i64 t426, .int .i64 t427, .int .i64 t428, .int .i64 t429, .int .u16 t430, .int .i64 t431, .int .i64 t432, .slice Ao20 t433.length co20, .bool t436, .int .i64 t437], .int .i64 0] (by rfl) rfl rfl (by (try simp only [List.map_toArray, List.map_cons, List.map_nil]); first | done | rfl | (simp only [List.length_drop, List.length_take]; first | rfl | (rw [Nat.min_eq_left (Int.toNat_le.2 (of_decide_eq_true (by assumption)))]; rfl))) ?_
          with_reducible refine (node_Wake.calls k t440 t441 t442 t443 t444 t422 t423 t424 t425 t426 t427 t428 t429 t430 t431 t432 _ _ t433 t436 t437 0 t445 t446 t447 t448 t449 t450 t451 t452 t453 t454 t455 t456 t459 t460 t461 t464 _ ?side1 ?side2 A4.out).mono ?_
          (case side1 => repeat (first | exact (Kd.R_reads' HO435.out).2.2 | (with_reducible refine Kd.C_alloc ?_ _) | (with_reducible refine Kd.C_drewN ?_ _) | (with_reducible refine Kd.C_drew ?_)))
          (case side2 => exact (Kd.R_reads' HO435.out).2.1)
          rintro e w24 ⟨v457, v462, rfl, ho0, ho1, hb⟩
          refine ⟨_, rfl, ?_⟩
          have n0_ := asd (Kd.R_elder' (by (with_reducible repeat (first | apply Kd.R_alloc | apply Kd.R_drewN | apply Kd.R_drew)); exact HO435.out) (Kd.R_base ho0) hb)
          have n1_ := asd (Kd.R_lower (Kd.R_new' ho0 (Kd.R_lt (by (with_reducible repeat (first | apply Kd.R_alloc | apply Kd.R_drewN | apply Kd.R_drew)); exact HO435.out))) (below_size (by repeat (first | (with_reducible first | exact HB.out | apply below_alloc | apply pw_below_drewN | apply below_drew1 | refine below_set ?_ GE439.out) | exact HB.out))))
          have n2_ := rl ho1 HB
          have n3_ := bb BK439 hb
          have n4_ := bs HB hb
          clear HO435 BK439 HB
          have HO435 := n0_
          have HO458 := n1_
          have HO463 := n2_
          have BK439 := n3_
          have HB := n4_
          clear n0_ n1_ n2_ n3_ n4_
          (try clear hb)
          (try clear hb2)
          (try clear hk)
          (try clear hi)
          (try clear ho0)
          (try clear ho1)
          obtain ⟨Ao36, co36, eo36⟩ := Kd.R_slice HO458.out
          (first | subst eo36 | (injection eo36 with f1_ f2_ f3_; have f4_ := f1_.symm; have f5_ := f3_.symm; clear f1_ f2_ f3_; subst f4_; subst f5_))
          refine hK.out _ _ ⟨(blk_cell BK439.out 0).trans rfl, (blk_cell BK439.out 1).trans rfl, (blk_cell BK439.out 2).trans rfl, (blk_cell BK439.out 3).trans rfl, (blk_cell BK439.out 4).trans rfl, (blk_cell BK439.out 5).trans rfl, (blk_cell BK439.out 6).trans rfl, (blk_cell BK439.out 7).trans rfl, (blk_cell BK439.out 8).trans rfl, (blk_cell BK439.out 9).trans rfl, (blk_cell BK439.out 10).trans rfl, (blk_cell BK439.out 11).trans rfl, (blk_cell BK439.out 12).trans rfl, (blk_cell BK439.out 13).trans rfl⟩ (fun hHeld => ?_)
          clear hK K
          refine norm_ (a' := ?_) ?_ ?_
          rotate_left
          ·show Act.put _ (some 16) _ = _
           simp only [Act.put, List.setIfInBounds_toArray, List.set_cons_zero, List.set_cons_succ, i64_w, i32_w]
           rfl
          refine pz (i := 3) (N := some 13) (fb 10 15) ?_ (hc := any_of HT_.out (by kernel_rfl))
          refine pz (i := 4) (N := some 17) (fb 10 31) ?_ (hc := any_of HT_.out (by kernel_rfl))
          refine pz (i := 5) (N := some 18) (fb 10 63) ?_ (hc := any_of HT_.out (by kernel_rfl))
          refine pz (i := 6) (N := some 19) (fb 10 127) ?_ (hc := any_of HT_.out (by kernel_rfl))
          refine last_ (i := 7) (N := none) (fb 10 255) rfl rfl (one_of HT_.out (by kernel_rfl)) (by decide) (fun K hK => ?_)
          have hs25 : w24.cell? ⟨gb439, 0, none⟩ = some (.int .i64 t422) := (blk_cell BK439.out 0).trans rfl
          have hfs25 := blk_frozen BK439.out 0
          have hs26 : w24.cell? ⟨gb439, 1, none⟩ = some (.int .i64 t423) := (blk_cell BK439.out 1).trans rfl
          have hfs26 := blk_frozen BK439.out 1
          have hs27 : w24.cell? ⟨gb439, 2, none⟩ = some (.int .u64 t424) := (blk_cell BK439.out 2).trans rfl
          have hfs27 := blk_frozen BK439.out 2
          have hs28 : w24.cell? ⟨gb439, 3, none⟩ = some (.int .i64 t425) := (blk_cell BK439.out 3).trans rfl
          have hfs28 := blk_frozen BK439.out 3
          have hs29 : w24.cell? ⟨gb439, 4, none⟩ = some (.int .i64 t426) := (blk_cell BK439.out 4).trans rfl
          have hfs29 := blk_frozen BK439.out 4
          have hs30 : w24.cell? ⟨gb439, 5, none⟩ = some (.int .i64 t427) := (blk_cell BK439.out 5).trans rfl
          have hfs30 := blk_frozen BK439.out 5
          have hs31 : w24.cell? ⟨gb439, 6, none⟩ = some (.int .i64 t428) := (blk_cell BK439.out 6).trans rfl
          have hfs31 := blk_frozen BK439.out 6
          have hs32 : w24.cell? ⟨gb439, 7, none⟩ = some (.int .i64 t429) := (blk_cell BK439.out 7).trans rfl
          have hfs32 := blk_frozen BK439.out 7
          have hs33 : w24.cell? ⟨gb439, 8, none⟩ = some (.int .u16 t430) := (blk_cell BK439.out 8).trans rfl
          have hfs33 := blk_frozen BK439.out 8
          have hs34 : w24.cell? ⟨gb439, 9, none⟩ = some (.int .i64 t431) := (blk_cell BK439.out 9).trans rfl
          have hfs34 := blk_frozen BK439.out 9
          have hs35 : w24.cell? ⟨gb439, 10, none⟩ = some (.int .i64 t432) := (blk_cell BK439.out 10).trans rfl
          have hfs35 := blk_frozen BK439.out 10
          have hs37 : w24.cell? ⟨gb439, 11, none⟩ = some (.slice Ao20 t433.length co20) := (blk_cell BK439.out 11).trans rfl
          have hfs37 := blk_frozen BK439.out 11
          have hs38 : w24.cell? ⟨gb439, 12, none⟩ = some (.bool t436) := (blk_cell BK439.out 12).trans rfl
          have hfs38 := blk_frozen BK439.out 12
          have hs39 : w24.cell? ⟨gb439, 13, none⟩ = some (.int .i64 t437) := (blk_cell BK439.out 13).trans rfl
          have hfs39 := blk_frozen BK439.out 13
          refine skip_ (w1 := ?_) (by rfl) rfl ?_ ?_
          rotate_left
          ·go_simp
           rfl
          refine hK.out _ _ ?_
          clear hK K
          refine pz (i := 8) (N := some 3) (fb 10 511) ?_ (hc := any_of HT_.out (by kernel_rfl))
          refine pz (i := 9) (N := some 4) (fb 10 1023) ?_ (hc := any_of HT_.out (by kernel_rfl))
          refine done_ (done_of HT_.out (by kernel_rfl)) ?_
          try go_wp2
          have n0_ : Aside0 (Kd.R (Kd.int .i64) 2 ((((((((((((((w24.setCell ⟨gb439, 0, none⟩ (.int .i64 t445)).setCell ⟨gb439, 1, none⟩ (.int .i64 t446)).setCell ⟨gb439, 2, none⟩ (.int .u64 t447)).setCell ⟨gb439, 3, none⟩ (.int .i64 t448)).setCell ⟨gb439, 4, none⟩ (.int .i64 t449)).setCell ⟨gb439, 5, none⟩ (.int .i64 t450)).setCell ⟨gb439, 6, none⟩ (.int .i64 t451)).setCell ⟨gb439, 7, none⟩ (.int .i64 t452)).setCell ⟨gb439, 8, none⟩ (.int .u16 t453)).setCell ⟨gb439, 9, none⟩ (.int .i64 t454)).setCell ⟨gb439, 10, none⟩ (.int .i64 t455)).setCell ⟨gb439, 11, none⟩ (.slice Ao36 t456.length co36)).setCell ⟨gb439, 12, none⟩ (.bool t459)).setCell ⟨gb439, 13, none⟩ (.int .i64 t460)) w.heap.size (fun k_ => some k_ ≠ (.slice Ao36 t456.length co36 : Value).ownBlock) (.slice Ao20 t433.length co20) t433) := rf HO435 BK439 (by decide) (fun _ hk => hk.2)
          have n1_ : Aside0 (Kd.R (Kd.int .i64) 2 ((((((((((((((w24.setCell ⟨gb439, 0, none⟩ (.int .i64 t445)).setCell ⟨gb439, 1, none⟩ (.int .i64 t446)).setCell ⟨gb439, 2, none⟩ (.int .u64 t447)).setCell ⟨gb439, 3, none⟩ (.int .i64 t448)).setCell ⟨gb439, 4, none⟩ (.int .i64 t449)).setCell ⟨gb439, 5, none⟩ (.int .i64 t450)).setCell ⟨gb439, 6, none⟩ (.int .i64 t451)).setCell ⟨gb439, 7, none⟩ (.int .i64 t452)).setCell ⟨gb439, 8, none⟩ (.int .u16 t453)).setCell ⟨gb439, 9, none⟩ (.int .i64 t454)).setCell ⟨gb439, 10, none⟩ (.int .i64 t455)).setCell ⟨gb439, 11, none⟩ (.slice Ao36 t456.length co36)).setCell ⟨gb439, 12, none⟩ (.bool t459)).setCell ⟨gb439, 13, none⟩ (.int .i64 t460)) w.heap.size (fun k_ => some k_ ≠ (.slice Ao20 t433.length co20 : Value).ownBlock) (.slice Ao36 t456.length co36) t456) := rf HO458 BK439 (by decide) (fun _ hk => hk.2)
          have n2_ : Aside0 (Kd.R k66 66 ((((((((((((((w24.setCell ⟨gb439, 0, none⟩ (.int .i64 t445)).setCell ⟨gb439, 1, none⟩ (.int .i64 t446)).setCell ⟨gb439, 2, none⟩ (.int .u64 t447)).setCell ⟨gb439, 3, none⟩ (.int .i64 t448)).setCell ⟨gb439, 4, none⟩ (.int .i64 t449)).setCell ⟨gb439, 5, none⟩ (.int .i64 t450)).setCell ⟨gb439, 6, none⟩ (.int .i64 t451)).setCell ⟨gb439, 7, none⟩ (.int .i64 t452)).setCell ⟨gb439, 8, none⟩ (.int .u16 t453)).setCell ⟨gb439, 9, none⟩ (.int .i64 t454)).setCell ⟨gb439, 10, none⟩ (.int .i64 t455)).setCell ⟨gb439, 11, none⟩ (.slice Ao36 t456.length co36)).setCell ⟨gb439, 12, none⟩ (.bool t459)).setCell ⟨gb439, 13, none⟩ (.int .i64 t460)) w.heap.size (fun _ => True) v462 t461) := rf HO463 BK439 (by decide) (fun _ hk => trivial)
          have n3_ : Aside0 (((((((((((((((w24.setCell ⟨gb439, 0, none⟩ (.int .i64 t445)).setCell ⟨gb439, 1, none⟩ (.int .i64 t446)).setCell ⟨gb439, 2, none⟩ (.int .u64 t447)).setCell ⟨gb439, 3, none⟩ (.int .i64 t448)).setCell ⟨gb439, 4, none⟩ (.int .i64 t449)).setCell ⟨gb439, 5, none⟩ (.int .i64 t450)).setCell ⟨gb439, 6, none⟩ (.int .i64 t451)).setCell ⟨gb439, 7, none⟩ (.int .i64 t452)).setCell ⟨gb439, 8, none⟩ (.int .u16 t453)).setCell ⟨gb439, 9, none⟩ (.int .i64 t454)).setCell ⟨gb439, 10, none⟩ (.int .i64 t455)).setCell ⟨gb439, 11, none⟩ (.slice Ao36 t456.length co36)).setCell ⟨gb439, 12, none⟩ (.bool t459)).setCell ⟨gb439, 13, none⟩ (.int .i64 t460)).heap[gb439]? = some (.cells #[.int .i64 t445, .int .i64 t446, .int .u64 t447, .int .i64 t448, .int .i64 t449, .int .i64 t450, .int .i64 t451, .int .i64 t452, .int .u16 t453, .int .i64 t454, .int .i64 t455, .slice Ao36 t456.length co36, .bool t459, .int .i64 t460] 32 (0, 0))) := bp14 BK439
          have n4_ : Aside0 (Below w.heap.size w ((((((((((((((w24.setCell ⟨gb439, 0, none⟩ (.int .i64 t445)).setCell ⟨gb439, 1, none⟩ (.int .i64 t446)).setCell ⟨gb439, 2, none⟩ (.int .u64 t447)).setCell ⟨gb439, 3, none⟩ (.int .i64 t448)).setCell ⟨gb439, 4, none⟩ (.int .i64 t449)).setCell ⟨gb439, 5, none⟩ (.int .i64 t450)).setCell ⟨gb439, 6, none⟩ (.int .i64 t451)).setCell ⟨gb439, 7, none⟩ (.int .i64 t452)).setCell ⟨gb439, 8, none⟩ (.int .u16 t453)).setCell ⟨gb439, 9, none⟩ (.int .i64 t454)).setCell ⟨gb439, 10, none⟩ (.int .i64 t455)).setCell ⟨gb439, 11, none⟩ (.slice Ao36 t456.length co36)).setCell ⟨gb439, 12, none⟩ (.bool t459)).setCell ⟨gb439, 13, none⟩ (.int .i64 t460))) := ⟨by repeat (first | (with_reducible first | exact HB.out | apply below_alloc | apply pw_below_drewN | apply below_drew1 | refine below_set ?_ GE439.out) | exact HB.out)⟩
          (try clear HO435)
          (try clear HO458)
          (try clear HO463)
          (try clear BK439)
          (try clear HB)
          generalize ((((((((((((((w24.setCell ⟨gb439, 0, none⟩ (.int .i64 t445)).setCell ⟨gb439, 1, none⟩ (.int .i64 t446)).setCell ⟨gb439, 2, none⟩ (.int .u64 t447)).setCell ⟨gb439, 3, none⟩ (.int .i64 t448)).setCell ⟨gb439, 4, none⟩ (.int .i64 t449)).setCell ⟨gb439, 5, none⟩ (.int .i64 t450)).setCell ⟨gb439, 6, none⟩ (.int .i64 t451)).setCell ⟨gb439, 7, none⟩ (.int .i64 t452)).setCell ⟨gb439, 8, none⟩ (.int .u16 t453)).setCell ⟨gb439, 9, none⟩ (.int .i64 t454)).setCell ⟨gb439, 10, none⟩ (.int .i64 t455)).setCell ⟨gb439, 11, none⟩ (.slice Ao36 t456.length co36)).setCell ⟨gb439, 12, none⟩ (.bool t459)).setCell ⟨gb439, 13, none⟩ (.int .i64 t460)) = w40 at n0_ n1_ n2_ n3_ n4_ ⊢
          have HO435 := n0_
          have HO458 := n1_
          have HO463 := n2_
          have BK439 := n3_
          have HB := n4_
          clear n0_ n1_ n2_ n3_ n4_
          have n0_ := asd (Kd.R_drew HO435.out)
          have n1_ := asd (Kd.R_drew HO458.out)
          have n2_ := asd (Kd.R_drew HO463.out)
          have n3_ := asd (blk_drew BK439.out)
          have n4_ := asd (below_drew1 HB.out)
          clear HO435 HO458 HO463 BK439 HB
          have HO435 := n0_
          have HO458 := n1_
          have HO463 := n2_
          have BK439 := n3_
          have HB := n4_
          clear n0_ n1_ n2_ n3_ n4_
          refine start_ (n := 10) (S := fun w' => w'.cell? ⟨gb439, 0, none⟩ = some (.int .i64 t445) ∧ w'.cell? ⟨gb439, 1, none⟩ = some (.int .i64 t446) ∧ w'.cell? ⟨gb439, 2, none⟩ = some (.int .u64 t447) ∧ w'.cell? ⟨gb439, 3, none⟩ = some (.int .i64 t448) ∧ w'.cell? ⟨gb439, 4, none⟩ = some (.int .i64 t449) ∧ w'.cell? ⟨gb439, 5, none⟩ = some (.int .i64 t450) ∧ w'.cell? ⟨gb439, 6, none⟩ = some (.int .i64 t451) ∧ w'.cell? ⟨gb439, 7, none⟩ = some (.int .i64 t452) ∧ w'.cell? ⟨gb439, 8, none⟩ = some (.int .u16 t453) ∧ w'.cell? ⟨gb439, 9, none⟩ = some (.int .i64 t454) ∧ w'.cell? ⟨gb439, 10, none⟩ = some (.int .i64 t455) ∧ w'.cell? ⟨gb439, 11, none⟩ = some (.slice Ao36 t456.length co36) ∧ w'.cell? ⟨gb439, 12, none⟩ = some (.bool t459) ∧ w'.cell? ⟨gb439, 13, none⟩ = some (.int .i64 t460)) (ds := [7]) (fb 10 0) (by kernel_rfl) rfl rfl ⟨(blk_cell BK439.out 0).trans rfl, (blk_cell BK439.out 1).trans rfl, (blk_cell BK439.out 2).trans rfl, (blk_cell BK439.out 3).trans rfl, (blk_cell BK439.out 4).trans rfl, (blk_cell BK439.out 5).trans rfl, (blk_cell BK439.out 6).trans rfl, (blk_cell BK439.out 7).trans rfl, (blk_cell BK439.out 8).trans rfl, (blk_cell BK439.out 9).trans rfl, (blk_cell BK439.out 10).trans rfl, (blk_cell BK439.out 11).trans rfl, (blk_cell BK439.out 12).trans rfl, (blk_cell BK439.out 13).trans rfl⟩ (fun hHeld => ?_); refine with_tabW palletlaw13_live.tab3 palletlaw13_live.bits3 (fun HT_ HW_ => ?_)
          generalize w40.drew = w41 at HO435 HO458 HO463 BK439 HB hHeld ⊢
          refine tz (i := 1) (N := some 22) (fb 10 2) hHeld ?_ (hc := take_ofW HT_.out HW_.out (by kernel_rfl))
          refine one_ (i := 0) (N := some 21) (fb 10 3) rfl rfl (one_of HT_.out (by kernel_rfl)) (by decide) (fun K hK => ?_)
          refine goes_ Tryz.func28 (by kernel_rfl) rfl #[] (by rfl) rfl rfl (by (try simp only [List.map_toArray, List.map_cons, List.map_nil]); first | done | rfl | (simp only [List.length_drop, List.length_take]; first | rfl | (rw [Nat.min_eq_left (Int.toNat_le.2 (of_decide_eq_true (by assumption)))]; rfl))) ?_
          with_reducible refine (palletlaw13_four.calls  t465 t466 t467 t468 t469 _ A5.out).mono ?_
          rintro e w42 ⟨rfl, hb⟩
          refine ⟨_, rfl, ?_⟩
          replace HO435 := rb HO435 hb
          replace HO458 := rb HO458 hb
          replace HO463 := rb HO463 hb
          replace BK439 := bb BK439 hb
          replace HB := bs HB hb
          (try clear hb)
          (try clear hb2)
          (try clear hk)
          (try clear hi)
          refine hK.out _ _ ⟨(blk_cell BK439.out 0).trans rfl, (blk_cell BK439.out 1).trans rfl, (blk_cell BK439.out 2).trans rfl, (blk_cell BK439.out 3).trans rfl, (blk_cell BK439.out 4).trans rfl, (blk_cell BK439.out 5).trans rfl, (blk_cell BK439.out 6).trans rfl, (blk_cell BK439.out 7).trans rfl, (blk_cell BK439.out 8).trans rfl, (blk_cell BK439.out 9).trans rfl, (blk_cell BK439.out 10).trans rfl, (blk_cell BK439.out 11).trans rfl, (blk_cell BK439.out 12).trans rfl, (blk_cell BK439.out 13).trans rfl⟩ (fun hHeld => ?_)
          clear hK K
          refine norm_ (a' := ?_) ?_ ?_
          rotate_left
          ·show Act.put _ (some 21) _ = _
           simp only [Act.put, List.setIfInBounds_toArray, List.set_cons_zero, List.set_cons_succ, i64_w, i32_w]
           rfl
          refine one_ (i := 2) (N := some 23) (fb 10 7) rfl rfl (one_of HT_.out (by kernel_rfl)) (by decide) (fun K hK => ?_)
          refine goes_ Tryz.func23 (by kernel_rfl) rfl #[.agg #[.int .i64 t465, .int .i64 t466, .int .i64 t467, .int .i64 t468, .int .i64 t469], .agg #[.int .i64 t445, .int .i64 t446, .int .u64 t447, .int .i64 t448, .int .i64 t449, .int .i64 t450, .int .i64 t451, .int .i64 t452, .int .u16 t453, .int .i64 t454, .int .i64 t455, .slice Ao36 t456.length co36, .bool t459, .int .i64 t460], .int .i64 10000] (by rfl) rfl rfl (by (try simp only [List.map_toArray, List.map_cons, List.map_nil]); first | done | rfl | (simp only [List.length_drop, List.length_take]; first | rfl | (rw [Nat.min_eq_left (Int.toNat_le.2 (of_decide_eq_true (by assumption)))]; rfl))) ?_
          with_reducible refine (node_Timer.calls k t465 t466 t467 t468 t469 t445 t446 t447 t448 t449 t450 t451 t452 t453 t454 t455 _ _ t456 t459 t460 10000 t470 t471 t472 t473 t474 t475 t476 t477 t478 t479 t480 t481 t484 t485 t486 t489 _ ?side1 ?side2 A6.out).mono ?_
          (case side1 => repeat (first | exact (Kd.R_reads' HO458.out).2.2 | (with_reducible refine Kd.C_alloc ?_ _) | (with_reducible refine Kd.C_drewN ?_ _) | (with_reducible refine Kd.C_drew ?_)))
          (case side2 => exact (Kd.R_reads' HO458.out).2.1)
          rintro e w43 ⟨v482, v487, rfl, ho0, ho1, hb⟩
          refine ⟨_, rfl, ?_⟩
          have n0_ := asd (Kd.R_elder' (by (with_reducible repeat (first | apply Kd.R_alloc | apply Kd.R_drewN | apply Kd.R_drew)); exact HO435.out) (Kd.R_base ho0) hb)
          have n1_ := asd (Kd.R_elder' (by (with_reducible repeat (first | apply Kd.R_alloc | apply Kd.R_drewN | apply Kd.R_drew)); exact HO458.out) (Kd.R_base ho0) hb)
          have n2_ := asd (Kd.R_elder' (by (with_reducible repeat (first | apply Kd.R_alloc | apply Kd.R_drewN | apply Kd.R_drew)); exact HO463.out) (Kd.R_base ho1) hb)
          have n3_ := asd (Kd.R_lower (Kd.R_new' (Kd.R_new' ho0 (Kd.R_lt (by (with_reducible repeat (first | apply Kd.R_alloc | apply Kd.R_drewN | apply Kd.R_drew)); exact HO435.out))) (Kd.R_lt (by (with_reducible repeat (first | apply Kd.R_alloc | apply Kd.R_drewN | apply Kd.R_drew)); exact HO458.out))) (below_size (by repeat (first | (with_reducible first | exact HB.out | apply below_alloc | apply pw_below_drewN | apply below_drew1 | refine below_set ?_ GE439.out) | exact HB.out))))
          have n4_ := asd (Kd.R_lower (Kd.R_new' ho1 (Kd.R_lt (by (with_reducible repeat (first | apply Kd.R_alloc | apply Kd.R_drewN | apply Kd.R_drew)); exact HO463.out))) (below_size (by repeat (first | (with_reducible first | exact HB.out | apply below_alloc | apply pw_below_drewN | apply below_drew1 | refine below_set ?_ GE439.out) | exact HB.out))))
          have n5_ := bb BK439 hb
          have n6_ := bs HB hb
          clear HO435 HO458 HO463 BK439 HB
          have HO435 := n0_
          have HO458 := n1_
          have HO463 := n2_
          have HO483 := n3_
          have HO488 := n4_
          have BK439 := n5_
          have HB := n6_
          clear n0_ n1_ n2_ n3_ n4_ n5_ n6_
          (try clear hb)
          (try clear hb2)
          (try clear hk)
          (try clear hi)
          (try clear ho0)
          (try clear ho1)
          obtain ⟨Ao55, co55, eo55⟩ := Kd.R_slice HO483.out
          (first | subst eo55 | (injection eo55 with f1_ f2_ f3_; have f4_ := f1_.symm; have f5_ := f3_.symm; clear f1_ f2_ f3_; subst f4_; subst f5_))
          refine hK.out _ _ ⟨(blk_cell BK439.out 0).trans rfl, (blk_cell BK439.out 1).trans rfl, (blk_cell BK439.out 2).trans rfl, (blk_cell BK439.out 3).trans rfl, (blk_cell BK439.out 4).trans rfl, (blk_cell BK439.out 5).trans rfl, (blk_cell BK439.out 6).trans rfl, (blk_cell BK439.out 7).trans rfl, (blk_cell BK439.out 8).trans rfl, (blk_cell BK439.out 9).trans rfl, (blk_cell BK439.out 10).trans rfl, (blk_cell BK439.out 11).trans rfl, (blk_cell BK439.out 12).trans rfl, (blk_cell BK439.out 13).trans rfl⟩ (fun hHeld => ?_)
          clear hK K
          refine norm_ (a' := ?_) ?_ ?_
          rotate_left
          ·show Act.put _ (some 23) _ = _
           simp only [Act.put, List.setIfInBounds_toArray, List.set_cons_zero, List.set_cons_succ, i64_w, i32_w]
           rfl
          refine pz (i := 3) (N := some 20) (fb 10 15) ?_ (hc := any_of HT_.out (by kernel_rfl))
          refine pz (i := 4) (N := some 24) (fb 10 31) ?_ (hc := any_of HT_.out (by kernel_rfl))
          refine pz (i := 5) (N := some 25) (fb 10 63) ?_ (hc := any_of HT_.out (by kernel_rfl))
          refine pz (i := 6) (N := some 26) (fb 10 127) ?_ (hc := any_of HT_.out (by kernel_rfl))
          refine last_ (i := 7) (N := none) (fb 10 255) rfl rfl (one_of HT_.out (by kernel_rfl)) (by decide) (fun K hK => ?_)
          have hs44 : w43.cell? ⟨gb439, 0, none⟩ = some (.int .i64 t445) := (blk_cell BK439.out 0).trans rfl
          have hfs44 := blk_frozen BK439.out 0
          have hs45 : w43.cell? ⟨gb439, 1, none⟩ = some (.int .i64 t446) := (blk_cell BK439.out 1).trans rfl
          have hfs45 := blk_frozen BK439.out 1
          have hs46 : w43.cell? ⟨gb439, 2, none⟩ = some (.int .u64 t447) := (blk_cell BK439.out 2).trans rfl
          have hfs46 := blk_frozen BK439.out 2
          have hs47 : w43.cell? ⟨gb439, 3, none⟩ = some (.int .i64 t448) := (blk_cell BK439.out 3).trans rfl
          have hfs47 := blk_frozen BK439.out 3
          have hs48 : w43.cell? ⟨gb439, 4, none⟩ = some (.int .i64 t449) := (blk_cell BK439.out 4).trans rfl
          have hfs48 := blk_frozen BK439.out 4
          have hs49 : w43.cell? ⟨gb439, 5, none⟩ = some (.int .i64 t450) := (blk_cell BK439.out 5).trans rfl
          have hfs49 := blk_frozen BK439.out 5
          have hs50 : w43.cell? ⟨gb439, 6, none⟩ = some (.int .i64 t451) := (blk_cell BK439.out 6).trans rfl
          have hfs50 := blk_frozen BK439.out 6
          have hs51 : w43.cell? ⟨gb439, 7, none⟩ = some (.int .i64 t452) := (blk_cell BK439.out 7).trans rfl
          have hfs51 := blk_frozen BK439.out 7
          have hs52 : w43.cell? ⟨gb439, 8, none⟩ = some (.int .u16 t453) := (blk_cell BK439.out 8).trans rfl
          have hfs52 := blk_frozen BK439.out 8
          have hs53 : w43.cell? ⟨gb439, 9, none⟩ = some (.int .i64 t454) := (blk_cell BK439.out 9).trans rfl
          have hfs53 := blk_frozen BK439.out 9
          have hs54 : w43.cell? ⟨gb439, 10, none⟩ = some (.int .i64 t455) := (blk_cell BK439.out 10).trans rfl
          have hfs54 := blk_frozen BK439.out 10
          have hs56 : w43.cell? ⟨gb439, 11, none⟩ = some (.slice Ao36 t456.length co36) := (blk_cell BK439.out 11).trans rfl
          have hfs56 := blk_frozen BK439.out 11
          have hs57 : w43.cell? ⟨gb439, 12, none⟩ = some (.bool t459) := (blk_cell BK439.out 12).trans rfl
          have hfs57 := blk_frozen BK439.out 12
          have hs58 : w43.cell? ⟨gb439, 13, none⟩ = some (.int .i64 t460) := (blk_cell BK439.out 13).trans rfl
          have hfs58 := blk_frozen BK439.out 13
          refine skip_ (w1 := ?_) (by rfl) rfl ?_ ?_
          rotate_left
          ·go_simp
           rfl
          refine hK.out _ _ ?_
          clear hK K
          refine pz (i := 8) (N := some 5) (fb 10 511) ?_ (hc := any_of HT_.out (by kernel_rfl))
          refine pz (i := 9) (N := some 6) (fb 10 1023) ?_ (hc := any_of HT_.out (by kernel_rfl))
          refine done_ (done_of HT_.out (by kernel_rfl)) ?_
          obtain ⟨Ao59, co59, eo59⟩ := Kd.R_slice HO463.out
          subst eo59
          have p490 : 0 ≤ (1 : Int) := (by omega)
          have q490 : 1 < (t461.length : Int) := of_decide_eq_true (by first | (with_reducible assumption) | assumption)
          obtain ⟨ad490, e490, hx490_0, hx490_1, hx490_2, hx490_3, hx490_4, hx490_5, hx490_6, hx490_7⟩ := at_T66 (Kd.R_reads' HO463.out).2.2 1 p490 q490
          cases e490
          (try simp only [show (1 : Int).toNat = 1 from rfl, Nat.reduceMul, Nat.reduceEqDiff, Go.Addr.add, ↓reduceIte] at hx490_0)
          (try simp only [show (1 : Int).toNat = 1 from rfl, Nat.reduceMul, Nat.reduceEqDiff, Go.Addr.add, ↓reduceIte] at hx490_1)
          (try simp only [show (1 : Int).toNat = 1 from rfl, Nat.reduceMul, Nat.reduceEqDiff, Go.Addr.add, ↓reduceIte] at hx490_2)
          (try simp only [show (1 : Int).toNat = 1 from rfl, Nat.reduceMul, Nat.reduceEqDiff, Go.Addr.add, ↓reduceIte] at hx490_3)
          (try simp only [show (1 : Int).toNat = 1 from rfl, Nat.reduceMul, Nat.reduceEqDiff, Go.Addr.add, ↓reduceIte] at hx490_4)
          (try simp only [show (1 : Int).toNat = 1 from rfl, Nat.reduceMul, Nat.reduceEqDiff, Go.Addr.add, ↓reduceIte] at hx490_5)
          (try simp only [show (1 : Int).toNat = 1 from rfl, Nat.reduceMul, Nat.reduceEqDiff, Go.Addr.add, ↓reduceIte] at hx490_6)
          (try simp only [show (1 : Int).toNat = 1 from rfl, Nat.reduceMul, Nat.reduceEqDiff, Go.Addr.add, ↓reduceIte] at hx490_7)
          have qi490 : (1 < t461.length) = True := eq_true (by omega)
          (try rw [show ((1 : Int)).toNat = 1 from rfl] at hx490_0)
          (try rw [show 1 * 8 = 8 from rfl] at hx490_0)
          (try rw [show ((1 : Int)).toNat = 1 from rfl] at hx490_1)
          (try rw [show 1 * 8 = 8 from rfl] at hx490_1)
          (try rw [show ((1 : Int)).toNat = 1 from rfl] at hx490_2)
          (try rw [show 1 * 8 = 8 from rfl] at hx490_2)
          (try rw [show ((1 : Int)).toNat = 1 from rfl] at hx490_3)
          (try rw [show 1 * 8 = 8 from rfl] at hx490_3)
          (try rw [show ((1 : Int)).toNat = 1 from rfl] at hx490_4)
          (try rw [show 1 * 8 = 8 from rfl] at hx490_4)
          (try rw [show ((1 : Int)).toNat = 1 from rfl] at hx490_5)
          (try rw [show 1 * 8 = 8 from rfl] at hx490_5)
          (try rw [show ((1 : Int)).toNat = 1 from rfl] at hx490_6)
          (try rw [show 1 * 8 = 8 from rfl] at hx490_6)
          (try rw [show ((1 : Int)).toNat = 1 from rfl] at hx490_7)
          (try rw [show 1 * 8 = 8 from rfl] at hx490_7)
          have hn490_0 : ad490.block ≠ gb439 := Kd.own_blk (Kd.R_ne HO463.out BK439.out (by decide))
          have hn490_1 : ad490.block ≠ gb439 := Kd.own_blk (Kd.R_ne HO463.out BK439.out (by decide))
          have hn490_2 : ad490.block ≠ gb439 := Kd.own_blk (Kd.R_ne HO463.out BK439.out (by decide))
          have hn490_3 : ad490.block ≠ gb439 := Kd.own_blk (Kd.R_ne HO463.out BK439.out (by decide))
          have hn490_4 : ad490.block ≠ gb439 := Kd.own_blk (Kd.R_ne HO463.out BK439.out (by decide))
          have hn490_5 : ad490.block ≠ gb439 := Kd.own_blk (Kd.R_ne HO463.out BK439.out (by decide))
          have hn490_6 : ad490.block ≠ gb439 := Kd.own_blk (Kd.R_ne HO463.out BK439.out (by decide))
          have hn490_7 : ad490.block ≠ gb439 := Kd.own_blk (Kd.R_ne HO463.out BK439.out (by decide))
          have hn490_8 : ad490.block ≠ gb439 := Kd.own_blk (Kd.R_ne HO463.out BK439.out (by decide))
          have hn490_9 : ad490.block ≠ gb439 := Kd.own_blk (Kd.R_ne HO463.out BK439.out (by decide))
          have hn490_10 : ad490.block ≠ gb439 := Kd.own_blk (Kd.R_ne HO463.out BK439.out (by decide))
          have hn490_11 : ad490.block ≠ gb439 := Kd.own_blk (Kd.R_ne HO463.out BK439.out (by decide))
          have hn490_12 : ad490.block ≠ gb439 := Kd.own_blk (Kd.R_ne HO463.out BK439.out (by decide))
          have hn490_13 : ad490.block ≠ gb439 := Kd.own_blk (Kd.R_ne HO463.out BK439.out (by decide))
          have q_ := fun w_ => (((((((((((((((Wq.refl gb439 w_).set 0 (.int .i64 t470)).set 1 (.int .i64 t471)).set 2 (.int .u64 t472)).set 3 (.int .i64 t473)).set 4 (.int .i64 t474)).set 5 (.int .i64 t475)).set 6 (.int .i64 t476)).set 7 (.int .i64 t477)).set 8 (.int .u16 t478)).set 9 (.int .i64 t479)).set 10 (.int .i64 t480)).set 11 (.slice Ao55 t481.length co55)).set 12 (.bool t484)).set 13 (.int .i64 t485))
          replace hx490_0 := cq hx490_0 (q_ _) (by first | (rw [add_block]; exact hn490_0) | (show (Addr.add _ _).block ≠ _; rw [add_block]; exact hn490_0) | exact hn490_0)
          replace hx490_1 := cq hx490_1 (q_ _) (by first | (rw [add_block]; exact hn490_0) | (show (Addr.add _ _).block ≠ _; rw [add_block]; exact hn490_0) | exact hn490_0)
          replace hx490_2 := cq hx490_2 (q_ _) (by first | (rw [add_block]; exact hn490_0) | (show (Addr.add _ _).block ≠ _; rw [add_block]; exact hn490_0) | exact hn490_0)
          replace hx490_3 := cq hx490_3 (q_ _) (by first | (rw [add_block]; exact hn490_0) | (show (Addr.add _ _).block ≠ _; rw [add_block]; exact hn490_0) | exact hn490_0)
          replace hx490_4 := cq hx490_4 (q_ _) (by first | (rw [add_block]; exact hn490_0) | (show (Addr.add _ _).block ≠ _; rw [add_block]; exact hn490_0) | exact hn490_0)
          replace hx490_5 := cq hx490_5 (q_ _) (by first | (rw [add_block]; exact hn490_0) | (show (Addr.add _ _).block ≠ _; rw [add_block]; exact hn490_0) | exact hn490_0)
          replace hx490_6 := cq hx490_6 (q_ _) (by first | (rw [add_block]; exact hn490_0) | (show (Addr.add _ _).block ≠ _; rw [add_block]; exact hn490_0) | exact hn490_0)
          replace hx490_7 := cq hx490_7 (q_ _) (by first | (rw [add_block]; exact hn490_0) | (show (Addr.add _ _).block ≠ _; rw [add_block]; exact hn490_0) | exact hn490_0)
          clear q_
          clear hn490_0
          clear hn490_1
          clear hn490_2
          clear hn490_3
          clear hn490_4
          clear hn490_5
          clear hn490_6
          clear hn490_7
          clear hn490_8
          clear hn490_9
          clear hn490_10
          clear hn490_11
          clear hn490_12
          clear hn490_13
          replace p490 := eq_true p490
          replace q490 := eq_true q490
          obtain ⟨Ao60, co60, eo60⟩ := Kd.R_slice HO488.out
          subst eo60
          have p491 : 0 ≤ (1 : Int) := (by omega)
          have q491 : 1 < (t486.length : Int) := of_decide_eq_true (by first | (with_reducible assumption) | assumption)
          obtain ⟨ad491, e491, hx491_0, hx491_1, hx491_2, hx491_3, hx491_4, hx491_5, hx491_6, hx491_7⟩ := at_T66 (Kd.R_reads' HO488.out).2.2 1 p491 q491
          cases e491
          (try simp only [show (1 : Int).toNat = 1 from rfl, Nat.reduceMul, Nat.reduceEqDiff, Go.Addr.add, ↓reduceIte] at hx491_0)
          (try simp only [show (1 : Int).toNat = 1 from rfl, Nat.reduceMul, Nat.reduceEqDiff, Go.Addr.add, ↓reduceIte] at hx491_1)
          (try simp only [show (1 : Int).toNat = 1 from rfl, Nat.reduceMul, Nat.reduceEqDiff, Go.Addr.add, ↓reduceIte] at hx491_2)
          (try simp only [show (1 : Int).toNat = 1 from rfl, Nat.reduceMul, Nat.reduceEqDiff, Go.Addr.add, ↓reduceIte] at hx491_3)
          (try simp only [show (1 : Int).toNat = 1 from rfl, Nat.reduceMul, Nat.reduceEqDiff, Go.Addr.add, ↓reduceIte] at hx491_4)
          (try simp only [show (1 : Int).toNat = 1 from rfl, Nat.reduceMul, Nat.reduceEqDiff, Go.Addr.add, ↓reduceIte] at hx491_5)
          (try simp only [show (1 : Int).toNat = 1 from rfl, Nat.reduceMul, Nat.reduceEqDiff, Go.Addr.add, ↓reduceIte] at hx491_6)
          (try simp only [show (1 : Int).toNat = 1 from rfl, Nat.reduceMul, Nat.reduceEqDiff, Go.Addr.add, ↓reduceIte] at hx491_7)
          have qi491 : (1 < t486.length) = True := eq_true (by omega)
          (try rw [show ((1 : Int)).toNat = 1 from rfl] at hx491_0)
          (try rw [show 1 * 8 = 8 from rfl] at hx491_0)
          (try rw [show ((1 : Int)).toNat = 1 from rfl] at hx491_1)
          (try rw [show 1 * 8 = 8 from rfl] at hx491_1)
          (try rw [show ((1 : Int)).toNat = 1 from rfl] at hx491_2)
          (try rw [show 1 * 8 = 8 from rfl] at hx491_2)
          (try rw [show ((1 : Int)).toNat = 1 from rfl] at hx491_3)
          (try rw [show 1 * 8 = 8 from rfl] at hx491_3)
          (try rw [show ((1 : Int)).toNat = 1 from rfl] at hx491_4)
          (try rw [show 1 * 8 = 8 from rfl] at hx491_4)
          (try rw [show ((1 : Int)).toNat = 1 from rfl] at hx491_5)
          (try rw [show 1 * 8 = 8 from rfl] at hx491_5)
          (try rw [show ((1 : Int)).toNat = 1 from rfl] at hx491_6)
          (try rw [show 1 * 8 = 8 from rfl] at hx491_6)
          (try rw [show ((1 : Int)).toNat = 1 from rfl] at hx491_7)
          (try rw [show 1 * 8 = 8 from rfl] at hx491_7)
          have hn491_0 : ad491.block ≠ gb439 := Kd.own_blk (Kd.R_ne HO488.out BK439.out (by decide))
          have hn491_1 : ad491.block ≠ gb439 := Kd.own_blk (Kd.R_ne HO488.out BK439.out (by decide))
          have hn491_2 : ad491.block ≠ gb439 := Kd.own_blk (Kd.R_ne HO488.out BK439.out (by decide))
          have hn491_3 : ad491.block ≠ gb439 := Kd.own_blk (Kd.R_ne HO488.out BK439.out (by decide))
          have hn491_4 : ad491.block ≠ gb439 := Kd.own_blk (Kd.R_ne HO488.out BK439.out (by decide))
          have hn491_5 : ad491.block ≠ gb439 := Kd.own_blk (Kd.R_ne HO488.out BK439.out (by decide))
          have hn491_6 : ad491.block ≠ gb439 := Kd.own_blk (Kd.R_ne HO488.out BK439.out (by decide))
          have hn491_7 : ad491.block ≠ gb439 := Kd.own_blk (Kd.R_ne HO488.out BK439.out (by decide))
          have hn491_8 : ad491.block ≠ gb439 := Kd.own_blk (Kd.R_ne HO488.out BK439.out (by decide))
          have hn491_9 : ad491.block ≠ gb439 := Kd.own_blk (Kd.R_ne HO488.out BK439.out (by decide))
          have hn491_10 : ad491.block ≠ gb439 := Kd.own_blk (Kd.R_ne HO488.out BK439.out (by decide))
          have hn491_11 : ad491.block ≠ gb439 := Kd.own_blk (Kd.R_ne HO488.out BK439.out (by decide))
          have hn491_12 : ad491.block ≠ gb439 := Kd.own_blk (Kd.R_ne HO488.out BK439.out (by decide))
          have hn491_13 : ad491.block ≠ gb439 := Kd.own_blk (Kd.R_ne HO488.out BK439.out (by decide))
          have q_ := fun w_ => (((((((((((((((Wq.refl gb439 w_).set 0 (.int .i64 t470)).set 1 (.int .i64 t471)).set 2 (.int .u64 t472)).set 3 (.int .i64 t473)).set 4 (.int .i64 t474)).set 5 (.int .i64 t475)).set 6 (.int .i64 t476)).set 7 (.int .i64 t477)).set 8 (.int .u16 t478)).set 9 (.int .i64 t479)).set 10 (.int .i64 t480)).set 11 (.slice Ao55 t481.length co55)).set 12 (.bool t484)).set 13 (.int .i64 t485))
          replace hx491_0 := cq hx491_0 (q_ _) (by first | (rw [add_block]; exact hn491_0) | (show (Addr.add _ _).block ≠ _; rw [add_block]; exact hn491_0) | exact hn491_0)
          replace hx491_1 := cq hx491_1 (q_ _) (by first | (rw [add_block]; exact hn491_0) | (show (Addr.add _ _).block ≠ _; rw [add_block]; exact hn491_0) | exact hn491_0)
          replace hx491_2 := cq hx491_2 (q_ _) (by first | (rw [add_block]; exact hn491_0) | (show (Addr.add _ _).block ≠ _; rw [add_block]; exact hn491_0) | exact hn491_0)
          replace hx491_3 := cq hx491_3 (q_ _) (by first | (rw [add_block]; exact hn491_0) | (show (Addr.add _ _).block ≠ _; rw [add_block]; exact hn491_0) | exact hn491_0)
          replace hx491_4 := cq hx491_4 (q_ _) (by first | (rw [add_block]; exact hn491_0) | (show (Addr.add _ _).block ≠ _; rw [add_block]; exact hn491_0) | exact hn491_0)
          replace hx491_5 := cq hx491_5 (q_ _) (by first | (rw [add_block]; exact hn491_0) | (show (Addr.add _ _).block ≠ _; rw [add_block]; exact hn491_0) | exact hn491_0)
          replace hx491_6 := cq hx491_6 (q_ _) (by first | (rw [add_block]; exact hn491_0) | (show (Addr.add _ _).block ≠ _; rw [add_block]; exact hn491_0) | exact hn491_0)
          replace hx491_7 := cq hx491_7 (q_ _) (by first | (rw [add_block]; exact hn491_0) | (show (Addr.add _ _).block ≠ _; rw [add_block]; exact hn491_0) | exact hn491_0)
          clear q_
          clear hn491_0
          clear hn491_1
          clear hn491_2
          clear hn491_3
          clear hn491_4
          clear hn491_5
          clear hn491_6
          clear hn491_7
          clear hn491_8
          clear hn491_9
          clear hn491_10
          clear hn491_11
          clear hn491_12
          clear hn491_13
          replace p491 := eq_true p491
          replace q491 := eq_true q491
          have hcz61 := cf14 BK439
          try go_wp2
          go_ret
          exact ⟨by first | rfl | (simp [errW_none, errW_some] <;> rfl) | (simp [*, errW_none, errW_some] <;> rfl), by repeat (first | (with_reducible first | exact HB.out | apply below_alloc | apply pw_below_drewN | apply below_drew1 | refine below_set ?_ GE439.out) | exact HB.out)⟩
         ·rw [if_neg c15] at H
          exact absurd H (by simp)
        ·rw [if_neg c14] at H
         exact absurd H (by simp)
       ·rw [if_neg c13] at H
        exact absurd H (by simp)
      ·rw [if_neg c12] at H
       exact absurd H (by simp)
     ·rw [if_neg c11] at H
      exact absurd H (by simp)
    ·rw [if_neg c10] at H
     exact absurd H (by simp)
   ·rw [if_neg c9] at H
    exact absurd H (by simp)
  ·rw [if_neg c8] at H
   exact absurd H (by simp)
 ·rw [if_neg c7] at H
  exact absurd H (by simp)


/-! ### palletlaw13_few: function 8 -/
def palletlaw13_few.f (a0_0 : Int) (a0_1 : Int) (a0_2 : Int) (a0_3 : Int) (a0_4 : Int) (a0_5 : Int) (a0_6 : Int) (a0_7 : Int) (a0_8 : Int) (a0_9 : Int) (a0_10 : Int) (l0_11 : List Int) (a0_12 : Bool) (a0_13 : Int) (l1 : List Int) : Option (Bool) := if (l0_11.length : Int) ≤ 100 then (some (decide ((l1.length : Int) ≤ 500))) else (some false)
set_option maxHeartbeats 8000000 in
set_option maxRecDepth 100000 in
theorem palletlaw13_few.calls (a0_0 : Int) (a0_1 : Int) (a0_2 : Int) (a0_3 : Int) (a0_4 : Int) (a0_5 : Int) (a0_6 : Int) (a0_7 : Int) (a0_8 : Int) (a0_9 : Int) (a0_10 : Int) (A0_11 : Option Addr) (c0_11 : Nat) (l0_11 : List Int) (a0_12 : Bool) (a0_13 : Int) (A1 : Option Addr) (c1 : Nat) (l1 : List Int) (r : Bool) (w : World) (hr0_11 : Kd.C (Kd.int .i64) w A0_11 l0_11.length l0_11) (hc0_11 : l0_11.length ≤ c0_11) (hr1 : Kd.C (Kd.int .u8) w A1 l1.length l1) (hc1 : l1.length ≤ c1) (h : palletlaw13_few.f a0_0 a0_1 a0_2 a0_3 a0_4 a0_5 a0_6 a0_7 a0_8 a0_9 a0_10 l0_11 a0_12 a0_13 l1 = some r) :
  Calls Tryz.prog 8 #[.agg #[.int .i64 a0_0, .int .i64 a0_1, .int .u64 a0_2, .int .i64 a0_3, .int .i64 a0_4, .int .i64 a0_5, .int .i64 a0_6, .int .i64 a0_7, .int .u16 a0_8, .int .i64 a0_9, .int .i64 a0_10, .slice A0_11 l0_11.length c0_11, .bool a0_12, .int .i64 a0_13], .slice A1 l1.length c1] w fun e w' => e = .returned (.bool r) ∧ Below w.heap.size w w' := by
 have hu32 := Tryz.underlying32
 have HR0_11 := asd hr0_11
 have HC0_11 := asd hc0_11
 clear hr0_11 hc0_11
 have HR1 := asd hr1
 have HC1 := asd hc1
 clear hr1 hc1
 have HB := asd (Below.refl w.heap.size w)
 have H : (if (l0_11.length : Int) ≤ 100 then (some (decide ((l1.length : Int) ≤ 500))) else (some false)) = some r := h
 clear h
 by_cases c3 : (l0_11.length : Int) ≤ 100
 ·rw [if_pos c3] at H
  have c3b0 : decide ((l0_11.length : Int) ≤ 100) = true := decide_eq_true c3
  have c3b1 : decide (l0_11.length ≤ 100) = true := decide_eq_true (by omega)
  clear c3
  obtain rfl := Option.some.inj H
  go_enter Tryz.func8, Tryz.ntmps8
  go_wp2_with (first | ((with_reducible refine gate_dst (N := 2) rfl ?_); (try (refine gate_guard (by rfl) ?_; dsimp only)); refine bx (N := 2) (cs := #[.int .i64 a0_0, .int .i64 a0_1, .int .u64 a0_2, .int .i64 a0_3, .int .i64 a0_4, .int .i64 a0_5, .int .i64 a0_6, .int .i64 a0_7, .int .u16 a0_8, .int .i64 a0_9, .int .i64 a0_10, .slice A0_11 l0_11.length c0_11, .bool a0_12, .int .i64 a0_13]) (t := 32) ?_; intro gb492 hg w4 hbox hb; have BK492 := asd (hbox); have GW492 := bz HB hg; have GE492 := bz HB hg; replace HB := bs HB hb; clear hb hbox hg; have hcz5 := cf14 BK492))
  go_ret
  exact ⟨by first | rfl | (simp [errW_none, errW_some] <;> rfl) | (simp [*, errW_none, errW_some] <;> rfl), by repeat (first | (with_reducible first | exact HB.out | apply below_alloc | apply pw_below_drewN | apply below_drew1 | refine below_set ?_ GE492.out) | exact HB.out)⟩
 ·rw [if_neg c3] at H
  have c3b0 : decide ((l0_11.length : Int) ≤ 100) = false := decide_eq_false c3
  have c3b1 : decide (l0_11.length ≤ 100) = false := decide_eq_false (by omega)
  clear c3
  obtain rfl := Option.some.inj H
  go_enter Tryz.func8, Tryz.ntmps8
  go_wp2_with (first | ((with_reducible refine gate_dst (N := 2) rfl ?_); (try (refine gate_guard (by rfl) ?_; dsimp only)); refine bx (N := 2) (cs := #[.int .i64 a0_0, .int .i64 a0_1, .int .u64 a0_2, .int .i64 a0_3, .int .i64 a0_4, .int .i64 a0_5, .int .i64 a0_6, .int .i64 a0_7, .int .u16 a0_8, .int .i64 a0_9, .int .i64 a0_10, .slice A0_11 l0_11.length c0_11, .bool a0_12, .int .i64 a0_13]) (t := 32) ?_; intro gb492 hg w6 hbox hb; have BK492 := asd (hbox); have GW492 := bz HB hg; have GE492 := bz HB hg; replace HB := bs HB hb; clear hb hbox hg; have hcz7 := cf14 BK492))
  go_ret
  exact ⟨by first | rfl | (simp [errW_none, errW_some] <;> rfl) | (simp [*, errW_none, errW_some] <;> rfl), by repeat (first | (with_reducible first | exact HB.out | apply below_alloc | apply pw_below_drewN | apply below_drew1 | refine below_set ?_ GE492.out) | exact HB.out)⟩

/-! ### slices_Clone_byte_byte: function 94 -/
/-- A copy. -/
def slices_Clone_byte_byte.f (l0 : List Int) : Option (List Int) := if l0.length < 17592186044416 then some l0 else none
set_option maxHeartbeats 8000000 in
set_option maxRecDepth 100000 in
theorem slices_Clone_byte_byte.calls (A0 : Option Addr) (c0 : Nat) (l0 : List Int) (r : List Int) (w : World) (hr0 : Kd.C (Kd.int .u8) w A0 l0.length l0) (hc0 : l0.length ≤ c0) (h : slices_Clone_byte_byte.f l0 = some r) :
  Calls Tryz.prog 94 #[.slice A0 l0.length c0] w fun e w' => ∃ v0_ : Value, e = .returned (v0_) ∧ Kd.R (Kd.int .u8) 5 w' w.heap.size (fun _ => True) v0_ r ∧ Below w.heap.size w w' := by
 have HB := asd (Below.refl w.heap.size w)
 unfold slices_Clone_byte_byte.f at h
 by_cases hl : l0.length < 17592186044416
 case neg =>
  rw [if_neg hl] at h
  exact absurd h (by simp)
 rw [if_pos hl] at h
 obtain rfl := Option.some.inj h
 cases A0 with
 | none =>
  have he : ∀ w : World, (Go.binOp .eql 33 (.slice none l0.length c0) (.slice none 0 0)).run Tryz.prog w = .ok (.bool true) w := fun _ => by kernel_rfl
  go_enter Tryz.func94, Tryz.ntmps94
  go_wp2
  go_ret
  have e0 : l0 = [] := by
   by_cases hz : 0 < l0.length
   ·obtain ⟨ad, c, e, _⟩ := Kd.C_get hr0 (0 : Int) 0 (by decide) (by omega)
    cases e
   ·exact List.eq_nil_of_length_eq_zero (by omega)
  subst e0
  exact ⟨_, rfl, Kd.R_nil _ _ _ _ _, HB.out⟩
 | some ad =>
  have he : ∀ w : World, (Go.binOp .eql 33 (.slice (some ad) l0.length c0) (.slice none 0 0)).run Tryz.prog w = .ok (.bool false) w := fun _ => by kernel_rfl
  go_enter Tryz.func94, Tryz.ntmps94
  go_wp2_with (first | ((with_reducible refine gate_dst (N := 5) rfl ?_); refine Kd.R_lit (Kd.int .u8) _ 5 ?hg (N := 5) ?hd (xs := ([] : List Int)) (inner := []) (ok := fun _ => True) (okp := fun _ => True) ?hr ?hp (fun _ hk => hk) trivial (Below.refl _ _) (Nat.le_refl _) (by simp) ?_; (case hd => rfl); (case hg => rfl); (case hr => first | (go_simp; done) | (go_simp; rfl)); (case hp => exact Reps.none _ _); intro v1 w1 ho hb hg_ hnew_; clear hg_ hnew_; have n0_ := asd (Kd.R_lower ho (below_size HB.out)); have n1_ := asd (below_step HB.out hb); clear HB; have HO := n0_; have HB := n1_; clear n0_ n1_ hb ho) | ((with_reducible refine gate_builtin (b := .append) (xs := #[.tmp 5, .tmp 6]) rfl ?_); at_builtin; refine Kd.R_append_rows (Kd.int .u8) (w0 := w) w.heap.size rfl (.tmp 5) (.tmp 6) 33 5 (.int .u8 0) 1 rfl Tryz.underlying33 info5 rfl (by decide) (by omega) v1 ([] : List Int) l0 _ _ _ (fun _ => True) (fun _ => False) rfl rfl ?aO ?aR (fun _ _ h => h) (fun _ h => h.elim) ?aF ?aB ?aS ?aL ?_; (case aR => exact Kd.C_below hr0 HB.out); (case aB => exact HB.out); (case aF => exact (fun _ _ => trivial)); (case aO => exact HO.out); (case aS => exact below_size HB.out); (case aL => simp; omega); intro v2 w2 ho hb hg hat; have n0_ := asd hb; have n1_ := asd ho; clear HB; have HB := n0_; have HO2 := n1_; clear n0_ n1_ ho hb hg hat))
  go_ret
  exact ⟨_, rfl, HO2.out, HB.out⟩

/-! ### bytes_Equal: function 129 -/
def bytes_Equal.f (l0 : List Int) (l1 : List Int) : Option (Bool) := some ((strOfNums l0).toList == (strOfNums l1).toList)
set_option maxHeartbeats 8000000 in
set_option maxRecDepth 100000 in
theorem bytes_Equal.calls (A0 : Option Addr) (c0 : Nat) (l0 : List Int) (A1 : Option Addr) (c1 : Nat) (l1 : List Int) (r : Bool) (w : World) (hr0 : Kd.C (Kd.int .u8) w A0 l0.length l0) (hc0 : l0.length ≤ c0) (hr1 : Kd.C (Kd.int .u8) w A1 l1.length l1) (hc1 : l1.length ≤ c1) (h : bytes_Equal.f l0 l1 = some r) :
  Calls Tryz.prog 129 #[.slice A0 l0.length c0, .slice A1 l1.length c1] w fun e w' => e = .returned (.bool r) ∧ Drawn0 w w' := by
 have HR0 := asd hr0
 have HC0 := asd hc0
 clear hr0 hc0
 have HR1 := asd hr1
 have HC1 := asd hc1
 clear hr1 hc1
 have H : (some ((strOfNums l0).toList == (strOfNums l1).toList)) = some r := h
 clear h
 obtain rfl := Option.some.inj H
 have hcv3 := Kd.C_string (P := Tryz.prog) (A := A0) (c := c0) Tryz.underlying33 Tryz.underlying5 Tryz.underlying9 HR0.out
 have hcv4 := Kd.C_string (P := Tryz.prog) (A := A1) (c := c1) Tryz.underlying33 Tryz.underlying5 Tryz.underlying9 HR1.out
 go_enter Tryz.func129, Tryz.ntmps129
 go_wp2
 go_ret
 exact ⟨by first | rfl | (simp; done) | (simp [*]; done), by repeat (first | exact Drawn0.refl _ | apply Drawn0.step)⟩

-- NOT PRINTED: function 89 (crc_open)

/-! ### crc_build: function 159 -/
/-- The two tables' entries. -/
def crc_it (f : Int → Int) : Nat → Int → Int
 | 0, c => c
 | n + 1, c => f (crc_it f n c)
/-- A table of which so many entries are written. -/
def crc_cells (e : Nat → Int) (k : Nat) : Array Value := ((List.range 256).map fun i => Value.int .u32 (if i < k then e i else 0)).toArray
theorem crc_cells_size (e : Nat → Int) (k : Nat) : (crc_cells e k).size = 256 := by simp [crc_cells]
theorem crc_cells_get (e : Nat → Int) (k i : Nat) (h : i < 256) : (crc_cells e k)[i]? = some (Value.int .u32 (if i < k then e i else 0)) := by
 unfold crc_cells
 rw [List.getElem?_toArray, List.getElem?_map, List.getElem?_range h]
 rfl
theorem crc_cells_zero (e e' : Nat → Int) : crc_cells e 0 = crc_cells e' 0 := by
 unfold crc_cells
 simp
theorem crc_cells_set (e : Nat → Int) (k : Nat) (h : k < 256) : (crc_cells e k).setIfInBounds k (.int .u32 (e k)) = crc_cells e (k + 1) := by
 apply Array.ext_getElem?
 intro i
 rw [Array.getElem?_setIfInBounds]
 by_cases hi : i < 256
 ·rw [crc_cells_get e (k + 1) i hi]
  by_cases c : k = i
  ·subst c
   rw [if_pos rfl, if_pos (by rw [crc_cells_size]; exact hi), if_pos (by omega)]
  ·rw [if_neg c, crc_cells_get e k i hi]
   congr 2
   by_cases c2 : i < k
   ·rw [if_pos c2, if_pos (by omega)]
   ·rw [if_neg c2, if_neg (by omega)]
 ·rw [if_neg (by omega), Array.getElem?_eq_none (by rw [crc_cells_size]; omega), Array.getElem?_eq_none (by rw [crc_cells_size]; omega)]
theorem crc_zero36 : (Tryz.prog.info? 165).map (fun i => (i.zero, i.size)) = some (some (.agg (crc_cells (fun _ => 0) 0)), 256) := by kernel_rfl
def crc_T (e : Nat → Int) : Value := .agg (crc_cells e 256)
theorem crc_put (w : World) (e : Nat → Int) (k n : Nat) (h : k < 256) : ((w.alloc (.cells (crc_cells e k) 165)).drewN n).setCell ⟨w.heap.size, k, none⟩ (.int .u32 (e k)) = (w.alloc (.cells (crc_cells e (k + 1)) 165)).drewN n := by
 show ((w.alloc (.cells (crc_cells e k) 165)).setCell ⟨w.heap.size, k, none⟩ (.int .u32 (e k))).drewN n = _
 rw [World.setCell_alloc_new, crc_cells_set e k h]
theorem crc_one (e : Nat → Int) (k : Nat) : (crc_cells e k).all (·.oneCell') = true := by
 unfold crc_cells
 simp [Value.oneCell']
theorem crc_at (w : World) (c : Array Value) (n : Nat) : ((w.alloc (.cells c 165)).drewN n).heap[w.heap.size]? = some (.cells c 165 (0, 0)) := heap_alloc_last w _
theorem crc_row (w : World) (c : Array Value) (n : Nat) : ((w.alloc (.cells c 165)).drewN n).setRow w.heap.size c = (w.alloc (.cells c 165)).drewN n := by
 show ((w.alloc (.cells c 165)).setRow w.heap.size c).drewN n = _
 rw [World.setRow_alloc_new]
theorem crc_info (e : Nat → Int) (k : Nat) : (Tryz.prog.info? 165).map (·.size) = some (crc_cells e k).size := by
 rw [crc_cells_size]
 exact (zero_of_info crc_zero36).2
theorem crc_setRow_at {w : World} {g : Nat} {c c' : Array Value} {t : TypeId} (h : w.heap[g]? = some (.cells c t (0, 0))) : (w.setRow g c').heap[g]? = some (.cells c' t (0, 0)) := by
 simp [World.setRow, Array.getElem?_modify, h]
theorem crc_setRow_below {w w1 : World} {g : Nat} {c' : Array Value} (h : Below w.heap.size w w1) (hg : w.heap.size ≤ g) : Below w.heap.size w (w1.setRow g c') := by
 refine ⟨h.os, h.tape, h.output, ?_, fun i hi => ?_⟩
 ·simp [World.setRow]
  exact h.size
 ·rw [← h.block i hi]
  simp only [World.setRow, Array.getElem?_modify]
  rw [if_neg (by omega)]
theorem crc_u8 (x y : Int) : 0 ≤ Go.bits .xor .u8 x y ∧ Go.bits .xor .u8 x y < 256 := by
 show 0 ≤ IntKind.u8.wrap _ ∧ IntKind.u8.wrap _ < 256
 simp only [IntKind.wrap, IntKind.bits, IntKind.signed]
 simp
 omega

/-! ### crc_table24_1: function 160 -/
def crc_table24_1.f (a0 : Int) : Option (Int) := some ((((a0) % 4294967296) * 65536) % 4294967296)
set_option maxHeartbeats 8000000 in
set_option maxRecDepth 100000 in
theorem crc_table24_1.calls (a0 : Int) (r : Int) (w : World) (h : crc_table24_1.f a0 = some r) :
  Calls Tryz.prog 160 #[.int .i64 a0] w fun e w' => e = .returned (.int .u32 r) ∧ Drawn0 w w' := by
 have H : (some ((((a0) % 4294967296) * 65536) % 4294967296)) = some r := h
 clear h
 obtain rfl := Option.some.inj H
 go_enter Tryz.func160, Tryz.ntmps160
 go_wp2
 go_ret
 exact ⟨by first | rfl | (simp; done) | (simp [*]; done), by repeat (first | exact Drawn0.refl _ | apply Drawn0.step)⟩

/-! ### crc_table24_2: function 161 -/
def crc_table24_2.f (a0 : Int) : Option (Int) := if (Go.bits .and .u32 ((a0 * 2) % 4294967296) 16777216) = 0 then (some ((a0 * 2) % 4294967296)) else (some (Go.bits .xor .u32 ((a0 * 2) % 4294967296) 25578747))
set_option maxHeartbeats 8000000 in
set_option maxRecDepth 100000 in
theorem crc_table24_2.calls (a0 : Int) (r : Int) (w : World) (h : crc_table24_2.f a0 = some r) :
  Calls Tryz.prog 161 #[.int .u32 a0] w fun e w' => e = .returned (.int .u32 r) ∧ Drawn0 w w' := by
 have H : (if (Go.bits .and .u32 ((a0 * 2) % 4294967296) 16777216) = 0 then (some ((a0 * 2) % 4294967296)) else (some (Go.bits .xor .u32 ((a0 * 2) % 4294967296) 25578747))) = some r := h
 clear h
 by_cases c2 : (Go.bits .and .u32 ((a0 * 2) % 4294967296) 16777216) = 0
 ·rw [if_pos c2] at H
  have c2b0 : ((Go.bits .and .u32 ((a0 * 2) % 4294967296) 16777216) == 0) = true := beq_iff_eq.mpr c2
  have c2b1 : ((Go.bits .and .u32 ((a0 * 2) % 4294967296) 16777216) != 0) = false := bne_eq_false_iff_eq.mpr c2
  clear c2
  obtain rfl := Option.some.inj H
  go_enter Tryz.func161, Tryz.ntmps161
  go_wp2
  go_ret
  exact ⟨by first | rfl | (simp; done) | (simp [*]; done), by repeat (first | exact Drawn0.refl _ | apply Drawn0.step)⟩
 ·rw [if_neg c2] at H
  have c2b0 : ((Go.bits .and .u32 ((a0 * 2) % 4294967296) 16777216) == 0) = false := beq_eq_false_iff_ne.mpr c2
  have c2b1 : ((Go.bits .and .u32 ((a0 * 2) % 4294967296) 16777216) != 0) = true := bne_iff_ne.mpr c2
  obtain rfl := Option.some.inj H
  go_enter Tryz.func161, Tryz.ntmps161
  go_wp2
  go_ret
  exact ⟨by first | rfl | (simp; done) | (simp [*]; done), by repeat (first | exact Drawn0.refl _ | apply Drawn0.step)⟩

-- NOT PRINTED: function 147 (crc_table24)

/-! ### crc_Sum24: function 130 -/
def crc_s24 (c : Int) : Int := if (Go.bits .and .u32 ((c * 2) % 4294967296) 16777216) = 0 then (c * 2) % 4294967296 else Go.bits .xor .u32 ((c * 2) % 4294967296) 25578747
def crc_e24 (i : Nat) : Int := crc_it crc_s24 8 ((((i : Int) % 4294967296) * 65536) % 4294967296)
theorem crc_s24_f (c : Int) : crc_table24_2.f c = some (crc_s24 c) := by
 unfold crc_table24_2.f crc_s24
 split <;> rfl
set_option maxHeartbeats 4000000 in
set_option maxRecDepth 100000 in
theorem crc_build.at24 (w : World) : Calls Tryz.prog 159 #[.func (.func 160) #[] #[], .func (.func 161) #[] #[]] w fun e w' => e = .returned (crc_T crc_e24) ∧ Below w.heap.size w w' := by
 obtain ⟨hz, hi⟩ := zero_of_info crc_zero36
 go_enter Tryz.func159, Tryz.ntmps159
 go_wp2
 rw [crc_cells_zero _ crc_e24]
 go_loopw [7] (fun i wr => ∃ k : Nat, k ≤ 256 ∧ i = .int .i64 k ∧ ∃ nd, wr = (w.alloc (.cells (crc_cells crc_e24 k) 165)).drewN nd) (fun i _ => 256 - (intOf i).toNat)
 case atStart => exact ⟨0, by decide, rfl, 0, rfl⟩
 case round =>
  obtain ⟨k, hk, rfl, nd, rfl⟩ := hrel
  by_cases hlt : k < 256
  ·have hf1 : crc_table24_1.f (k : Int) = some ((((k : Int) % 4294967296) * 65536) % 4294967296) := rfl
   have HF1 := asd hf1
   clear hf1
   obtain ⟨c0, hc0⟩ : ∃ c0, (((k : Int) % 4294967296) * 65536) % 4294967296 = c0 := ⟨_, rfl⟩
   rw [hc0] at HF1
   have HC0 := asd hc0
   clear hc0
   go_wp2_with (go_at_call 160; (with_reducible refine (crc_table24_1.calls (k : Int) _ _ HF1.out).mono ?_); rintro e w' ⟨rfl, ⟨⟨n1, rfl⟩⟩⟩)
   go_loopw [6, 13] (fun c j wr => ∃ q : Nat, q ≤ 8 ∧ j = .int .i64 q ∧ c = .int .u32 (crc_it crc_s24 q c0) ∧ ∃ nd, wr = (w.alloc (.cells (crc_cells crc_e24 k) 165)).drewN nd) (fun _ j _ => 8 - (intOf j).toNat)
   case atStart => exact ⟨0, by decide, rfl, rfl, _, rfl⟩
   case round =>
    obtain ⟨q, hq, rfl, rfl, nd2, rfl⟩ := hrel
    by_cases hq8 : q < 8
    ·have HF2 := asd (crc_s24_f (crc_it crc_s24 q c0))
     go_wp2_with (go_at_call 161; (with_reducible refine (crc_table24_2.calls (crc_it crc_s24 q c0) _ _ HF2.out).mono ?_); rintro e w' ⟨rfl, ⟨⟨n2, rfl⟩⟩⟩)
     go_roundw
     case rel => exact ⟨q + 1, by omega, by go_num, rfl, _, rfl⟩
     case measure => simp [intOf]; omega
    ·obtain rfl : q = 8 := by omega
     have hend : crc_it crc_s24 8 c0 = crc_e24 k := by rw [← HC0.out]; rfl
     rw [hend]
     clear hend
     have hcell : ((w.alloc (.cells (crc_cells crc_e24 k) 165)).drewN nd2).cell? ⟨w.heap.size, k, none⟩ = some (.int .u32 0) := by
      have h := cell_of_row (w.alloc (.cells (crc_cells crc_e24 k) 165)) w.heap.size k (crc_cells crc_e24 k) 165 (0, 0) (heap_alloc_last w _)
      rw [crc_cells_get _ _ _ hlt, if_neg (by omega)] at h
      exact h
     go_wp2
     go_roundw
     case rel => exact ⟨k + 1, by omega, by go_num, nd2, crc_put w crc_e24 k nd2 hlt⟩
     case measure => simp [intOf]; omega
  ·obtain rfl : k = 256 := by omega
   have HG := asd (crc_at w (crc_cells crc_e24 256) nd)
   have HI := asd (crc_info crc_e24 256)
   clear hi hz
   go_wp2_with (first | (refine wpList_load_row rfl 165 (.tmp 4) rfl w.heap.size rfl 165 (crc_cells crc_e24 256) (0, 0) _ HG.out Tryz.underlying165 rfl HI.out ?_) | (refine wpList_store_row rfl 165 (.tmp 4) (.tmp 23) rfl w.heap.size (crc_cells crc_e24 256) rfl rfl 165 (crc_cells crc_e24 256) HG.out HI.out rfl (crc_one _ _) ?_; rw [crc_row]))
   refine bodyPost_ret (results_cell_row rfl _ _ w.heap.size 165 (crc_cells crc_e24 256) (0, 0) _ rfl HG.out Tryz.underlying165 rfl HI.out) rfl ?_
   exact ⟨rfl, pw_below_drewN (below_alloc (Below.refl _ _) _) _⟩
set_option maxHeartbeats 4000000 in
set_option maxRecDepth 100000 in
theorem crc_table24.made (w : World) : Calls Tryz.prog 147 #[] w fun e w' => e = .returned (crc_T crc_e24) ∧ Below w.heap.size w w' := by
 obtain ⟨hz, hi⟩ := zero_of_info crc_zero36
 clear hi
 have HI := asd (crc_info crc_e24 256)
 go_enter Tryz.func147, Tryz.ntmps147
 go_wp2_with (first | (go_at_call 159; (with_reducible refine (crc_build.at24 _).mono ?_); rintro e w1 ⟨rfl, hb⟩; have HG := asd (blk_below (blk_new w _) hb); have HB := asd (below_step (below_alloc (Below.refl w.heap.size w) _) hb); clear hb) | (refine wpList_store_row rfl 165 (.tmp 0) (.tmp 1) rfl w.heap.size (crc_cells crc_e24 256) rfl rfl 165 (crc_cells (fun _ => 0) 0) HG.out HI.out (by rw [crc_cells_size, crc_cells_size]) (crc_one _ _) ?_))
 refine bodyPost_ret (results_cell_row rfl _ _ w.heap.size 165 (crc_cells crc_e24 256) (0, 0) _ rfl (crc_setRow_at HG.out) Tryz.underlying165 rfl HI.out) rfl ?_
 exact ⟨rfl, crc_setRow_below HB.out (Nat.le_refl _)⟩
/-- The sum of 24 bits, byte by byte, out of its table. -/
def crc_b24 (c y : Int) : Int := Go.bits .xor .u32 (Go.bits .and .u32 ((c * 256) % 4294967296) 16777215) (crc_e24 (Go.bits .xor .u8 ((c / 65536) % 256) y).toNat)
def crc_Sum24.f (l0 : List Int) : Option (Int) := if l0.length ≤ 140737488355328 then some (l0.foldl crc_b24 11994318) else none
set_option maxHeartbeats 4000000 in
set_option maxRecDepth 100000 in
theorem crc_Sum24.calls (A0 : Option Addr) (c0 : Nat) (l0 : List Int) (r : Int) (w : World) (hr0 : Kd.C (Kd.int .u8) w A0 l0.length l0) (hc0 : l0.length ≤ c0) (h : crc_Sum24.f l0 = some r) : Calls Tryz.prog 130 #[.slice A0 l0.length c0] w fun e w' => e = .returned (.int .u32 r) ∧ Below w.heap.size w w' := by
 obtain ⟨hz, hi⟩ := zero_of_info crc_zero36
 clear hi
 unfold crc_Sum24.f at h
 by_cases hl : l0.length ≤ 140737488355328
 case neg =>
  rw [if_neg hl] at h
  cases h
 rw [if_pos hl] at h
 have HR := asd (Option.some.inj h)
 clear h
 have HI := asd (crc_info crc_e24 256)
 go_enter Tryz.func130, Tryz.ntmps130
 go_wp2_with (first | (go_at_call 147; (with_reducible refine (crc_table24.made _).mono ?_); rintro e w1 ⟨rfl, hb⟩; have HG := asd (crc_at w1 (crc_cells (fun _ => 0) 0) 0); have HB := asd hb; clear hb) | (refine wpList_store_row rfl 165 (.tmp 3) (.tmp 7) rfl w1.heap.size (crc_cells crc_e24 256) rfl rfl 165 (crc_cells (fun _ => 0) 0) HG.out HI.out (by rw [crc_cells_size, crc_cells_size]) (crc_one _ _) ?_; rw [World.setRow_alloc_new]))
 have HC := asd (Kd.C_below hr0 (below_alloc HB.out (.cells (crc_cells crc_e24 256) 165)))
 clear hr0
 have HT := asd (heap_alloc_last w1 (.cells (crc_cells crc_e24 256) 165))
 go_loop [4, 10] (fun c i => ∃ k : Nat, k ≤ l0.length ∧ i = .int .i64 k ∧ c = .int .u32 ((l0.take k).foldl crc_b24 11994318)) (fun _ i => l0.length - (intOf i).toNat)
 case atStart => exact ⟨0, Nat.zero_le _, rfl, rfl⟩
 case round =>
  obtain ⟨k, hk, rfl, rfl⟩ := hrel
  by_cases hlt : k < l0.length
  ·obtain ⟨c, hc⟩ : ∃ c, (l0.take k).foldl crc_b24 11994318 = c := ⟨_, rfl⟩
   rw [hc]
   have hnext : (l0.take (k + 1)).foldl crc_b24 11994318 = crc_b24 c (rd l0 (k : Int)) := by
    rw [List.take_succ_eq_append_getElem hlt, List.foldl_append, hc]
    simp [rd, hlt]
   have HN := asd hnext
   clear hnext hc
   obtain ⟨ad, ea, hx⟩ := Kd.at_int HC.out (k : Int) (by omega) (by omega)
   subst ea
   rw [Int.toNat_natCast] at hx
   have hidx := crc_u8 ((c / 65536) % 256) (rd l0 (k : Int))
   obtain ⟨hi0, hi1⟩ := hidx
   have hcell := cell_of_row _ w1.heap.size (Go.bits .xor .u8 ((c / 65536) % 256) (rd l0 (k : Int))).toNat _ 165 (0, 0) HT.out
   rw [crc_cells_get _ _ _ (by omega), if_pos (by omega)] at hcell
   go_wp2
   go_round
   case rel => exact ⟨k + 1, by omega, by go_num, by rw [HN.out]; rfl⟩
   case measure => simp [intOf]; omega
  ·obtain rfl : k = l0.length := by omega
   go_wp2
   go_ret
   exact ⟨by rw [← HR.out]; rfl, below_alloc HB.out _⟩

/-! ### crc_tail24: function 90 -/
def crc_tail24.f (l0 : List Int) : Option (List Int) := (crc_Sum24.f l0).bind fun t493 => (some (([(t493 / 65536) % 256, (t493 / 256) % 256, (t493) % 256] : List Int)))
set_option maxHeartbeats 8000000 in
set_option maxRecDepth 100000 in
theorem crc_tail24.calls (A0 : Option Addr) (c0 : Nat) (l0 : List Int) (r : List Int) (w : World) (hr0 : Kd.C (Kd.int .u8) w A0 l0.length l0) (hc0 : l0.length ≤ c0) (h : crc_tail24.f l0 = some r) :
  Calls Tryz.prog 90 #[.slice A0 l0.length c0] w fun e w' => ∃ v0_ : Value, e = .returned (v0_) ∧ Kd.R (Kd.int .u8) 5 w' w.heap.size (fun _ => True) v0_ r ∧ Below w.heap.size w w' := by
 have HR0 := asd hr0
 have HC0 := asd hc0
 clear hr0 hc0
 have HB := asd (Below.refl w.heap.size w)
 have H : ((crc_Sum24.f l0).bind fun t493 => (some (([(t493 / 65536) % 256, (t493 / 256) % 256, (t493) % 256] : List Int)))) = some r := h
 clear h
 replace H := Option.bind_eq_some_iff.mp H
 obtain ⟨t493, A20, H⟩ := H
 replace H : (some (([(t493 / 65536) % 256, (t493 / 256) % 256, (t493) % 256] : List Int))) = some r := H
 have A2 := asd A20
 clear A20
 obtain ⟨y494, hy494⟩ : ∃ y_ : List Int, y_ = (([(t493 / 65536) % 256, (t493 / 256) % 256, (t493) % 256] : List Int)) := ⟨_, rfl⟩
 replace H : (some y494) = some r := by first | (rw [hy494]; with_reducible exact H) | (have H2_ := (Option.bind_some _ _).symm.trans H; rw [hy494]; with_reducible exact H2_) | (have H2_ := (Option.bind_some _ _).symm.trans H; with_reducible exact H2_) | with_reducible exact H | (rw [hy494]; exact H) | exact H
 have Ny494 := asd hy494
 clear hy494
 obtain rfl := Option.some.inj H
 go_enter Tryz.func90, Tryz.ntmps90
 go_wp2_with (first | ((with_reducible refine gate_callee (f := 130) rfl ?_); refine gL (some 5) Tryz.func130 #[.slice A0 l0.length c0] ?_; (with_reducible refine (crc_Sum24.calls _ _ l0 t493 _ ?side1 ?side2 A2.out).mono ?_); (case side1 => repeat (first | exact HR0.out | (with_reducible refine Kd.C_alloc ?_ _) | (with_reducible refine Kd.C_drewN ?_ _) | (with_reducible refine Kd.C_drew ?_))); (case side2 => exact HC0.out); rintro e w3 ⟨rfl, hb⟩; refine ⟨_, rfl, ?_⟩; replace HB := bs HB hb; (try clear hb)) | ((with_reducible refine gate_dst (N := 14) rfl ?_); refine Kd.R_lit (Kd.int .u8) _ 5 ?hg (N := 14) ?hd (xs := ([(t493 / 65536) % 256, (t493 / 256) % 256, (t493) % 256] : List Int)) (inner := [.int .u8 ((t493 / 65536) % 256), .int .u8 ((t493 / 256) % 256), .int .u8 ((t493) % 256)]) (ok := fun _ => True) (okp := fun _ => True) ?hr ?hp (fun _ hk => hk) trivial (Below.refl _ _) (Nat.le_refl _) (by simp) ?_; (case hd => rfl); (case hg => rfl); (case hr => first | (go_simp; done) | (go_simp; rfl)); (case hp => exact (Reps.one (show Kd.M (Kd.int .u8) _ _ _ ((t493 / 65536) % 256) [.int .u8 ((t493 / 65536) % 256)] from rfl) (Reps.one (show Kd.M (Kd.int .u8) _ _ _ ((t493 / 256) % 256) [.int .u8 ((t493 / 256) % 256)] from rfl) (Reps.one (show Kd.M (Kd.int .u8) _ _ _ ((t493) % 256) [.int .u8 ((t493) % 256)] from rfl) (Reps.none _ _))))); intro v495 w4 ho5 hb hg_ hnew_; clear hg_ hnew_; (first | rw [← Ny494.out] at ho5 | (simp only [Int.reduceToNat] at ho5; rw [← Ny494.out] at ho5)); have HO496 := rl ho5 HB; replace HB := bs HB hb; clear hb ho5))
 go_ret
 exact ⟨_, by first | rfl | (simp [errW_none, errW_some] <;> rfl) | (simp [*, errW_none, errW_some] <;> rfl), by (with_reducible repeat (first | apply Kd.R_alloc | apply Kd.R_drewN | apply Kd.R_drew)); exact HO496.out, by repeat (first | (with_reducible first | exact HB.out | apply below_alloc | apply pw_below_drewN | apply below_drew1) | exact HB.out)⟩

end Go.Proofs.YtcofclkgfandfaaGreat.Print
