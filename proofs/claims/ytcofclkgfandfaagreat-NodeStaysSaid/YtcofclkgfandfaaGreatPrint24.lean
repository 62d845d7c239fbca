-- PRINTED by print.py (a twelfth state) out of the translation. Not trusted: Lean checks it.
import Derived.Test.YtcofclkgfandfaaGreatSq
import Derived.Test.YtcofclkgfandfaaGreatPrint0
import Derived.Test.YtcofclkgfandfaaGreatPrint11
import Derived.Test.YtcofclkgfandfaaGreatPrint12
import Derived.Test.YtcofclkgfandfaaGreatPrint13
import Derived.Test.YtcofclkgfandfaaGreatPrint23
namespace Go.Proofs.YtcofclkgfandfaaGreat.Print
set_option maxHeartbeats 8000000
set_option maxRecDepth 100000
open Go.RowKit Go.Proofs.YtcofclkgfandfaaGreatW.PrintWords Go.Proofs.YtcofclkgfandfaaGreatW.PrintLast Go.Proofs.YtcofclkgfandfaaGreatW.PrintMore Go.Proofs.YtcofclkgfandfaaGreatX
attribute [local go_sem] str_lss str_geq max2_int min2_int max_two min_two max_three min_three max_four min_four   -- for this text's walks alone
set_option linter.unusedVariables false
set_option linter.unusedSimpArgs false

/-! ### node_Timer: function 23 -/
/-- What starts. -/
def node_starts.f (k : Nat) (s : Rs) (now : Int) : Option Rs := (frame_With.f 0 s.id).bind fun me => node_timer.f k { { s with ph := 2, sl := (IntKind.u64.wrap s.id), st := now, co := 0, me := me, tg := 1, tb := 0, ds := [], se := false, ve := 0 } with ac := s.ac ++ [⟨3, 0, z43, 2, 0⟩] } s.m2
theorem node_starts.calls (k g : Nat) (s s2 : Rs) (dv av : Value) (now : Int) (w0 w : World) (h : RSt w0 w g s dv av) (hl : s.ac.length ≤ 900000) (hf : node_starts.f k s now = some s2) :
  Calls Tryz.prog 62 #[.pointer (some ⟨g, 0, none⟩), .int .i64 now] w fun e w' => e = .returned (.tuple #[]) ∧ (∃ av', RSt w0 w' g s2 nov av' ∧ At w.heap.size av av') ∧ Kr w w' g nov av := by
 unfold node_starts.f at hf
 obtain ⟨me, A1, hf⟩ := Option.bind_eq_some_iff.mp hf
 have HA := asd A1
 have H := asd h
 have K := asd (Kr.refl w g nov av)
 have AD := asd (At.refl w.heap.size nov)
 have AA := asd (At.refl w.heap.size av)
 have hlen := asd hl
 have HF := asd hf
 clear h hl A1 hf
 go_enter Tryz.func62, Tryz.ntmps62
 go_wp2
 refine start_ (n := 29) (S := fun w' => w'.cell? ⟨g, 0, none⟩ = some (.int .i64 (s).id) ∧ w'.cell? ⟨g, 4, none⟩ = some (.int .i64 (s).op) ∧ w'.cell? ⟨g, 5, none⟩ = some (.int .i64 (s).od) ∧ w'.cell? ⟨g, 6, none⟩ = some (.int .i64 (s).orr)) (ds := []) (fb 29 0) (by kernel_rfl) rfl rfl ⟨H.out.c0, H.out.c4, H.out.c5, H.out.c6⟩ (fun hHeld => ?_)
 replace H := asd (H.out.drew)
 replace K := asd (K.out.drew)
 generalize (w).drew = wd1 at H K hHeld ⊢
 refine pi 0 4 29 1 ?_
 refine pi 1 5 29 3 ?_
 refine pi 2 6 29 7 ?_
 refine pi 3 7 29 15 ?_
 refine pi 4 8 29 31 ?_
 refine ti 5 9 29 63 hHeld ?_
 refine pi 6 10 29 127 ?_
 refine pi 7 11 29 255 ?_
 refine pi 8 12 29 511 ?_
 refine pi 9 13 29 1023 ?_
 refine ti 10 14 29 2047 hHeld ?_
 refine pi 11 15 29 4095 ?_
 refine pi 12 16 29 8191 ?_
 refine pi 13 17 29 16383 ?_
 refine pi 14 18 29 32767 ?_
 refine ti 15 19 29 65535 hHeld ?_
 refine pi 16 20 29 131071 ?_
 refine pi 17 21 29 262143 ?_
 refine pi 18 22 29 524287 ?_
 refine pi 19 23 29 1048575 ?_
 refine pi 20 24 29 2097151 ?_
 refine pi 21 25 29 4194303 ?_
 refine ti 22 26 29 8388607 hHeld ?_
 refine pi 24 28 29 25165823 ?_
 refine one_ (i := 23) (N := some 27) (fb 29 33554431) rfl rfl (by kernel_rfl) (by decide) (fun K_ hK_ => ?_)
 refine goesV_ Tryz.func83 (by kernel_rfl) rfl #[.int .u16 0, .int .i64 s.id] (by rfl) rfl rfl (by first | rfl | (simp; done) | (go_simp; done)) (by (try simp only [List.map_toArray, List.map_cons, List.map_nil]); first | done | rfl) ?_
 with_reducible refine (frame_With.calls 0 s.id me _ HA.out).mono ?_
 rintro e wx2 ⟨rfl, hb0⟩
 refine ⟨_, rfl, ?_⟩
 have hb := hb0.below
 clear hb0
 replace H := asd (H.out.below hb)
 replace K := asd (K.out.step hb)
 clear hb
 refine hK_.out _ _ ⟨H.out.c0, H.out.c4, H.out.c5, H.out.c6⟩ (fun hHeld => ?_)
 clear hK_ K_
 refine pi 25 29 29 67108863 ?_
 refine pi 26 30 29 134217727 ?_
 refine pi 27 31 29 268435455 ?_
 refine one_ (i := 28) (N := none) (fb 29 536870911) rfl rfl (by kernel_rfl) (by decide) (fun K_ hK_ => ?_)
 have hq0 := H.out.c0
 have hr0 := H.out.fz 0
 have hq1 := H.out.c1
 have hr1 := H.out.fz 1
 have hq2 := H.out.c2
 have hr2 := H.out.fz 2
 have hq3 := H.out.c3
 have hr3 := H.out.fz 3
 have hq4 := H.out.c4
 have hr4 := H.out.fz 4
 have hq5 := H.out.c5
 have hr5 := H.out.fz 5
 have hq6 := H.out.c6
 have hr6 := H.out.fz 6
 have hq7 := H.out.c7
 have hr7 := H.out.fz 7
 have hq8 := H.out.c8
 have hr8 := H.out.fz 8
 have hq9 := H.out.c9
 have hr9 := H.out.fz 9
 have hq10 := H.out.c10
 have hr10 := H.out.fz 10
 have hq11 := H.out.c11
 have hr11 := H.out.fz 11
 have hq12 := H.out.c12
 have hr12 := H.out.fz 12
 have hq13 := H.out.c13
 have hr13 := H.out.fz 13
 refine skip_ (w1 := ?_) (by rfl) rfl ?_ ?_
 rotate_left
 ·go_simp
  rfl
 have q_ := (((((((((((((((Wr.refl g wx2).set 0 (.int .i64 s.id)).set 1 (.int .i64 2)).set 2 (.int .u64 (IntKind.u64.wrap s.id))).set 3 (.int .i64 now)).set 4 (.int .i64 s.op)).set 5 (.int .i64 s.od)).set 6 (.int .i64 s.orr)).set 7 (.int .i64 0)).set 8 (.int .u16 me)).set 9 (.int .i64 1)).set 10 (.int .i64 0)).set 11 (.slice none 0 0)).set 12 (.bool false)).set 13 (.int .i64 0))
 replace H := asd (H.out.set14 { s with ph := 2, sl := (IntKind.u64.wrap s.id), st := now, co := 0, me := me, tg := 1, tb := 0, ds := [], se := false, ve := 0 } (.slice none 0 0) (Kd.R_nil _ _ _ _ _))
 replace K := asd (K.out.wr q_)
 clear q_ hq0 hr0 hq1 hr1 hq2 hr2 hq3 hr3 hq4 hr4 hq5 hr5 hq6 hr6 hq7 hr7 hq8 hr8 hq9 hr9 hq10 hr10 hq11 hr11 hq12 hr12 hq13 hr13
 generalize ((((((((((((((wx2.setCell ⟨g, 0, none⟩ (.int .i64 s.id)).setCell ⟨g, 1, none⟩ (.int .i64 2)).setCell ⟨g, 2, none⟩ (.int .u64 (IntKind.u64.wrap s.id))).setCell ⟨g, 3, none⟩ (.int .i64 now)).setCell ⟨g, 4, none⟩ (.int .i64 s.op)).setCell ⟨g, 5, none⟩ (.int .i64 s.od)).setCell ⟨g, 6, none⟩ (.int .i64 s.orr)).setCell ⟨g, 7, none⟩ (.int .i64 0)).setCell ⟨g, 8, none⟩ (.int .u16 me)).setCell ⟨g, 9, none⟩ (.int .i64 1)).setCell ⟨g, 10, none⟩ (.int .i64 0)).setCell ⟨g, 11, none⟩ (.slice none 0 0)).setCell ⟨g, 12, none⟩ (.bool false)).setCell ⟨g, 13, none⟩ (.int .i64 0)) = wy3 at H K ⊢
 refine hK_.out _ _ ⟨H.out.c0, H.out.c4, H.out.c5, H.out.c6⟩ (fun hHeld => ?_)
 clear hK_ K_
 refine done_ (by kernel_rfl) ?_
 go_wp2_with (first | ((with_reducible refine gate_callee (f := 53) rfl ?_); refine gC (some 33) Tryz.func53 (node_note.calls g { s with ph := 2, sl := (IntKind.u64.wrap s.id), st := now, co := 0, me := me, tg := 1, tb := 0, ds := [], se := false, ve := 0 } nov av 2 0 w0 _ H.out (by have := hlen.out; show s.ac.length ≤ 1000000; omega)) ?_; rintro e wx4 ⟨rfl, ⟨v2_wx4, hs, hat⟩, hk⟩; refine ⟨_, rfl, ?_⟩; have nK := asd (K.out.trans AD.out AA.out hk.wideD); have nAA := asd (AA.out.trans K.out.1 hat); have nH := asd (hs); clear K AA H; have K := nK; have AA := nAA; have H := nH; clear nK nAA nH hs hat hk; have hc16 : wx4.cell? ⟨g, 16, none⟩ = some (.int .i64 (s).m2) := (by have q := H.out.c16; (try simp only [Rs.fls] at q); exact q); have hf16 := H.out.fz 16) | ((with_reducible refine gate_callee (f := 54) rfl ?_); refine gC (some 40) Tryz.func54 (node_timer.calls k g { { s with ph := 2, sl := (IntKind.u64.wrap s.id), st := now, co := 0, me := me, tg := 1, tb := 0, ds := [], se := false, ve := 0 } with ac := s.ac ++ [⟨3, 0, z43, 2, 0⟩] } s2 nov _ s.m2 w0 _ H.out (by have := hlen.out; show (s.ac ++ [_]).length ≤ 1000000; simp only [List.length_append, List.length_singleton]; omega) HF.out) ?_; rintro e wx5 ⟨rfl, ⟨v2_wx5, hs, hat⟩, hk⟩; refine ⟨_, rfl, ?_⟩; have nK := asd (K.out.trans AD.out AA.out hk.wideD); have nAA := asd (AA.out.trans K.out.1 hat); have nH := asd (hs); clear K AA H; have K := nK; have AA := nAA; have H := nH; clear nK nAA nH hs hat hk hc16 hf16; have hc16 : wx5.cell? ⟨g, 16, none⟩ = some (.int .i64 (s2).m2) := (by have q := H.out.c16; (try simp only [Rs.fls] at q); exact q); have hf16 := H.out.fz 16))
 first | go_end0 | go_ret | ((try simp only [Exit.inBlock, Exit.then]); refine bodyPost_ret (results_none rfl _ _ _) rfl ?_)
 exact ⟨rfl, ⟨_, H.out, AA.out⟩, K.out⟩

theorem sliceV_ {P : Program} {ops : Array Oper} {Q : Exit → Act → World → Prop} {oi : Oper} {N : Tmp} {a : Act} {W : World} {K : Act → World → Prop} {cs : Array Value} {t : TypeId} (hw : Region.wanted oi (yielded ops a.tmps) = true) (hN : oi.dst = some N)
  (hrun : (execOp a.eval oi).run P W = .ok (.value (.slice (some ⟨W.heap.size, 0, none⟩) 1 1)) (W.alloc (.cells cs t (0, 0))))
  (h : K (a.put (some N) (.slice (some ⟨W.heap.size, 0, none⟩) 1 1)) (W.alloc (.cells cs t (0, 0)))) : if Region.wanted oi (yielded ops a.tmps) = true then Oper.wp P oi a W K Q else K (a.put (some N) undef) W :=
 value_ hw hN hrun h
theorem boxK_ {P : Program} {ops : Array Oper} {Q : Exit → Act → World → Prop} {oi : Oper} {N : Tmp} {a : Act} {W : World} {K : Act → World → Prop} {cs : Array Value} {t : TypeId} (hw : Region.wanted oi (yielded ops a.tmps) = true) (hN : oi.dst = some N)
  (hrun : (execOp a.eval oi).run P W = .ok (.value (.pointer (some ⟨W.heap.size, 0, none⟩))) (W.alloc (.cells cs t (0, 0))))
  (h : ∀ g, g = W.heap.size → ∀ w1, w1.heap[g]? = some (.cells cs t (0, 0)) → Below W.heap.size W w1 → K (a.put (some N) (.pointer (some ⟨g, 0, none⟩))) w1) : if Region.wanted oi (yielded ops a.tmps) = true then Oper.wp P oi a W K Q else K (a.put (some N) undef) W :=
 value_ hw hN hrun (h _ rfl _ (blk_new W _) (below_alloc (Below.refl _ _) _))
theorem node_long.calls (g : Nat) (s : Rs) (dv av : Value) (w0 w : World) (h : RSt w0 w g s dv av) :
  Calls Tryz.prog 100 #[.pointer (some ⟨g, 0, none⟩)] w fun r w' => r = .returned (.int .i64 (wrap64 (s.m1 + s.co))) ∧ RSt w0 w' g s dv av ∧ Kr w w' g nov nov := by
 have H := asd h
 have hc15 := h.c15
 have hc7 := h.c7
 clear h
 go_enter Tryz.func100, Tryz.ntmps100
 go_wp2
 go_region
 go_wp2
 first | go_ret | ((try simp only [Exit.inBlock, Exit.then]); refine bodyPost_ret (results_tmp rfl _ _ _) rfl ?_)
 exact ⟨rfl, H.out.drew, (Kr.refl w g nov nov).drew⟩

/-- What is sent in its own slot. -/
def node_sends.f (k : Nat) (s : Rs) : Option Rs := (frame_With.f s.me s.id).bind fun me => (some { s with se := true, me := me }).bind fun u => (frame_Count.f u.me).bind fun n =>
 node_timer.f k { u with ac := (u.ac ++ [⟨2, 0, ⟨if n = 1 then 2 else 1, u.id, u.sl, u.me⟩, 0, 0⟩]) ++ [⟨3, 0, z43, 10, wrap64 u.sl⟩] } (wrap64 (u.m1 + u.co))
theorem node_sends.calls (k g : Nat) (s s2 : Rs) (dv av : Value) (w0 w : World) (h : RSt w0 w g s dv av) (hl : s.ac.length ≤ 900000) (hf : node_sends.f k s = some s2) :
  Calls Tryz.prog 63 #[.pointer (some ⟨g, 0, none⟩)] w fun e w' => e = .returned (.tuple #[]) ∧ (∃ dv' av', RSt w0 w' g s2 dv' av') ∧ Kr w w' g dv av := by
 unfold node_sends.f at hf
 obtain ⟨me, A1, hf⟩ := Option.bind_eq_some_iff.mp hf
 obtain ⟨u, A2, hf⟩ := Option.bind_eq_some_iff.mp hf
 obtain ⟨n, A3, hf⟩ := Option.bind_eq_some_iff.mp hf
 have HA1 := asd A1
 have HU := asd A2
 have HN := asd A3
 have hau := asd (show u.ac = s.ac from by rw [← Option.some.inj A2])
 have HF0 := asd hf
 have hlen := asd hl
 have W0 := asd h.bel
 have H := asd h
 have K := asd (Kr.refl w g dv av)
 have AD := asd (At.refl w.heap.size dv)
 have AA := asd (At.refl w.heap.size av)
 clear h A1 A2 A3 hf hl
 go_enter Tryz.func63, Tryz.ntmps63
 go_wp2
 refine start_ (n := 21) (S := fun w' => w'.cell? ⟨g, 8, none⟩ = some (.int .u16 (s).me) ∧ w'.cell? ⟨g, 0, none⟩ = some (.int .i64 (s).id)) (ds := [16, 20]) (fb 21 0) (by kernel_rfl) rfl rfl ⟨H.out.c8, H.out.c0⟩ (fun hHeld => ?_)
 replace H := asd (H.out.drew)
 replace K := asd (K.out.drew)
 generalize (w).drew = wd1 at H K hHeld ⊢
 refine pi 0 3 21 1 ?_
 refine pi 1 4 21 3 ?_
 refine pi 2 5 21 7 ?_
 refine pi 3 6 21 15 ?_
 refine pi 4 7 21 31 ?_
 refine pi 5 8 21 63 ?_
 refine ti 6 9 21 127 hHeld ?_
 refine pi 7 10 21 255 ?_
 refine pi 8 11 21 511 ?_
 refine pi 9 12 21 1023 ?_
 refine pi 10 13 21 2047 ?_
 refine ti 11 14 21 4095 hHeld ?_
 refine one_ (i := 12) (N := some 15) (fb 21 8191) rfl rfl (by kernel_rfl) (by decide) (fun K_ hK_ => ?_)
 refine goesV_ Tryz.func83 (by kernel_rfl) rfl #[.int .u16 (s).me, .int .i64 (s).id] (by rfl) rfl rfl (by first | rfl | (simp; done) | (go_simp; done)) (by (try simp only [List.map_toArray, List.map_cons, List.map_nil]); first | done | rfl) ?_
 with_reducible refine (frame_With.calls s.me s.id me _ HA1.out).mono ?_
 rintro e wx2 ⟨rfl, hb0⟩
 refine ⟨_, rfl, ?_⟩
 have hb := hb0.below
 clear hb0
 replace H := asd (H.out.below hb)
 replace K := asd (K.out.step hb)
 clear hb
 refine hK_.out _ _ ⟨H.out.c8, H.out.c0⟩ (fun hHeld => ?_)
 clear hK_ K_
 refine pi 13 16 21 16383 ?_
 refine pi 14 17 21 32767 ?_
 refine pi 15 18 21 65535 ?_
 refine last_ (i := 16) (N := none) (fb 21 131071) rfl rfl (by kernel_rfl) (by decide) (fun K_ hK_ => ?_)
 have hq12 := H.out.c12
 have hr12 := H.out.fz 12
 refine skip_ (w1 := ?_) (by rfl) rfl ?_ ?_
 rotate_left
 ·go_simp
  rfl
 have q_ := ((Wr.refl g wx2).set 12 (.bool true))
 replace H := asd ((H.out.s12 (true)))
 replace K := asd ((K.out.setG 12 (.bool true)))
 clear q_ hq12 hr12
 replace H := asd (show RSt w0 ((wx2.setCell ⟨g, 12, none⟩ (.bool true))) g ({ s with se := true } : Rs) (dv) (av) from H.out)
 generalize (wx2.setCell ⟨g, 12, none⟩ (.bool true)) = wy3 at H K ⊢
 refine hK_.out _ _ ?_
 clear hK_ K_
 refine pi 17 19 21 262143 ?_
 refine pi 18 20 21 524287 ?_
 refine pi 19 21 21 1048575 ?_
 refine last_ (i := 20) (N := none) (fb 21 2097151) rfl rfl (by kernel_rfl) (by decide) (fun K_ hK_ => ?_)
 have hq8 := H.out.c8
 have hr8 := H.out.fz 8
 refine skip_ (w1 := ?_) (by rfl) rfl ?_ ?_
 rotate_left
 ·go_simp
  rfl
 have q_ := ((Wr.refl g wy3).set 8 (.int .u16 me))
 replace H := asd ((H.out.s8 (me)))
 replace K := asd ((K.out.setG 8 (.int .u16 me)))
 clear q_ hq8 hr8
 replace H := asd (show RSt w0 ((wy3.setCell ⟨g, 8, none⟩ (.int .u16 me))) g ({ s with se := true, me := me } : Rs) (dv) (av) from H.out)
 generalize (wy3.setCell ⟨g, 8, none⟩ (.int .u16 me)) = wy4 at H K ⊢
 refine hK_.out _ _ ?_
 clear hK_ K_
 refine done_ (by kernel_rfl) ?_
 replace H := asd (show RSt w0 wy4 g u (dv) (av) from by have q := H.out; have e_ := Option.some.inj HU.out; rw [← e_]; exact q)
 go_upto_region 1 with (fail)
 refine start_ (n := 18) (S := fun w' => w'.cell? ⟨g, 0, none⟩ = some (.int .i64 (u).id) ∧ w'.cell? ⟨g, 2, none⟩ = some (.int .u64 (u).sl) ∧ w'.cell? ⟨g, 8, none⟩ = some (.int .u16 (u).me)) (ds := []) (fb 18 0) (by kernel_rfl) rfl rfl ⟨H.out.c0, H.out.c2, H.out.c8⟩ (fun hHeld => ?_)
 replace H := asd (H.out.drew)
 replace K := asd (K.out.drew)
 generalize (wy4).drew = wd5 at H K hHeld ⊢
 refine pi 0 22 18 1 ?_
 refine pi 1 23 18 3 ?_
 refine pi 2 24 18 7 ?_
 refine pi 3 25 18 15 ?_
 refine ti 4 26 18 31 hHeld ?_
 refine pi 5 27 18 63 ?_
 refine pi 6 28 18 127 ?_
 refine pi 7 29 18 255 ?_
 refine pi 8 30 18 511 ?_
 refine ti 9 31 18 1023 hHeld ?_
 refine pi 10 32 18 2047 ?_
 refine pi 11 33 18 4095 ?_
 refine pi 12 34 18 8191 ?_
 refine pi 13 35 18 16383 ?_
 refine ti 14 36 18 32767 hHeld ?_
 refine pi 15 37 18 65535 ?_
 refine one_ (i := 16) (N := some 2) (fb 18 131071) rfl rfl (by kernel_rfl) (by decide) (fun K_ hK_ => ?_)
 refine boxK_ (N := 2) (cs := #[.int .i64 0, .int .i64 0, .int .u64 0, .int .u16 0]) (t := 43) (by rfl) rfl ?hr ?_
 (case hr => first | (go_simp; done) | (go_simp; rfl))
 intro gb2 hg wx6 hbox hb
 have G2 := asd (by rw [hg]; exact K.out.1 : w.heap.size ≤ gb2)
 have N2_g := asd (by rw [hg]; exact Nat.ne_of_gt (blk_lt H.out.b) : gb2 ≠ g)
 replace H := asd (H.out.below hb)
 replace K := asd (K.out.step hb)
 have B2 := asd hbox
 clear hb hbox hg
 refine hK_.out _ _ ⟨H.out.c0, H.out.c2, H.out.c8⟩ (fun hHeld => ?_)
 clear hK_ K_
 refine one_ (i := 17) (N := none) (fb 18 262143) rfl rfl (by kernel_rfl) (by decide) (fun K_ hK_ => ?_)
 have hq0 : wx6.cell? ⟨gb2, 0, none⟩ = some (.int .i64 0) := (blk_cell B2.out 0).trans rfl
 have hr0 := blk_frozen B2.out 0
 have hq1 : wx6.cell? ⟨gb2, 1, none⟩ = some (.int .i64 0) := (blk_cell B2.out 1).trans rfl
 have hr1 := blk_frozen B2.out 1
 have hq2 : wx6.cell? ⟨gb2, 2, none⟩ = some (.int .u64 0) := (blk_cell B2.out 2).trans rfl
 have hr2 := blk_frozen B2.out 2
 have hq3 : wx6.cell? ⟨gb2, 3, none⟩ = some (.int .u16 0) := (blk_cell B2.out 3).trans rfl
 have hr3 := blk_frozen B2.out 3
 refine skip_ (w1 := ?_) (by rfl) rfl ?_ ?_
 rotate_left
 ·go_simp
  rfl
 have q_ := (((((Wr.refl gb2 wx6).set 0 (.int .i64 1)).set 1 (.int .i64 (u).id)).set 2 (.int .u64 (u).sl)).set 3 (.int .u16 (u).me))
 replace H := asd (q_.run B2.out (by decide) (by decide) (by decide) (Nat.le_trans W0.out.size G2.out) H.out)
 replace B2 := asd (show (World.heap _)[gb2]? = some (Obj.cells #[.int .i64 1, .int .i64 (u).id, .int .u64 (u).sl, .int .u16 (u).me] 43 (0, 0)) from (blk_put (cs := #[.int .i64 1, .int .i64 (u).id, .int .u64 (u).sl, .int .u16 0]) (blk_put (cs := #[.int .i64 1, .int .i64 (u).id, .int .u64 0, .int .u16 0]) (blk_put (cs := #[.int .i64 1, .int .i64 0, .int .u64 0, .int .u16 0]) (blk_put (cs := #[.int .i64 0, .int .i64 0, .int .u64 0, .int .u16 0]) B2.out 0 (.int .i64 1) rfl) 1 (.int .i64 (u).id) rfl) 2 (.int .u64 (u).sl) rfl) 3 (.int .u16 (u).me) rfl))
 replace K := asd (K.out.wrNew q_ G2.out)
 clear q_ hq0 hr0 hq1 hr1 hq2 hr2 hq3 hr3
 generalize ((((wx6.setCell ⟨gb2, 0, none⟩ (.int .i64 1)).setCell ⟨gb2, 1, none⟩ (.int .i64 (u).id)).setCell ⟨gb2, 2, none⟩ (.int .u64 (u).sl)).setCell ⟨gb2, 3, none⟩ (.int .u16 (u).me)) = wy7 at B2 H K ⊢
 refine hK_.out _ _ ⟨H.out.c0, H.out.c2, H.out.c8⟩ (fun hHeld => ?_)
 clear hK_ K_
 refine done_ (by kernel_rfl) ?_
 have hc8 : wy7.cell? ⟨g, 8, none⟩ = some (.int .u16 (u).me) := (by have q := H.out.c8; (try simp only [Rs.fls] at q); exact q)
 have hf8 := H.out.fz 8
 have hb2 := ca4 B2
 go_upto_if 44 with (first | ((with_reducible refine gate_callee (f := 99) rfl ?_); refine gC (some 43) Tryz.func99 (frame_Count.calls (u).me n _ HN.out) ?_; rintro e wx8 ⟨rfl, hb0⟩; refine ⟨_, rfl, ?_⟩; have hb := hb0.below; clear hb0; replace B2 := asd (blk_below B2.out hb); replace H := asd (H.out.below hb); replace K := asd (K.out.step hb); clear hb hc8 hf8 hb2; have hc8 : wx8.cell? ⟨g, 8, none⟩ = some (.int .u16 (u).me) := (by have q := H.out.c8; (try simp only [Rs.fls] at q); exact q); have hf8 := H.out.fz 8; have hb2 := ca4 B2))
 (try simp only [Act.put, List.setIfInBounds_toArray, List.set_cons_zero, List.set_cons_succ])
 go_cut [] (fun wc => ∃ kd : Int, Aside0 (kd = if n = 1 then 2 else 1) ∧ Aside0 (RSt w0 wc g u dv av) ∧ Aside0 (Kr w wc g dv av) ∧ Aside0 (wc.heap[gb2]? = some (.cells #[.int .i64 kd, .int .i64 (u).id, .int .u64 (u).sl, .int .u16 (u).me] 43 (0, 0))))
 case first =>
  by_cases c1 : n = 1
  ·have c1a : (n == 1) = true := beq_iff_eq.mpr c1
   go_wp2
   have q_ := ((Wr.refl gb2 wx8).set 0 (.int .i64 2))
   replace H := asd (q_.run B2.out (by decide) (by decide) (by decide) (Nat.le_trans W0.out.size G2.out) H.out)
   replace B2 := asd (show (World.heap _)[gb2]? = some (Obj.cells #[.int .i64 2, .int .i64 (u).id, .int .u64 (u).sl, .int .u16 (u).me] 43 (0, 0)) from (blk_put (cs := #[.int .i64 1, .int .i64 (u).id, .int .u64 (u).sl, .int .u16 (u).me]) B2.out 0 (.int .i64 2) rfl))
   replace K := asd (K.out.wrNew q_ G2.out)
   clear q_
   go_meet
   case rel => exact ⟨2, ⟨by rw [if_pos c1]⟩, H, K, B2⟩
  have c1a : (n == 1) = false := beq_eq_false_iff_ne.mpr c1
  go_wp2
  go_meet
  case rel => exact ⟨1, ⟨by rw [if_neg c1]⟩, H, K, B2⟩
 case rest =>
  clear H K B2
  obtain ⟨kd, hkd, H, K, B2⟩ := hcut
  have HF := asd (show node_timer.f k { u with ac := (u.ac ++ [(⟨2, 0, ⟨kd, (u).id, (u).sl, (u).me⟩, 0, 0⟩ : S66)]) ++ [⟨3, 0, z43, 10, wrap64 u.sl⟩] } (wrap64 (u.m1 + u.co)) = some s2 from by rw [hkd.out]; exact HF0.out)
  obtain ⟨Aa, ca, eav⟩ := Kd.R_slice H.out.a
  subst eav
  have hu38 := Tryz.underlying38
  go_upto_region 4 with (fail)
  refine start_ (n := 12) (S := fun w' => w'.cell? ⟨g, 19, none⟩ = some (.slice Aa (u).ac.length ca) ∧ w'.cell? ⟨gb2, 0, none⟩ = some (.int .i64 kd) ∧ w'.cell? ⟨gb2, 1, none⟩ = some (.int .i64 (u).id) ∧ w'.cell? ⟨gb2, 2, none⟩ = some (.int .u64 (u).sl) ∧ w'.cell? ⟨gb2, 3, none⟩ = some (.int .u16 (u).me)) (ds := [11]) (fb 12 0) (by kernel_rfl) rfl rfl ⟨H.out.c19, (blk_cell B2.out 0).trans rfl, (blk_cell B2.out 1).trans rfl, (blk_cell B2.out 2).trans rfl, (blk_cell B2.out 3).trans rfl⟩ (fun hHeld => ?_)
  replace B2 := asd (blk_drew B2.out)
  replace H := asd (H.out.drew)
  replace K := asd (K.out.drew)
  generalize (wc).drew = wd29 at B2 H K hHeld ⊢
  refine pi 0 46 12 1 ?_
  refine pi 1 47 12 3 ?_
  refine pi 2 48 12 7 ?_
  refine pi 3 49 12 15 ?_
  refine ti 4 50 12 31 hHeld ?_
  refine ti 5 51 12 63 hHeld ?_
  refine pi 6 52 12 127 ?_
  refine one_ (i := 7) (N := some 53) (fb 12 255) rfl rfl (by kernel_rfl) (by decide) (fun K_ hK_ => ?_)
  refine sliceV_ (N := 53) (cs := #[.int .i64 2, .int .i64 0, .int .i64 kd, .int .i64 (u).id, .int .u64 (u).sl, .int .u16 (u).me, .int .i64 0, .int .i64 0]) (t := 66) (by rfl) rfl (by first | (go_simp; done) | (go_simp; rfl)) ?_
  refine hK_.out _ _ ⟨(blk_cell (blk_alloc H.out.b _) 19).trans rfl, (blk_cell (blk_alloc B2.out _) 0).trans rfl, (blk_cell (blk_alloc B2.out _) 1).trans rfl, (blk_cell (blk_alloc B2.out _) 2).trans rfl, (blk_cell (blk_alloc B2.out _) 3).trans rfl⟩ (fun hHeld => ?_)
  clear hK_ K_
  refine one_ (i := 8) (N := some 54) (fb 12 511) rfl rfl (by kernel_rfl) (by decide) (fun K_ hK_ => ?_)
  refine Kd.R_append_step k66 (w0 := w0) w0.heap.size (by rfl) (.tmp 50) (.tmp 53) 38 66 (.agg #[.int .i64 0, .int .i64 0, .int .i64 0, .int .i64 0, .int .u64 0, .int .u16 0, .int .i64 0, .int .i64 0]) 64 rfl Tryz.underlying38 info66 rfl (by decide) (by omega) (.slice Aa (u).ac.length ca) (u).ac (⟨2, 0, ⟨kd, (u).id, (u).sl, (u).me⟩, 0, 0⟩ : S66) [.int .i64 2, .int .i64 0, .int .i64 kd, .int .i64 (u).id, .int .u64 (u).sl, .int .u16 (u).me, .int .i64 0, .int .i64 0] (fun _ => True) (fun _ => False) rfl ?hx ?aP (fun _ hk => hk.elim) ?aF ?aO ?aB ?aS ?aL ?_
  (case hx => first | rfl | (simp only [size_set]; rfl))
  (case aP => exact k66_mkM _ _ _ (⟨2, 0, ⟨kd, (u).id, (u).sl, (u).me⟩, 0, 0⟩ : S66))
  (case aB => exact H.out.bel)
  (case aF => exact fun _ _ => trivial)
  (case aO => exact H.out.a)
  (case aS => exact below_size H.out.bel)
  (case aL => have := hlen.out; have := hau.out; rw [this] at *; omega)
  intro v2 wx30 ho hb hg hat
  obtain ⟨A2, c2, e2⟩ : ∃ A c, v2 = .slice A ((u).ac.length + 1) c := by obtain ⟨A, c, e⟩ := Kd.R_slice ho; exact ⟨A, c, by rw [e, List.length_append, List.length_singleton]⟩
  subst e2
  have HB1 := asd (blk_grown H.out.b hg (Kd.R_ne H.out.a H.out.b (by decide)))
  have HD1 := asd (Kd.R_over' H.out.d (Kd.R_typed H.out.a) (by decide) hg)
  have HA2 := asd ho
  have HL1 := asd hb
  have GE1 := asd H.out.ge
  have nK := asd (K.out.trans AD.out AA.out (Kr.grownA hg g nov).wideD)
  have nAA := asd (AA.out.trans K.out.1 hat)
  have nB2 := asd (blk_grown B2.out hg (Kd.R_ne H.out.a B2.out (by decide)))
  clear ho hb hg hat K AA B2 H
  have K := nK
  have AA := nAA
  have B2 := nB2
  clear nK nAA nB2
  refine hK_.out _ _ ⟨(blk_cell HB1.out 19).trans rfl, (blk_cell B2.out 0).trans rfl, (blk_cell B2.out 1).trans rfl, (blk_cell B2.out 2).trans rfl, (blk_cell B2.out 3).trans rfl⟩ (fun hHeld => ?_)
  clear hK_ K_
  refine pi 9 55 12 1023 ?_
  refine pi 10 56 12 2047 ?_
  refine last_ (i := 11) (N := none) (fb 12 4095) rfl rfl (by kernel_rfl) (by decide) (fun K_ hK_ => ?_)
  have hq19 := (blk_cell HB1.out 19).trans rfl
  have hr19 := blk_frozen HB1.out 19
  refine skip_ (w1 := ?_) (by rfl) rfl ?_ ?_
  rotate_left
  ·go_simp
   rfl
  have H := asd (⟨blk_set HB1.out 19 _, Kd.R_set HD1.out HB1.out (by decide) 19 _, Kd.R_set HA2.out HB1.out (by decide) 19 _, HL1.out.setCell GE1.out _, GE1.out⟩ : RSt w0 (wx30.setCell ⟨g, 19, none⟩ (.slice A2 ((u).ac.length + 1) c2)) g { u with ac := u.ac ++ [(⟨2, 0, ⟨kd, (u).id, (u).sl, (u).me⟩, 0, 0⟩ : S66)] } dv (.slice A2 ((u).ac.length + 1) c2))
  have nK := asd (K.out.setG 19 (.slice A2 ((u).ac.length + 1) c2))
  clear K HB1 HD1 HA2 HL1 GE1 hq19 hr19 B2 N2_g G2
  have K := nK
  clear nK
  generalize wx30.setCell ⟨g, 19, none⟩ (.slice A2 ((u).ac.length + 1) c2) = wy31 at H K ⊢
  refine hK_.out _ _ ?_
  clear hK_ K_
  refine done_ (by kernel_rfl) ?_
  have hc2 : wy31.cell? ⟨g, 2, none⟩ = some (.int .u64 (u).sl) := H.out.c2
  go_wp2_with (first | ((with_reducible refine gate_callee (f := 53) rfl ?_); refine gC (some 64) Tryz.func53 (node_note.calls g _ dv _ 10 (wrap64 (u).sl) w0 _ H.out (by have := hlen.out; have := hau.out; show (u.ac ++ [_]).length ≤ 1000000; simp only [List.length_append, List.length_singleton]; rw [this]; omega)) ?_; rintro e wx32 ⟨rfl, ⟨v2_wx32, hs, hat⟩, hk⟩; refine ⟨_, rfl, ?_⟩; have nK := asd (K.out.trans AD.out AA.out hk.wideD); have nAA := asd (AA.out.trans K.out.1 hat); have nH := asd (hs); clear K AA H; have K := nK; have AA := nAA; have H := nH; clear nK nAA nH hs hat hk) | ((with_reducible refine gate_callee (f := 100) rfl ?_); refine gC (some 67) Tryz.func100 (node_long.calls g { u with ac := (u.ac ++ [(⟨2, 0, ⟨kd, (u).id, (u).sl, (u).me⟩, 0, 0⟩ : S66)]) ++ [⟨3, 0, z43, 10, wrap64 u.sl⟩] } dv _ w0 _ H.out) ?_; rintro e wx33 ⟨rfl, hs, hk⟩; refine ⟨_, rfl, ?_⟩; replace K := asd (K.out.thenG hk); replace H := asd (hs); clear hs hk) | ((with_reducible refine gate_callee (f := 54) rfl ?_); refine gC (some 68) Tryz.func54 (node_timer.calls k g { u with ac := (u.ac ++ [(⟨2, 0, ⟨kd, (u).id, (u).sl, (u).me⟩, 0, 0⟩ : S66)]) ++ [⟨3, 0, z43, 10, wrap64 u.sl⟩] } s2 dv _ (wrap64 (u.m1 + u.co)) w0 _ H.out (by have := hlen.out; have := hau.out; show ((u.ac ++ [_]) ++ [_]).length ≤ 1000000; simp only [List.length_append, List.length_singleton]; rw [this]; omega) HF.out) ?_; rintro e wx34 ⟨rfl, ⟨v2_wx34, hs, hat⟩, hk⟩; refine ⟨_, rfl, ?_⟩; have nK := asd (K.out.trans AD.out AA.out hk.wideD); have nAA := asd (AA.out.trans K.out.1 hat); have nH := asd (hs); clear K AA H; have K := nK; have AA := nAA; have H := nH; clear nK nAA nH hs hat hk))
  first | go_end0 | go_ret | ((try simp only [Exit.inBlock, Exit.then]); refine bodyPost_ret (results_none rfl _ _ _) rfl ?_)
  exact ⟨rfl, ⟨_, _, H.out⟩, K.out⟩

theorem node_owner.calls (g : Nat) (s : Rs) (dv av : Value) (n e : Int) (w0 w : World) (h : RSt w0 w g s dv av) (hf : medl_Owner.f s.m0 s.m1 s.m2 s.m3 s.m4 s.sl = some (n, e)) :
  Calls Tryz.prog 40 #[.pointer (some ⟨g, 0, none⟩)] w fun r w' => r = .returned (.int .i64 n) ∧ RSt w0 w' g (s.fl e) dv av ∧ Kr w w' g nov nov := by
 have H := asd h
 have HA := asd hf
 have hc14 := h.c14
 have hc15 := h.c15
 have hc16 := h.c16
 have hc17 := h.c17
 have hc18 := h.c18
 have hc2 := h.c2
 clear h hf
 go_enter Tryz.func40, Tryz.ntmps40
 go_wp2
 go_region_with (first | (go_at_call 16; (refine (medl_Owner.calls s.m0 s.m1 s.m2 s.m3 s.m4 s.sl n e _ HA.out).mono ?_); rintro r w1 ⟨rfl, hb⟩; have HB := asd hb; clear hb))
 all_goals (
  have H1 := asd (H.out.drew.below HB.out)
  have K1 := asd ((Kr.refl w g nov nov).drew.step HB.out)
  go_wp2_with (first | ((with_reducible refine gate_callee (f := 81) rfl ?_); refine gC (some 20) Tryz.func81 (node_fail.calls g s dv av e w0 _ H1.out) ?_; rintro r2 w2 ⟨rfl, hs, hk⟩; refine ⟨_, rfl, ?_⟩; have H2 := asd hs; have K2 := asd (K1.out.thenG hk); clear hs hk))
  go_ret
  exact ⟨rfl, H2.out, K2.out⟩)

theorem RSt.noDs {w0 wi : World} {g : Nat} {s : Rs} {dv av : Value} (h : RSt w0 wi g s dv av) : RSt w0 (wi.setCell ⟨g, 11, none⟩ nov) g { s with ds := [] } nov av := ⟨blk_set h.b 11 _, Kd.R_set (Kd.R_nil _ _ _ _ _) h.b (by decide) 11 _, Kd.R_set h.a h.b (by decide) 11 _, h.bel.setCell h.ge _, h.ge⟩
theorem Rs.dev_ac (s : Rs) (t : Int) : (s.dev t).ac = s.ac := by
 unfold Rs.dev
 split <;> rfl
/-- Was there no frame of a member? -/
def node_ends.b (s : Rs) (o : Int) : Option Bool := if o = s.id then some false else if s.ve = 0 then frame_Has.f s.me o else some false
/-- Behind the last slot of a round. -/
def node_ends.c (s : Rs) (last : Bool) : Option Rs := if last = true then (fta_Correct.f s.m4 s.ds).bind fun c => (some (s.fl c.2)).bind fun u => some { u with co := c.1, ds := [], ac := u.ac ++ [⟨3, 0, z43, 8, c.1⟩] } else some s
/-- The next slot. -/
def node_ends.d (k : Nat) (s : Rs) : Option Rs := (medl_Owner.f s.m0 s.m1 s.m2 s.m3 s.m4 s.sl).bind fun o => (some (s.fl o.2)).bind fun u => if o.1 = s.id then (member_Clique.f u.tg u.tb).bind fun q => if q = true then some { u with ph := 3, ac := u.ac ++ [⟨3, 0, z43, 9, 0⟩] } else node_timer.f k { u with tg := 1, tb := 0 } u.m2 else node_timer.f k u (wrap64 (u.m1 + u.co))
/-- A slot's end: the next one begins. -/
def node_ends.r (k : Nat) (me : Int) (last : Bool) (s5 : Rs) (t p d r : Int) : Option Rs := if s5.sl = 4294967296 then some (s5.fl 2) else
 (some { s5 with me := me, st := t, op := p, od := d, orr := r, sl := IntKind.u64.wrap (s5.sl + 1), co := 0, se := false, ve := 0 }).bind fun s6 => (node_ends.c s6 last).bind fun s7 => node_ends.d k s7
/-- A slot's end. -/
def node_ends.f (k : Nat) (s : Rs) : Option Rs := (medl_Owner.f s.m0 s.m1 s.m2 s.m3 s.m4 s.sl).bind fun o => (some (s.fl o.2)).bind fun s0 => (node_ends.b s0 o.1).bind fun b => (some (if b = true then { s0 with ac := s0.ac ++ [⟨3, 0, z43, 4, o.1⟩] } else s0)).bind fun s1 =>
 (member_After.f s1.m0 s1.m1 s1.m2 s1.m3 s1.m4 s1.id s1.me s1.sl s1.ve).bind fun a => (some (s1.fl a.2)).bind fun s2 => (medl_Last.f s2.m0 s2.m1 s2.m2 s2.m3 s2.m4 s2.sl).bind fun l => (some (s2.fl l.2)).bind fun s3 => (some (if o.1 = s3.id then s3.dev 0 else s3)).bind fun s4 =>
 (node_at.f k s4 (wrap64 (s4.m1 + s4.co))).bind fun t => node_ends.r k a.1 l.1 t.2.2.2.2 t.1 t.2.1 t.2.2.1 t.2.2.2.1
noncomputable def node_ends.code : Code := Tryz.f64.body.getD .skip
noncomputable def snd_ : Code → Code
 | .seq _ b => b
 | c => c
noncomputable def node_ends.tl0 : Code := snd_ (snd_ node_ends.code)
noncomputable def node_ends.tl1 : Code := snd_ (snd_ (snd_ (snd_ (snd_ node_ends.tl0))))
noncomputable def node_ends.tl2 : Code := snd_ (snd_ (snd_ (snd_ (snd_ node_ends.tl1))))
theorem node_ends.tail2 (k g : Nat) (s7 s9 : Rs) (dv av dv2 av2 : Value) (w0 w wc : World) {u1 u2 u3 u4 u5 u6 u7 u8 u9 u10 u11 u12 u13 u14 u15 u16 u17 u18 u19 u20 u21 u22 u23 u24 u25 u26 u27 u28 u29 u30 u31 u32 u33 u34 u35 u36 u37 u38 u39 u40 u41 u42 u43 u44 u45 u46 u47 u48 u49 u50 u51 u52 u53 u54 u55 u56 u57 u58 u59 u60 u61 u62 u63 u64 u65 u66 u67 u68 u69 u70 u71 u72 u73 u74 u75 u76 u77 u78 u79 u80 u81 u82 u83 u84 u85 u86 u87 u88 u89 u90 u91 u92 u93 u94 u95 u96 u97 u98 u99 u100 u101 u102 u103 u104 u105 u106 u107 u108 u109 u110 u111 u112 u113 u114 u115 u116 u117 u118 u119 u120 u121 u122 u123 u124 u125 u126 u127 u128 u129 u130 u131 u132 u133 u134 u135 u136 u137 u138 u139 u140 u141 u142 u143 u144 u145 u146 u147 u148 u149 u150 u151 u152 u153 u154 u155 u156 u157 u158 u159 u160 u161 u162 u163 u164 u165 u166 u167 u168 u169 u170 u171 u172 u173 u174 u175 u176 u177 u178 u179 u180 u181 u182 u183 u184 u185 u186 u187 u188 u189 u190 u191 u192 u193 u194 u195 u196 u197 u198 u199 u200 u201 u202 u203 u204 u205 u206 u207 u208 u209 u210 u211 u212 u213 u214 u215 u216 u217 u218 u219 : Value} (W0 : Aside0 (Below w0.heap.size w0 w)) (H : Aside0 (RSt w0 wc g s7 dv2 av2)) (K : Aside0 (Kr w wc g dv av)) (AA : Aside0 (At w.heap.size av av2)) (HD : Aside0 (node_ends.d k s7 = some s9)) (hl7 : Aside0 (s7.ac.length ≤ 900002)) :
  Code.wp Tryz.prog node_ends.tl2 (bodyPost Tryz.prog Tryz.f64 (fun e w' => e = .returned (.tuple #[]) ∧ (∃ dv' av', RSt w0 w' g s9 dv' av') ∧ Kr w w' g dv av)) { tmps := #[.pointer (some ⟨g, 0, none⟩), u1, u2, u3, u4, u5, u6, u7, u8, u9, u10, u11, u12, u13, u14, u15, u16, u17, u18, u19, u20, u21, u22, u23, u24, u25, u26, u27, u28, u29, u30, u31, u32, u33, u34, u35, u36, u37, u38, u39, u40, u41, u42, u43, u44, u45, u46, u47, u48, u49, u50, u51, u52, u53, u54, u55, u56, u57, u58, u59, u60, u61, u62, u63, u64, u65, u66, u67, u68, u69, u70, u71, u72, u73, u74, u75, u76, u77, u78, u79, u80, u81, u82, u83, u84, u85, u86, u87, u88, u89, u90, u91, u92, u93, u94, u95, u96, u97, u98, u99, u100, u101, u102, u103, u104, u105, u106, u107, u108, u109, u110, u111, u112, u113, u114, u115, u116, u117, u118, u119, u120, u121, u122, u123, u124, u125, u126, u127, u128, u129, u130, u131, u132, u133, u134, u135, u136, u137, u138, u139, u140, u141, u142, u143, u144, u145, u146, u147, u148, u149, u150, u151, u152, u153, u154, u155, u156, u157, u158, u159, u160, u161, u162, u163, u164, u165, u166, u167, u168, u169, u170, u171, u172, u173, u174, u175, u176, u177, u178, u179, u180, u181, u182, u183, u184, u185, u186, u187, u188, u189, u190, u191, u192, u193, u194, u195, u196, u197, u198, u199, u200, u201, u202, u203, u204, u205, u206, u207, u208, u209, u210, u211, u212, u213, u214, u215, u216, u217, u218, u219], defers := [] } wc := by
     conv => arg 2; whnf
     have AD := asd (At.refl w.heap.size dv)
     have hf := HD.out
     unfold node_ends.d at hf
     obtain ⟨⟨on2, oe2⟩, A13, hf⟩ := Option.bind_eq_some_iff.mp hf
     obtain ⟨v, A14, hf⟩ := Option.bind_eq_some_iff.mp hf
     have HO2 := asd A13
     have HV := asd A14
     have hlv := asd (show v.ac.length ≤ 900002 by rw [← Option.some.inj A14, Rs.fl_ac]; exact hl7.out)
     dsimp only at hf
     clear A13 A14
     go_upto_region 19 with (fail)
     refine start_ (n := 9) (S := fun w' => w'.cell? ⟨g, 0, none⟩ = some (.int .i64 (s7).id)) (ds := []) (fb 9 0) (by kernel_rfl) rfl rfl H.out.drew.c0 (fun hHeld => ?_)
     replace H := asd (H.out.drew)
     replace K := asd (K.out.drew)
     generalize (wc).drew = wd201 at H K hHeld ⊢
     refine pi 0 178 9 1 ?_
     refine pi 2 180 9 5 ?_
     refine pi 3 181 9 13 ?_
     refine pi 4 182 9 29 ?_
     refine pi 5 183 9 61 ?_
     refine ti 6 184 9 125 hHeld ?_
     refine one_ (i := 1) (N := some 179) (fb 9 127) rfl rfl (by kernel_rfl) (by decide) (fun K_ hK_ => ?_)
     refine goesV_ Tryz.func40 (by kernel_rfl) rfl #[.pointer (some ⟨g, 0, none⟩)] (by rfl) rfl rfl (by first | rfl | (simp; done) | (go_simp; done)) (by (try simp only [List.map_toArray, List.map_cons, List.map_nil]); first | done | rfl) ?_
     with_reducible refine (node_owner.calls g s7 dv2 av2 on2 oe2 w0 _ H.out HO2.out).mono ?_
     rintro e wx202 ⟨rfl, hs, hk⟩
     refine ⟨_, rfl, ?_⟩
     replace K := asd (K.out.thenG hk)
     replace H := asd (hs)
     clear hs hk
     refine hK_.out _ _ (by have q := H.out.c0; simp only [Rs.fls] at q; exact q) (fun hHeld => ?_)
     clear hK_ K_
     refine pi 7 185 9 255 ?_
     refine pi 8 10 9 511 ?_
     refine done_ (by kernel_rfl) ?_
     replace H := asd (show RSt w0 wx202 g v (dv2) (av2) from by have q := H.out; have e_ := Option.some.inj HV.out; rw [← e_]; exact q)
     by_cases c6 : on2 = s7.id
     ·have c6a : (on2 == s7.id) = true := beq_iff_eq.mpr c6
      rw [if_pos c6] at hf
      obtain ⟨q, A15, hf⟩ := Option.bind_eq_some_iff.mp hf
      have HQ := asd A15
      clear A15 c6
      cases q with
      | true =>
       rw [if_pos rfl] at hf
       obtain rfl := Option.some.inj hf
       have hc9 : wx202.cell? ⟨g, 9, none⟩ = some (.int .i64 (v).tg) := (by have q := H.out.c9; (try simp only [Rs.fls] at q); exact q)
       have hf9 := H.out.fz 9
       have hc10 : wx202.cell? ⟨g, 10, none⟩ = some (.int .i64 (v).tb) := (by have q := H.out.c10; (try simp only [Rs.fls] at q); exact q)
       have hf10 := H.out.fz 10
       go_wp2_with (first | (go_at_call 104; (with_reducible refine (member_Clique.calls v.tg v.tb true _ HQ.out).mono ?_); rintro e wx213 ⟨rfl, hb⟩; replace H := asd (H.out.below hb); replace K := asd (K.out.step hb); clear hb hc9 hf9 hc10 hf10; have hc1 : wx213.cell? ⟨g, 1, none⟩ = some (.int .i64 (v).ph) := (by have q := H.out.c1; (try simp only [Rs.fls] at q); exact q); have hf1 := H.out.fz 1) | ((with_reducible refine gate_callee (f := 53) rfl ?_); refine gL (some 205) Tryz.func53 #[.pointer (some ⟨g, 0, none⟩), .int .i64 9, .int .i64 0] ?_; have q_ := ((Wr.refl g wx213).set 1 (.int .i64 3)); replace H := asd ((H.out.s1 (3))); replace K := asd ((K.out.setG 1 (.int .i64 3))); clear q_; (with_reducible refine (node_note.calls g _ dv2 av2 9 0 w0 _ H.out (by have := hlv.out; show v.ac.length ≤ 1000000; omega)).mono ?_); rintro e wx214 ⟨rfl, ⟨v2_wx214, hs, hat⟩, hk⟩; refine ⟨_, rfl, ?_⟩; have nK := asd (K.out.trans AD.out AA.out hk.wideD); have nAA := asd (AA.out.trans K.out.1 hat); have nH := asd (hs); clear K AA H; have K := nK; have AA := nAA; have H := nH; clear nK nAA nH hs hat hk hc1 hf1))
       first | go_end0 | go_ret | ((try simp only [Exit.inBlock, Exit.then]); refine bodyPost_ret (results_none rfl _ _ _) rfl ?_)
       exact ⟨rfl, ⟨_, _, H.out⟩, K.out⟩
      | false =>
       rw [if_neg (by decide)] at hf
       have HF := asd hf
       clear hf
       have hc9 : wx202.cell? ⟨g, 9, none⟩ = some (.int .i64 (v).tg) := (by have q := H.out.c9; (try simp only [Rs.fls] at q); exact q)
       have hf9 := H.out.fz 9
       have hc10 : wx202.cell? ⟨g, 10, none⟩ = some (.int .i64 (v).tb) := (by have q := H.out.c10; (try simp only [Rs.fls] at q); exact q)
       have hf10 := H.out.fz 10
       go_wp2_with (first | (go_at_call 104; (with_reducible refine (member_Clique.calls v.tg v.tb false _ HQ.out).mono ?_); rintro e wx213 ⟨rfl, hb⟩; replace H := asd (H.out.below hb); replace K := asd (K.out.step hb); clear hb hc9 hf9 hc10 hf10; have hc9 : wx213.cell? ⟨g, 9, none⟩ = some (.int .i64 (v).tg) := (by have q := H.out.c9; (try simp only [Rs.fls] at q); exact q); have hf9 := H.out.fz 9; have hc10 : wx213.cell? ⟨g, 10, none⟩ = some (.int .i64 (v).tb) := (by have q := H.out.c10; (try simp only [Rs.fls] at q); exact q); have hf10 := H.out.fz 10; have hc16 : wx213.cell? ⟨g, 16, none⟩ = some (.int .i64 (v).m2) := (by have q := H.out.c16; (try simp only [Rs.fls] at q); exact q); have hf16 := H.out.fz 16) | ((with_reducible refine gate_callee (f := 54) rfl ?_); refine gL (some 219) Tryz.func54 #[.pointer (some ⟨g, 0, none⟩), .int .i64 (v).m2] ?_; have q_ := (((Wr.refl g wx213).set 9 (.int .i64 1)).set 10 (.int .i64 0)); replace H := asd (((H.out.s9 (1)).s10 (0))); replace K := asd (((K.out.setG 9 (.int .i64 1)).setG 10 (.int .i64 0))); clear q_; (with_reducible refine (node_timer.calls k g { v with tg := 1, tb := 0 } s9 dv2 av2 v.m2 w0 _ H.out (by have := hlv.out; show v.ac.length ≤ 1000000; omega) HF.out).mono ?_); rintro e wx214 ⟨rfl, ⟨v2_wx214, hs, hat⟩, hk⟩; refine ⟨_, rfl, ?_⟩; have nK := asd (K.out.trans AD.out AA.out hk.wideD); have nAA := asd (AA.out.trans K.out.1 hat); have nH := asd (hs); clear K AA H; have K := nK; have AA := nAA; have H := nH; clear nK nAA nH hs hat hk hc9 hf9 hc10 hf10 hc16 hf16))
       first | go_end0 | go_ret | ((try simp only [Exit.inBlock, Exit.then]); refine bodyPost_ret (results_none rfl _ _ _) rfl ?_)
       exact ⟨rfl, ⟨_, _, H.out⟩, K.out⟩
     have c6a : (on2 == s7.id) = false := beq_eq_false_iff_ne.mpr c6
     rw [if_neg c6] at hf
     have HF := asd hf
     clear hf
     go_wp2_with (first | ((with_reducible refine gate_callee (f := 100) rfl ?_); refine gC (some 188) Tryz.func100 (node_long.calls g v dv2 av2 w0 _ H.out) ?_; rintro e wx213 ⟨rfl, hs, hk⟩; refine ⟨_, rfl, ?_⟩; replace K := asd (K.out.thenG hk); replace H := asd (hs); clear hs hk) | ((with_reducible refine gate_callee (f := 54) rfl ?_); refine gC (some 189) Tryz.func54 (node_timer.calls k g v s9 dv2 av2 (wrap64 (v.m1 + v.co)) w0 _ H.out (by have := hlv.out; omega) HF.out) ?_; rintro e wx214 ⟨rfl, ⟨v2_wx214, hs, hat⟩, hk⟩; refine ⟨_, rfl, ?_⟩; have nK := asd (K.out.trans AD.out AA.out hk.wideD); have nAA := asd (AA.out.trans K.out.1 hat); have nH := asd (hs); clear K AA H; have K := nK; have AA := nAA; have H := nH; clear nK nAA nH hs hat hk))
     first | go_end0 | go_ret | ((try simp only [Exit.inBlock, Exit.then]); refine bodyPost_ret (results_none rfl _ _ _) rfl ?_)
     exact ⟨rfl, ⟨_, _, H.out⟩, K.out⟩

theorem node_ends.tail1 (k g : Nat) (s4 s5 s9 : Rs) (dv av dv1 av1 : Value) (me t p d r : Int) (last : Bool) (w0 w wc : World) {u1 u2 u4 u6 u7 u8 u9 u10 u11 u12 u13 u14 u15 u16 u17 u18 u19 u20 u21 u22 u23 u24 u25 u26 u27 u28 u29 u30 u31 u32 u33 u34 u35 u36 u37 u38 u39 u40 u41 u42 u43 u44 u45 u46 u47 u48 u49 u50 u51 u52 u53 u54 u55 u56 u57 u58 u59 u60 u61 u62 u63 u64 u65 u66 u67 u68 u69 u70 u71 u72 u73 u74 u75 u76 u77 u78 u79 u80 u81 u82 u83 u84 u85 u86 u87 u88 u89 u90 u91 u92 u93 u94 u95 u96 u97 u98 u99 u100 u101 u102 u103 u104 u105 u106 u107 u108 u109 u110 u111 u112 u113 u114 u115 u116 u117 u118 u119 u120 u121 u122 u123 u124 u125 u126 u127 u128 u129 u130 u131 u132 u133 u134 u135 u136 u137 u138 u139 u140 u141 u142 u143 u144 u145 u146 u147 u148 u149 u150 u151 u152 u153 u154 u155 u156 u157 u158 u159 u160 u161 u162 u163 u164 u165 u166 u167 u168 u169 u170 u171 u172 u173 u174 u175 u176 u177 u178 u179 u180 u181 u182 u183 u184 u185 u186 u187 u188 u189 u190 u191 u192 u193 u194 u195 u196 u197 u198 u199 u200 u201 u202 u203 u204 u205 u206 u207 u208 u209 u210 u211 u212 u213 u214 u215 u216 u217 u218 u219 : Value} (W0 : Aside0 (Below w0.heap.size w0 w)) (H : Aside0 (RSt w0 wc g s4 dv1 av1)) (K : Aside0 (Kr w wc g dv av)) (AD : Aside0 (At w.heap.size dv dv1)) (AA : Aside0 (At w.heap.size av av1)) (HT : Aside0 (node_at.f k s4 (wrap64 (s4.m1 + s4.co)) = some (t, p, d, r, s5))) (HF0 : Aside0 (node_ends.r k me last s5 t p d r = some s9)) (hl5 : Aside0 (s5.ac.length ≤ 900001)) :
  Code.wp Tryz.prog node_ends.tl1 (bodyPost Tryz.prog Tryz.f64 (fun e w' => e = .returned (.tuple #[]) ∧ (∃ dv' av', RSt w0 w' g s9 dv' av') ∧ Kr w w' g dv av)) { tmps := #[.pointer (some ⟨g, 0, none⟩), u1, u2, .int .u16 me, u4, .bool last, u6, u7, u8, u9, u10, u11, u12, u13, u14, u15, u16, u17, u18, u19, u20, u21, u22, u23, u24, u25, u26, u27, u28, u29, u30, u31, u32, u33, u34, u35, u36, u37, u38, u39, u40, u41, u42, u43, u44, u45, u46, u47, u48, u49, u50, u51, u52, u53, u54, u55, u56, u57, u58, u59, u60, u61, u62, u63, u64, u65, u66, u67, u68, u69, u70, u71, u72, u73, u74, u75, u76, u77, u78, u79, u80, u81, u82, u83, u84, u85, u86, u87, u88, u89, u90, u91, u92, u93, u94, u95, u96, u97, u98, u99, u100, u101, u102, u103, u104, u105, u106, u107, u108, u109, u110, u111, u112, u113, u114, u115, u116, u117, u118, u119, u120, u121, u122, u123, u124, u125, u126, u127, u128, u129, u130, u131, u132, u133, u134, u135, u136, u137, u138, u139, u140, u141, u142, u143, u144, u145, u146, u147, u148, u149, u150, u151, u152, u153, u154, u155, u156, u157, u158, u159, u160, u161, u162, u163, u164, u165, u166, u167, u168, u169, u170, u171, u172, u173, u174, u175, u176, u177, u178, u179, u180, u181, u182, u183, u184, u185, u186, u187, u188, u189, u190, u191, u192, u193, u194, u195, u196, u197, u198, u199, u200, u201, u202, u203, u204, u205, u206, u207, u208, u209, u210, u211, u212, u213, u214, u215, u216, u217, u218, u219], defers := [] } wc := by
    have hf := HF0.out
    unfold node_ends.r at hf
    have HF := asd hf
    clear HF0 hf
    conv => arg 2; whnf
    go_upto_region 10 with (first | ((with_reducible refine gate_callee (f := 100) rfl ?_); refine gC (some 99) Tryz.func100 (node_long.calls g s4 dv1 av1 w0 _ H.out) ?_; rintro e wx101 ⟨rfl, hs, hk⟩; refine ⟨_, rfl, ?_⟩; replace K := asd (K.out.thenG hk); replace H := asd (hs); clear hs hk) | ((with_reducible refine gate_callee (f := 97) rfl ?_); refine gC (some 100) Tryz.func97 (node_at.calls k g s4 s5 dv1 av1 (wrap64 (s4.m1 + s4.co)) t p d r w0 _ H.out HT.out) ?_; rintro e wx102 ⟨rfl, hs, hk⟩; refine ⟨_, rfl, ?_⟩; replace K := asd (K.out.thenG hk); replace H := asd (hs); clear hs hk) | (refine bG 7 #[.int .i64 0, .int .i64 0, .int .i64 0] 26 ?_; intro gb7 hg wx103 B7 hb; have G7 := asd (by rw [hg]; exact K.out.1 : w.heap.size ≤ gb7); have N7_g := asd (by rw [hg]; exact Nat.ne_of_gt (blk_lt H.out.b) : gb7 ≠ g); replace H := asd (H.out.below hb); replace K := asd (K.out.step hb); clear hb hg; have hb7 := ca3 B7))
    have q_ := ((((Wr.refl gb7 wx103).set 0 (.int .i64 p)).set 1 (.int .i64 d)).set 2 (.int .i64 r))
    replace H := asd (q_.run B7.out (by decide) (by decide) (by decide) (Nat.le_trans W0.out.size G7.out) H.out)
    replace B7 := asd (show (World.heap _)[gb7]? = some (Obj.cells #[.int .i64 p, .int .i64 d, .int .i64 r] 26 (0, 0)) from (blk_put (cs := #[.int .i64 p, .int .i64 d, .int .i64 0]) (blk_put (cs := #[.int .i64 p, .int .i64 0, .int .i64 0]) (blk_put (cs := #[.int .i64 0, .int .i64 0, .int .i64 0]) B7.out 0 (.int .i64 p) rfl) 1 (.int .i64 d) rfl) 2 (.int .i64 r) rfl))
    replace K := asd (K.out.wrNew q_ G7.out)
    clear q_
    generalize (((wx103.setCell ⟨gb7, 0, none⟩ (.int .i64 p)).setCell ⟨gb7, 1, none⟩ (.int .i64 d)).setCell ⟨gb7, 2, none⟩ (.int .i64 r)) = wy9 at B7 H K ⊢
    clear hb7
    have hc2 : wy9.cell? ⟨g, 2, none⟩ = some (.int .u64 (s5).sl) := (by have q := H.out.c2; (try simp only [Rs.fls] at q); exact q)
    have hf2 := H.out.fz 2
    by_cases c5 : s5.sl = 4294967296
    ·have c5a : (s5.sl == 4294967296) = true := beq_iff_eq.mpr c5
     have hf := HF.out
     rw [if_pos c5] at hf
     obtain rfl := Option.some.inj hf
     clear HF hf c5
     go_wp2_with (first | ((with_reducible refine gate_callee (f := 81) rfl ?_); refine gC (some 110) Tryz.func81 (node_fail.calls g s5 dv1 av1 2 w0 _ H.out) ?_; rintro e wx134 ⟨rfl, hs, hk⟩; refine ⟨_, rfl, ?_⟩; replace K := asd (K.out.thenG hk); replace H := asd (hs); replace B7 := asd (hk.blk B7.out N7_g.out (by simp [Value.ownBlock]) (by simp [Value.ownBlock])); clear hs hk hc2 hf2))
     first | go_end0 | go_ret | ((try simp only [Exit.inBlock, Exit.then]); refine bodyPost_ret (results_none rfl _ _ _) rfl ?_)
     exact ⟨rfl, ⟨_, _, H.out⟩, K.out⟩
    have c5a : (s5.sl == 4294967296) = false := beq_eq_false_iff_ne.mpr c5
    have hf := HF.out
    rw [if_neg c5] at hf
    obtain ⟨s6, A11, hf⟩ := Option.bind_eq_some_iff.mp hf
    obtain ⟨s7, A12, hf⟩ := Option.bind_eq_some_iff.mp hf
    have HS6 := asd A11
    have HS7 := asd A12
    have HD := asd hf
    have hl6 := asd (show s6.ac.length ≤ 900001 by rw [← Option.some.inj A11]; exact hl5.out)
    have hl7 := asd (show s7.ac.length ≤ 900002 from by
     have q := A12
     unfold node_ends.c at q
     cases last with
     | true =>
      rw [if_pos rfl] at q
      obtain ⟨c_, _, q⟩ := Option.bind_eq_some_iff.mp q
      obtain ⟨u_, q1, q⟩ := Option.bind_eq_some_iff.mp q
      rw [← Option.some.inj q, ← Option.some.inj q1]
      show ((s6.fl _).ac ++ [_]).length ≤ _
      rw [List.length_append, List.length_singleton, Rs.fl_ac]
      have := hl6.out
      omega
     | false =>
      rw [if_neg (by decide)] at q
      rw [← Option.some.inj q]
      have := hl6.out
      omega)
    clear HF hf A11 A12
    go_upto_region 12 with (fail)
    clear hc2 hf2
    refine start_ (n := 34) (S := fun w' => w'.cell? ⟨g, 2, none⟩ = some (.int .u64 (s5).sl) ∧ w'.cell? ⟨gb7, 0, none⟩ = some (.int .i64 p) ∧ w'.cell? ⟨gb7, 1, none⟩ = some (.int .i64 d) ∧ w'.cell? ⟨gb7, 2, none⟩ = some (.int .i64 r)) (ds := [29, 33]) (fb 34 0) (by kernel_rfl) rfl rfl ⟨H.out.c2, (blk_cell B7.out 0).trans rfl, (blk_cell B7.out 1).trans rfl, (blk_cell B7.out 2).trans rfl⟩ (fun hHeld => ?_)
    replace B7 := asd (blk_drew B7.out)
    replace H := asd (H.out.drew)
    replace K := asd (K.out.drew)
    generalize (wy9).drew = wd104 at B7 H K hHeld ⊢
    refine pi 0 111 34 1 ?_
    refine pi 1 112 34 3 ?_
    refine pi 2 113 34 7 ?_
    refine pi 3 114 34 15 ?_
    refine pi 4 115 34 31 ?_
    refine pi 5 116 34 63 ?_
    refine pi 6 117 34 127 ?_
    refine ti 7 118 34 255 hHeld ?_
    refine pi 8 119 34 511 ?_
    refine pi 9 120 34 1023 ?_
    refine pi 10 121 34 2047 ?_
    refine pi 11 122 34 4095 ?_
    refine ti 12 123 34 8191 hHeld ?_
    refine pi 13 124 34 16383 ?_
    refine pi 14 125 34 32767 ?_
    refine pi 15 126 34 65535 ?_
    refine pi 16 127 34 131071 ?_
    refine one_ (i := 17) (N := none) (fb 34 262143) rfl rfl (by kernel_rfl) (by decide) (fun K_ hK_ => ?_)
    have hq8 := H.out.c8
    have hr8 := H.out.fz 8
    refine skip_ (w1 := ?_) (by rfl) rfl ?_ ?_
    rotate_left
    ·go_simp
     rfl
    have q_ := ((Wr.refl g wd104).set 8 (.int .u16 me))
    replace H := asd ((H.out.s8 (me)))
    replace K := asd ((K.out.setG 8 (.int .u16 me)))
    replace B7 := asd (q_.blk B7.out N7_g.out)
    clear q_ hq8 hr8
    replace H := asd (show RSt w0 ((wd104.setCell ⟨g, 8, none⟩ (.int .u16 me))) g ({ s5 with me := me } : Rs) (dv1) (av1) from H.out)
    generalize (wd104.setCell ⟨g, 8, none⟩ (.int .u16 me)) = wy105 at B7 H K ⊢
    refine hK_.out _ _ ⟨H.out.c2, (blk_cell B7.out 0).trans rfl, (blk_cell B7.out 1).trans rfl, (blk_cell B7.out 2).trans rfl⟩ (fun hHeld => ?_)
    clear hK_ K_
    refine pi 18 128 34 524287 ?_
    refine pi 19 129 34 1048575 ?_
    refine pi 20 130 34 2097151 ?_
    refine one_ (i := 21) (N := none) (fb 34 4194303) rfl rfl (by kernel_rfl) (by decide) (fun K_ hK_ => ?_)
    have hq3 := H.out.c3
    have hr3 := H.out.fz 3
    refine skip_ (w1 := ?_) (by rfl) rfl ?_ ?_
    rotate_left
    ·go_simp
     rfl
    have q_ := ((Wr.refl g wy105).set 3 (.int .i64 t))
    replace H := asd ((H.out.s3 (t)))
    replace K := asd ((K.out.setG 3 (.int .i64 t)))
    replace B7 := asd (q_.blk B7.out N7_g.out)
    clear q_ hq3 hr3
    replace H := asd (show RSt w0 ((wy105.setCell ⟨g, 3, none⟩ (.int .i64 t))) g ({ s5 with me := me, st := t } : Rs) (dv1) (av1) from H.out)
    generalize (wy105.setCell ⟨g, 3, none⟩ (.int .i64 t)) = wy106 at B7 H K ⊢
    refine hK_.out _ _ ⟨H.out.c2, (blk_cell B7.out 0).trans rfl, (blk_cell B7.out 1).trans rfl, (blk_cell B7.out 2).trans rfl⟩ (fun hHeld => ?_)
    clear hK_ K_
    refine pi 22 131 34 8388607 ?_
    refine pi 23 132 34 16777215 ?_
    refine pi 24 133 34 33554431 ?_
    refine one_ (i := 25) (N := none) (fb 34 67108863) rfl rfl (by kernel_rfl) (by decide) (fun K_ hK_ => ?_)
    have hq4 := H.out.c4
    have hr4 := H.out.fz 4
    have hq5 := H.out.c5
    have hr5 := H.out.fz 5
    have hq6 := H.out.c6
    have hr6 := H.out.fz 6
    refine skip_ (w1 := ?_) (by rfl) rfl ?_ ?_
    rotate_left
    ·go_simp
     rfl
    have q_ := ((((Wr.refl g wy106).set 4 (.int .i64 p)).set 5 (.int .i64 d)).set 6 (.int .i64 r))
    replace H := asd ((((H.out.s4 (p)).s5 (d)).s6 (r)))
    replace K := asd ((((K.out.setG 4 (.int .i64 p)).setG 5 (.int .i64 d)).setG 6 (.int .i64 r)))
    replace B7 := asd (q_.blk B7.out N7_g.out)
    clear q_ hq4 hr4 hq5 hr5 hq6 hr6
    replace H := asd (show RSt w0 ((((wy106.setCell ⟨g, 4, none⟩ (.int .i64 p)).setCell ⟨g, 5, none⟩ (.int .i64 d)).setCell ⟨g, 6, none⟩ (.int .i64 r))) g ({ s5 with me := me, st := t, op := p, od := d, orr := r } : Rs) (dv1) (av1) from H.out)
    generalize (((wy106.setCell ⟨g, 4, none⟩ (.int .i64 p)).setCell ⟨g, 5, none⟩ (.int .i64 d)).setCell ⟨g, 6, none⟩ (.int .i64 r)) = wy107 at B7 H K ⊢
    refine hK_.out _ _ ⟨H.out.c2, (blk_cell B7.out 0).trans rfl, (blk_cell B7.out 1).trans rfl, (blk_cell B7.out 2).trans rfl⟩ (fun hHeld => ?_)
    clear hK_ K_
    refine pi 26 134 34 134217727 ?_
    refine pi 27 135 34 268435455 ?_
    refine pi 28 136 34 536870911 ?_
    refine last_ (i := 29) (N := none) (fb 34 1073741823) rfl rfl (by kernel_rfl) (by decide) (fun K_ hK_ => ?_)
    have hq2 := H.out.c2
    have hr2 := H.out.fz 2
    refine skip_ (w1 := ?_) (by rfl) rfl ?_ ?_
    rotate_left
    ·go_simp
     rfl
    have q_ := ((Wr.refl g wy107).set 2 (.int .u64 (IntKind.u64.wrap ((s5).sl + 1))))
    replace H := asd ((H.out.s2 ((IntKind.u64.wrap ((s5).sl + 1)))))
    replace K := asd ((K.out.setG 2 (.int .u64 (IntKind.u64.wrap ((s5).sl + 1)))))
    replace B7 := asd (q_.blk B7.out N7_g.out)
    clear q_ hq2 hr2
    replace H := asd (show RSt w0 ((wy107.setCell ⟨g, 2, none⟩ (.int .u64 (IntKind.u64.wrap ((s5).sl + 1))))) g ({ s5 with me := me, st := t, op := p, od := d, orr := r, sl := (IntKind.u64.wrap ((s5).sl + 1)) } : Rs) (dv1) (av1) from H.out)
    generalize (wy107.setCell ⟨g, 2, none⟩ (.int .u64 (IntKind.u64.wrap ((s5).sl + 1)))) = wy108 at B7 H K ⊢
    refine hK_.out _ _ ?_
    clear hK_ K_
    refine pi 30 137 34 2147483647 ?_
    refine pi 31 138 34 4294967295 ?_
    refine pi 32 139 34 8589934591 ?_
    refine last_ (i := 33) (N := none) (fb 34 17179869183) rfl rfl (by kernel_rfl) (by decide) (fun K_ hK_ => ?_)
    have hq7 := H.out.c7
    have hr7 := H.out.fz 7
    refine skip_ (w1 := ?_) (by rfl) rfl ?_ ?_
    rotate_left
    ·go_simp
     rfl
    have q_ := ((Wr.refl g wy108).set 7 (.int .i64 0))
    replace H := asd ((H.out.s7 (0)))
    replace K := asd ((K.out.setG 7 (.int .i64 0)))
    replace B7 := asd (q_.blk B7.out N7_g.out)
    clear q_ hq7 hr7
    replace H := asd (show RSt w0 ((wy108.setCell ⟨g, 7, none⟩ (.int .i64 0))) g ({ s5 with me := me, st := t, op := p, od := d, orr := r, sl := (IntKind.u64.wrap ((s5).sl + 1)), co := 0 } : Rs) (dv1) (av1) from H.out)
    generalize (wy108.setCell ⟨g, 7, none⟩ (.int .i64 0)) = wy109 at B7 H K ⊢
    refine hK_.out _ _ ?_
    clear hK_ K_
    refine done_ (by kernel_rfl) ?_
    have hc12 : wy109.cell? ⟨g, 12, none⟩ = some (.bool (s5).se) := (by have q := H.out.c12; (try simp only [Rs.fls] at q); exact q)
    have hf12 := H.out.fz 12
    have hc13 : wy109.cell? ⟨g, 13, none⟩ = some (.int .i64 (s5).ve) := (by have q := H.out.c13; (try simp only [Rs.fls] at q); exact q)
    have hf13 := H.out.fz 13
    go_upto_region 14 with (fail)
    have q_ := (((Wr.refl g wy109).set 12 (.bool false)).set 13 (.int .i64 0))
    replace H := asd (((H.out.s12 (false)).s13 (0)))
    replace K := asd (((K.out.setG 12 (.bool false)).setG 13 (.int .i64 0)))
    replace B7 := asd (q_.blk B7.out N7_g.out)
    clear q_
    replace H := asd (show RSt w0 ((wy109.setCell ⟨g, 12, none⟩ (.bool false)).setCell ⟨g, 13, none⟩ (.int .i64 0)) g ({ s5 with me := me, st := t, op := p, od := d, orr := r, sl := (IntKind.u64.wrap ((s5).sl + 1)), co := 0, se := false, ve := 0 } : Rs) (dv1) (av1) from H.out)
    generalize (wy109.setCell ⟨g, 12, none⟩ (.bool false)).setCell ⟨g, 13, none⟩ (.int .i64 0) = wy13 at B7 H K ⊢
    clear hc12 hf12 hc13 hf13
    replace H := asd (show RSt w0 wy13 g s6 (dv1) (av1) from by have q := H.out; have e_ := Option.some.inj HS6.out; rw [← e_]; exact q)
    clear B7 N7_g G7
    go_upto_if 148 with (fail)
    (try simp only [Act.put, List.setIfInBounds_toArray, List.set_cons_zero, List.set_cons_succ])
    go_cut [] (fun wc => ∃ dv' av', Aside0 (RSt w0 wc g s7 dv' av') ∧ Aside0 (Kr w wc g dv av) ∧ Aside0 (At w.heap.size av av'))
    case first =>
     cases last with
     | true =>
      have q := HS7.out
      unfold node_ends.c at q
      rw [if_pos rfl] at q
      obtain ⟨⟨cc, ec⟩, B1, q⟩ := Option.bind_eq_some_iff.mp q
      obtain ⟨u, B2, q⟩ := Option.bind_eq_some_iff.mp q
      have HC := asd B1
      have HU := asd B2
      have HE := asd (Option.some.inj q)
      have hlu := asd (show u.ac.length ≤ 900001 by rw [← Option.some.inj B2, Rs.fl_ac]; exact hl6.out)
      clear q B1 B2 AD
      obtain ⟨Ad, cd, ed⟩ := Kd.R_slice H.out.d
      subst ed
      go_upto_region 15 with (fail)
      refine start_ (n := 16) (S := fun w' => w'.cell? ⟨g, 18, none⟩ = some (.int .i64 (s6).m4) ∧ w'.cell? ⟨g, 11, none⟩ = some (.slice Ad (s6).ds.length cd)) (ds := []) (fb 16 0) (by kernel_rfl) rfl rfl ⟨H.out.c18, H.out.c11⟩ (fun hHeld => ?_)
      replace H := asd (H.out.drew)
      replace K := asd (K.out.drew)
      generalize (wy13).drew = wd140 at H K hHeld ⊢
      refine pi 0 150 16 1 ?_
      refine pi 1 151 16 3 ?_
      refine pi 2 152 16 7 ?_
      refine pi 3 153 16 15 ?_
      refine ti 4 154 16 31 hHeld ?_
      refine pi 5 155 16 63 ?_
      refine pi 6 156 16 127 ?_
      refine pi 7 157 16 255 ?_
      refine pi 8 158 16 511 ?_
      refine ti 9 159 16 1023 hHeld ?_
      refine one_ (i := 10) (N := some 160) (fb 16 2047) rfl rfl (by kernel_rfl) (by decide) (fun K_ hK_ => ?_)
      refine goesV_ Tryz.func103 (by kernel_rfl) rfl #[.int .i64 (s6).m4, .slice Ad (s6).ds.length cd] (by rfl) rfl rfl (by first | rfl | (simp; done) | (go_simp; done)) (by (try simp only [List.map_toArray, List.map_cons, List.map_nil]); first | done | rfl) ?_
      with_reducible refine (fta_Correct.calls s6.m4 Ad cd s6.ds cc ec _ (Kd.R_reads' H.out.d).2.2 (Kd.R_reads' H.out.d).2.1 HC.out).mono ?_
      rintro e wx141 ⟨rfl, hb⟩
      refine ⟨_, rfl, ?_⟩
      replace H := asd (H.out.below hb)
      replace K := asd (K.out.step hb)
      clear hb
      refine hK_.out _ _ ⟨H.out.c18, H.out.c11⟩ (fun hHeld => ?_)
      clear hK_ K_
      refine pi 11 149 16 4095 ?_
      refine pi 12 161 16 8191 ?_
      refine pi 13 162 16 16383 ?_
      refine pi 14 8 16 32767 ?_
      refine pi 15 9 16 65535 ?_
      refine done_ (by kernel_rfl) ?_
      go_upto_region 17 with (first | ((with_reducible refine gate_callee (f := 81) rfl ?_); refine gC (some 165) Tryz.func81 (node_fail.calls g s6 _ av1 ec w0 _ H.out) ?_; rintro e wx142 ⟨rfl, hs, hk⟩; refine ⟨_, rfl, ?_⟩; replace K := asd (K.out.thenG hk); replace H := asd (hs); clear hs hk; replace H := asd (show RSt w0 wx142 g u (.slice Ad (s6).ds.length cd) (av1) from by have q := H.out; have e_ := Option.some.inj HU.out; rw [← e_]; exact q); have hc7 : wx142.cell? ⟨g, 7, none⟩ = some (.int .i64 (u).co) := (by have q := H.out.c7; (try simp only [Rs.fls] at q); exact q); have hf7 := H.out.fz 7; have hc11 : wx142.cell? ⟨g, 11, none⟩ = some (.slice Ad (s6).ds.length cd) := (by have q := H.out.c11; (try simp only [Rs.fls] at q); exact q); have hf11 := H.out.fz 11))
      go_upto_region 18 with (fail)
      have nH := asd (H.out.s7 cc).noDs
      have nK := asd ((K.out.setG 7 (.int .i64 cc)).setG 11 nov)
      clear H K hc7 hf7 hc11 hf11
      have H := nH
      have K := nK
      clear nH nK
      generalize (wx142.setCell ⟨g, 7, none⟩ (.int .i64 cc)).setCell ⟨g, 11, none⟩ nov = wy17 at H K ⊢
      have AD := asd (At.refl w.heap.size dv)
      go_wp2_with (first | ((with_reducible refine gate_callee (f := 53) rfl ?_); refine gC (some 177) Tryz.func53 (node_note.calls g _ nov av1 8 cc w0 _ H.out (by have := hlu.out; show u.ac.length ≤ 1000000; omega)) ?_; rintro e wx143 ⟨rfl, ⟨v2_wx143, hs, hat⟩, hk⟩; refine ⟨_, rfl, ?_⟩; have nK := asd (K.out.trans AD.out AA.out hk.wideD); have nAA := asd (AA.out.trans K.out.1 hat); have nH := asd (hs); clear K AA H; have K := nK; have AA := nAA; have H := nH; clear nK nAA nH hs hat hk))
      go_meet
      case rel => exact ⟨_, _, ⟨by rw [← HE.out]; exact H.out⟩, K, AA⟩
     | false =>
      have e7 : s6 = s7 := by
       have q := HS7.out
       unfold node_ends.c at q
       rw [if_neg (by decide)] at q
       exact Option.some.inj q
      go_wp2
      go_meet
      case rel => exact ⟨_, _, ⟨by rw [← e7]; exact H.out⟩, K, AA⟩
    case rest =>
     clear H K AA AD
     obtain ⟨dv2, av2, H, K, AA⟩ := hcut
     go_step
     exact node_ends.tail2 k g s7 s9 dv av dv2 av2 w0 w wc W0 H K AA HD hl7 (u1 := u1) (u2 := u2) (u3 := .int .u16 me) (u4 := u4) (u5 := .bool last) (u6 := .int .i64 t) (u7 := .pointer (some ⟨gb7, 0, none⟩)) (u8 := u8) (u9 := u9) (u10 := u10) (u11 := u11) (u12 := u12) (u13 := u13) (u14 := u14) (u15 := u15) (u16 := u16) (u17 := u17) (u18 := u18) (u19 := u19) (u20 := u20) (u21 := u21) (u22 := u22) (u23 := u23) (u24 := u24) (u25 := u25) (u26 := u26) (u27 := u27) (u28 := u28) (u29 := u29) (u30 := u30) (u31 := u31) (u32 := u32) (u33 := u33) (u34 := u34) (u35 := u35) (u36 := u36) (u37 := u37) (u38 := u38) (u39 := u39) (u40 := u40) (u41 := u41) (u42 := u42) (u43 := u43) (u44 := u44) (u45 := u45) (u46 := u46) (u47 := u47) (u48 := u48) (u49 := u49) (u50 := u50) (u51 := u51) (u52 := u52) (u53 := u53) (u54 := u54) (u55 := u55) (u56 := u56) (u57 := u57) (u58 := u58) (u59 := u59) (u60 := u60) (u61 := u61) (u62 := u62) (u63 := u63) (u64 := u64) (u65 := u65) (u66 := u66) (u67 := u67) (u68 := u68) (u69 := u69) (u70 := u70) (u71 := u71) (u72 := u72) (u73 := u73) (u74 := u74) (u75 := u75) (u76 := u76) (u77 := u77) (u78 := u78) (u79 := u79) (u80 := u80) (u81 := u81) (u82 := u82) (u83 := u83) (u84 := u84) (u85 := u85) (u86 := u86) (u87 := u87) (u88 := u88) (u89 := u89) (u90 := u90) (u91 := u91) (u92 := u92) (u93 := u93) (u94 := u94) (u95 := u95) (u96 := u96) (u97 := u97) (u98 := u98) (u99 := u99) (u100 := u100) (u101 := u101) (u102 := u102) (u103 := u103) (u104 := u104) (u105 := u105) (u106 := u106) (u107 := u107) (u108 := u108) (u109 := u109) (u110 := u110) (u111 := u111) (u112 := u112) (u113 := u113) (u114 := u114) (u115 := u115) (u116 := u116) (u117 := u117) (u118 := u118) (u119 := u119) (u120 := u120) (u121 := u121) (u122 := u122) (u123 := u123) (u124 := u124) (u125 := u125) (u126 := u126) (u127 := u127) (u128 := u128) (u129 := u129) (u130 := u130) (u131 := u131) (u132 := u132) (u133 := u133) (u134 := u134) (u135 := u135) (u136 := u136) (u137 := u137) (u138 := u138) (u139 := u139) (u140 := u140) (u141 := u141) (u142 := u142) (u143 := u143) (u144 := u144) (u145 := u145) (u146 := u146) (u147 := u147) (u148 := u148) (u149 := u149) (u150 := u150) (u151 := u151) (u152 := u152) (u153 := u153) (u154 := u154) (u155 := u155) (u156 := u156) (u157 := u157) (u158 := u158) (u159 := u159) (u160 := u160) (u161 := u161) (u162 := u162) (u163 := u163) (u164 := u164) (u165 := u165) (u166 := u166) (u167 := u167) (u168 := u168) (u169 := u169) (u170 := u170) (u171 := u171) (u172 := u172) (u173 := u173) (u174 := u174) (u175 := u175) (u176 := u176) (u177 := u177) (u178 := u178) (u179 := u179) (u180 := u180) (u181 := u181) (u182 := u182) (u183 := u183) (u184 := u184) (u185 := u185) (u186 := u186) (u187 := u187) (u188 := u188) (u189 := u189) (u190 := u190) (u191 := u191) (u192 := u192) (u193 := u193) (u194 := u194) (u195 := u195) (u196 := u196) (u197 := u197) (u198 := u198) (u199 := u199) (u200 := u200) (u201 := u201) (u202 := u202) (u203 := u203) (u204 := u204) (u205 := u205) (u206 := u206) (u207 := u207) (u208 := u208) (u209 := u209) (u210 := u210) (u211 := u211) (u212 := u212) (u213 := u213) (u214 := u214) (u215 := u215) (u216 := u216) (u217 := u217) (u218 := u218) (u219 := u219)

theorem node_ends.tail0 (k g : Nat) (s1 s2 s3 s4 s5 s9 : Rs) (dv av av1 : Value) (on me e1 e2 t p d r : Int) (last : Bool) (w0 w wc : World) {u1 u3 u4 u5 u6 u7 u8 u9 u10 u11 u12 u13 u14 u15 u16 u17 u18 u19 u20 u21 u22 u23 u24 u25 u26 u27 u28 u29 u30 u31 u32 u33 u34 u35 u36 u37 u38 u39 u40 u41 u42 u43 u44 u45 u46 u47 u48 u49 u50 u51 u52 u53 u54 u55 u56 u57 u58 u59 u60 u61 u62 u63 u64 u65 u66 u67 u68 u69 u70 u71 u72 u73 u74 u75 u76 u77 u78 u79 u80 u81 u82 u83 u84 u85 u86 u87 u88 u89 u90 u91 u92 u93 u94 u95 u96 u97 u98 u99 u100 u101 u102 u103 u104 u105 u106 u107 u108 u109 u110 u111 u112 u113 u114 u115 u116 u117 u118 u119 u120 u121 u122 u123 u124 u125 u126 u127 u128 u129 u130 u131 u132 u133 u134 u135 u136 u137 u138 u139 u140 u141 u142 u143 u144 u145 u146 u147 u148 u149 u150 u151 u152 u153 u154 u155 u156 u157 u158 u159 u160 u161 u162 u163 u164 u165 u166 u167 u168 u169 u170 u171 u172 u173 u174 u175 u176 u177 u178 u179 u180 u181 u182 u183 u184 u185 u186 u187 u188 u189 u190 u191 u192 u193 u194 u195 u196 u197 u198 u199 u200 u201 u202 u203 u204 u205 u206 u207 u208 u209 u210 u211 u212 u213 u214 u215 u216 u217 u218 u219 : Value} (W0 : Aside0 (Below w0.heap.size w0 w)) (H : Aside0 (RSt w0 wc g s1 dv av1)) (K : Aside0 (Kr w wc g dv av)) (AA : Aside0 (At w.heap.size av av1)) (HA : Aside0 (member_After.f s1.m0 s1.m1 s1.m2 s1.m3 s1.m4 s1.id s1.me s1.sl s1.ve = some (me, e1))) (HS2 : Aside0 (some (s1.fl e1) = some s2)) (HL : Aside0 (medl_Last.f s2.m0 s2.m1 s2.m2 s2.m3 s2.m4 s2.sl = some (last, e2))) (HS3 : Aside0 (some (s2.fl e2) = some s3)) (HS4 : Aside0 (some (if on = s3.id then s3.dev 0 else s3) = some s4)) (HT : Aside0 (node_at.f k s4 (wrap64 (s4.m1 + s4.co)) = some (t, p, d, r, s5))) (HF : Aside0 (node_ends.r k me last s5 t p d r = some s9)) (hd3 : Aside0 (s3.ds.length ≤ 900000)) (hl5 : Aside0 (s5.ac.length ≤ 900001)) :
  Code.wp Tryz.prog node_ends.tl0 (bodyPost Tryz.prog Tryz.f64 (fun e w' => e = .returned (.tuple #[]) ∧ (∃ dv' av', RSt w0 w' g s9 dv' av') ∧ Kr w w' g dv av)) { tmps := #[.pointer (some ⟨g, 0, none⟩), u1, .int .i64 on, u3, u4, u5, u6, u7, u8, u9, u10, u11, u12, u13, u14, u15, u16, u17, u18, u19, u20, u21, u22, u23, u24, u25, u26, u27, u28, u29, u30, u31, u32, u33, u34, u35, u36, u37, u38, u39, u40, u41, u42, u43, u44, u45, u46, u47, u48, u49, u50, u51, u52, u53, u54, u55, u56, u57, u58, u59, u60, u61, u62, u63, u64, u65, u66, u67, u68, u69, u70, u71, u72, u73, u74, u75, u76, u77, u78, u79, u80, u81, u82, u83, u84, u85, u86, u87, u88, u89, u90, u91, u92, u93, u94, u95, u96, u97, u98, u99, u100, u101, u102, u103, u104, u105, u106, u107, u108, u109, u110, u111, u112, u113, u114, u115, u116, u117, u118, u119, u120, u121, u122, u123, u124, u125, u126, u127, u128, u129, u130, u131, u132, u133, u134, u135, u136, u137, u138, u139, u140, u141, u142, u143, u144, u145, u146, u147, u148, u149, u150, u151, u152, u153, u154, u155, u156, u157, u158, u159, u160, u161, u162, u163, u164, u165, u166, u167, u168, u169, u170, u171, u172, u173, u174, u175, u176, u177, u178, u179, u180, u181, u182, u183, u184, u185, u186, u187, u188, u189, u190, u191, u192, u193, u194, u195, u196, u197, u198, u199, u200, u201, u202, u203, u204, u205, u206, u207, u208, u209, u210, u211, u212, u213, u214, u215, u216, u217, u218, u219], defers := [] } wc := by
   conv => arg 2; whnf
   have AD := asd (At.refl w.heap.size dv)
   go_upto_region 3 with (fail)
   refine start_ (n := 30) (S := fun w' => w'.cell? ⟨g, 14, none⟩ = some (.int .i64 (s1).m0) ∧ w'.cell? ⟨g, 15, none⟩ = some (.int .i64 (s1).m1) ∧ w'.cell? ⟨g, 16, none⟩ = some (.int .i64 (s1).m2) ∧ w'.cell? ⟨g, 17, none⟩ = some (.int .i64 (s1).m3) ∧ w'.cell? ⟨g, 18, none⟩ = some (.int .i64 (s1).m4) ∧ w'.cell? ⟨g, 0, none⟩ = some (.int .i64 (s1).id) ∧ w'.cell? ⟨g, 8, none⟩ = some (.int .u16 (s1).me) ∧ w'.cell? ⟨g, 2, none⟩ = some (.int .u64 (s1).sl) ∧ w'.cell? ⟨g, 13, none⟩ = some (.int .i64 (s1).ve)) (ds := []) (fb 30 0) (by kernel_rfl) rfl rfl ⟨H.out.c14, H.out.c15, H.out.c16, H.out.c17, H.out.c18, H.out.c0, H.out.c8, H.out.c2, H.out.c13⟩ (fun hHeld => ?_)
   replace H := asd (H.out.drew)
   replace K := asd (K.out.drew)
   generalize (wc).drew = wd51 at H K hHeld ⊢
   refine pi 0 41 30 1 ?_
   refine pi 1 42 30 3 ?_
   refine pi 2 43 30 7 ?_
   refine ti 3 44 30 15 hHeld ?_
   refine pi 4 45 30 31 ?_
   refine pi 5 46 30 63 ?_
   refine pi 6 47 30 127 ?_
   refine pi 7 48 30 255 ?_
   refine ti 8 49 30 511 hHeld ?_
   refine pi 9 50 30 1023 ?_
   refine pi 10 51 30 2047 ?_
   refine pi 11 52 30 4095 ?_
   refine pi 12 53 30 8191 ?_
   refine ti 13 54 30 16383 hHeld ?_
   refine pi 14 55 30 32767 ?_
   refine pi 15 56 30 65535 ?_
   refine pi 16 57 30 131071 ?_
   refine pi 17 58 30 262143 ?_
   refine ti 18 59 30 524287 hHeld ?_
   refine pi 19 60 30 1048575 ?_
   refine pi 20 61 30 2097151 ?_
   refine pi 21 62 30 4194303 ?_
   refine pi 22 63 30 8388607 ?_
   refine ti 23 64 30 16777215 hHeld ?_
   refine one_ (i := 24) (N := some 65) (fb 30 33554431) rfl rfl (by kernel_rfl) (by decide) (fun K_ hK_ => ?_)
   refine goesV_ Tryz.func101 (by kernel_rfl) rfl #[.agg #[.int .i64 (s1).m0, .int .i64 (s1).m1, .int .i64 (s1).m2, .int .i64 (s1).m3, .int .i64 (s1).m4], .int .i64 (s1).id, .int .u16 (s1).me, .int .u64 (s1).sl, .int .i64 (s1).ve] (by rfl) rfl rfl (by first | rfl | (simp; done) | (go_simp; done)) (by (try simp only [List.map_toArray, List.map_cons, List.map_nil]); first | done | rfl) ?_
   with_reducible refine (member_After.calls s1.m0 s1.m1 s1.m2 s1.m3 s1.m4 s1.id s1.me s1.sl s1.ve me e1 _ HA.out).mono ?_
   rintro e wx52 ⟨rfl, hb⟩
   refine ⟨_, rfl, ?_⟩
   replace H := asd (H.out.below hb)
   replace K := asd (K.out.step hb)
   clear hb
   refine hK_.out _ _ ⟨H.out.c14, H.out.c15, H.out.c16, H.out.c17, H.out.c18, H.out.c0, H.out.c8, H.out.c2, H.out.c13⟩ (fun hHeld => ?_)
   clear hK_ K_
   refine pi 25 40 30 67108863 ?_
   refine pi 26 66 30 134217727 ?_
   refine pi 27 67 30 268435455 ?_
   refine pi 28 3 30 536870911 ?_
   refine pi 29 4 30 1073741823 ?_
   refine done_ (by kernel_rfl) ?_
   go_upto_region 5 with (first | ((with_reducible refine gate_callee (f := 81) rfl ?_); refine gC (some 70) Tryz.func81 (node_fail.calls g s1 dv av1 e1 w0 _ H.out) ?_; rintro e wx53 ⟨rfl, hs, hk⟩; refine ⟨_, rfl, ?_⟩; replace K := asd (K.out.thenG hk); replace H := asd (hs); clear hs hk; replace H := asd (show RSt w0 wx53 g s2 (dv) (av1) from by have q := H.out; have e_ := Option.some.inj HS2.out; rw [← e_]; exact q)))
   refine start_ (n := 15) (S := fun w' => w'.cell? ⟨g, 14, none⟩ = some (.int .i64 (s2).m0) ∧ w'.cell? ⟨g, 15, none⟩ = some (.int .i64 (s2).m1) ∧ w'.cell? ⟨g, 16, none⟩ = some (.int .i64 (s2).m2) ∧ w'.cell? ⟨g, 17, none⟩ = some (.int .i64 (s2).m3) ∧ w'.cell? ⟨g, 18, none⟩ = some (.int .i64 (s2).m4) ∧ w'.cell? ⟨g, 2, none⟩ = some (.int .u64 (s2).sl)) (ds := []) (fb 15 0) (by kernel_rfl) rfl rfl ⟨H.out.c14, H.out.c15, H.out.c16, H.out.c17, H.out.c18, H.out.c2⟩ (fun hHeld => ?_)
   replace H := asd (H.out.drew)
   replace K := asd (K.out.drew)
   generalize (wx53).drew = wd54 at H K hHeld ⊢
   refine pi 0 72 15 1 ?_
   refine pi 1 73 15 3 ?_
   refine pi 2 74 15 7 ?_
   refine ti 3 75 15 15 hHeld ?_
   refine pi 4 76 15 31 ?_
   refine pi 5 77 15 63 ?_
   refine pi 6 78 15 127 ?_
   refine pi 7 79 15 255 ?_
   refine ti 8 80 15 511 hHeld ?_
   refine one_ (i := 9) (N := some 81) (fb 15 1023) rfl rfl (by kernel_rfl) (by decide) (fun K_ hK_ => ?_)
   refine goesV_ Tryz.func102 (by kernel_rfl) rfl #[.agg #[.int .i64 (s2).m0, .int .i64 (s2).m1, .int .i64 (s2).m2, .int .i64 (s2).m3, .int .i64 (s2).m4], .int .u64 (s2).sl] (by rfl) rfl rfl (by first | rfl | (simp; done) | (go_simp; done)) (by (try simp only [List.map_toArray, List.map_cons, List.map_nil]); first | done | rfl) ?_
   with_reducible refine (medl_Last.calls s2.m0 s2.m1 s2.m2 s2.m3 s2.m4 s2.sl last e2 _ HL.out).mono ?_
   rintro e wx55 ⟨rfl, hb⟩
   refine ⟨_, rfl, ?_⟩
   replace H := asd (H.out.below hb)
   replace K := asd (K.out.step hb)
   clear hb
   refine hK_.out _ _ ⟨H.out.c14, H.out.c15, H.out.c16, H.out.c17, H.out.c18, H.out.c2⟩ (fun hHeld => ?_)
   clear hK_ K_
   refine pi 10 71 15 2047 ?_
   refine pi 11 82 15 4095 ?_
   refine pi 12 83 15 8191 ?_
   refine pi 13 5 15 16383 ?_
   refine pi 14 4 15 32767 ?_
   refine done_ (by kernel_rfl) ?_
   go_upto_if 93 with (first | ((with_reducible refine gate_callee (f := 81) rfl ?_); refine gC (some 86) Tryz.func81 (node_fail.calls g s2 dv av1 e2 w0 _ H.out) ?_; rintro e wx56 ⟨rfl, hs, hk⟩; refine ⟨_, rfl, ?_⟩; replace K := asd (K.out.thenG hk); replace H := asd (hs); clear hs hk; replace H := asd (show RSt w0 wx56 g s3 (dv) (av1) from by have q := H.out; have e_ := Option.some.inj HS3.out; rw [← e_]; exact q); have hc0 : wx56.cell? ⟨g, 0, none⟩ = some (.int .i64 (s3).id) := (by have q := H.out.c0; (try simp only [Rs.fls] at q); exact q); have hf0 := H.out.fz 0))
   (try simp only [Act.put, List.setIfInBounds_toArray, List.set_cons_zero, List.set_cons_succ])
   go_cut [] (fun wc => ∃ dv', Aside0 (RSt w0 wc g s4 dv' av1) ∧ Aside0 (Kr w wc g dv av) ∧ Aside0 (At w.heap.size dv dv'))
   case first =>
    by_cases c3 : on = s3.id
    ·have c3a : (on == s3.id) = true := beq_iff_eq.mpr c3
     have C3 := asd c3
     clear c3
     go_wp2_with (first | ((with_reducible refine gate_callee (f := 88) rfl ?_); refine gC (some 95) Tryz.func88 (node_dev.calls g s3 dv av1 0 w0 _ H.out (by have := hd3.out; omega)) ?_; rintro e wx87 ⟨rfl, ⟨v2_wx87, hs, hat⟩, hk⟩; refine ⟨_, rfl, ?_⟩; have nK := asd (K.out.trans AD.out AA.out hk.wideA); have nAD := asd (AD.out.trans K.out.1 hat); have nH := asd (hs); clear K AD H; have K := nK; have AD := nAD; have H := nH; clear nK nAD nH hs hat hk))
     go_meet
     case rel => exact ⟨_, ⟨by have e := Option.some.inj HS4.out; rw [if_pos C3.out] at e; rw [← e]; exact H.out⟩, K, AD⟩
    have c3a : (on == s3.id) = false := beq_eq_false_iff_ne.mpr c3
    go_wp2
    go_meet
    case rel => exact ⟨_, ⟨by have e := Option.some.inj HS4.out; rw [if_neg c3] at e; rw [← e]; exact H.out⟩, K, AD⟩
   case rest =>
    clear H K AD hc0 hf0
    obtain ⟨dv1, H, K, AD⟩ := hcut
    go_step
    exact node_ends.tail1 k g s4 s5 s9 dv av dv1 av1 me t p d r last w0 w wc W0 H K AD AA HT HF hl5 (u1 := u1) (u2 := .int .i64 on) (u4 := .int .i64 e2) (u6 := u6) (u7 := u7) (u8 := u8) (u9 := u9) (u10 := u10) (u11 := u11) (u12 := u12) (u13 := u13) (u14 := u14) (u15 := u15) (u16 := u16) (u17 := u17) (u18 := u18) (u19 := u19) (u20 := u20) (u21 := u21) (u22 := u22) (u23 := u23) (u24 := u24) (u25 := u25) (u26 := u26) (u27 := u27) (u28 := u28) (u29 := u29) (u30 := u30) (u31 := u31) (u32 := u32) (u33 := u33) (u34 := u34) (u35 := u35) (u36 := u36) (u37 := u37) (u38 := u38) (u39 := u39) (u40 := u40) (u41 := u41) (u42 := u42) (u43 := u43) (u44 := u44) (u45 := u45) (u46 := u46) (u47 := u47) (u48 := u48) (u49 := u49) (u50 := u50) (u51 := u51) (u52 := u52) (u53 := u53) (u54 := u54) (u55 := u55) (u56 := u56) (u57 := u57) (u58 := u58) (u59 := u59) (u60 := u60) (u61 := u61) (u62 := u62) (u63 := u63) (u64 := u64) (u65 := u65) (u66 := u66) (u67 := u67) (u68 := u68) (u69 := u69) (u70 := u70) (u71 := u71) (u72 := u72) (u73 := u73) (u74 := u74) (u75 := u75) (u76 := u76) (u77 := u77) (u78 := u78) (u79 := u79) (u80 := u80) (u81 := u81) (u82 := u82) (u83 := u83) (u84 := u84) (u85 := u85) (u86 := u86) (u87 := u87) (u88 := u88) (u89 := u89) (u90 := u90) (u91 := u91) (u92 := u92) (u93 := u93) (u94 := u94) (u95 := u95) (u96 := u96) (u97 := u97) (u98 := u98) (u99 := u99) (u100 := u100) (u101 := u101) (u102 := u102) (u103 := u103) (u104 := u104) (u105 := u105) (u106 := u106) (u107 := u107) (u108 := u108) (u109 := u109) (u110 := u110) (u111 := u111) (u112 := u112) (u113 := u113) (u114 := u114) (u115 := u115) (u116 := u116) (u117 := u117) (u118 := u118) (u119 := u119) (u120 := u120) (u121 := u121) (u122 := u122) (u123 := u123) (u124 := u124) (u125 := u125) (u126 := u126) (u127 := u127) (u128 := u128) (u129 := u129) (u130 := u130) (u131 := u131) (u132 := u132) (u133 := u133) (u134 := u134) (u135 := u135) (u136 := u136) (u137 := u137) (u138 := u138) (u139 := u139) (u140 := u140) (u141 := u141) (u142 := u142) (u143 := u143) (u144 := u144) (u145 := u145) (u146 := u146) (u147 := u147) (u148 := u148) (u149 := u149) (u150 := u150) (u151 := u151) (u152 := u152) (u153 := u153) (u154 := u154) (u155 := u155) (u156 := u156) (u157 := u157) (u158 := u158) (u159 := u159) (u160 := u160) (u161 := u161) (u162 := u162) (u163 := u163) (u164 := u164) (u165 := u165) (u166 := u166) (u167 := u167) (u168 := u168) (u169 := u169) (u170 := u170) (u171 := u171) (u172 := u172) (u173 := u173) (u174 := u174) (u175 := u175) (u176 := u176) (u177 := u177) (u178 := u178) (u179 := u179) (u180 := u180) (u181 := u181) (u182 := u182) (u183 := u183) (u184 := u184) (u185 := u185) (u186 := u186) (u187 := u187) (u188 := u188) (u189 := u189) (u190 := u190) (u191 := u191) (u192 := u192) (u193 := u193) (u194 := u194) (u195 := u195) (u196 := u196) (u197 := u197) (u198 := u198) (u199 := u199) (u200 := u200) (u201 := u201) (u202 := u202) (u203 := u203) (u204 := u204) (u205 := u205) (u206 := u206) (u207 := u207) (u208 := u208) (u209 := u209) (u210 := u210) (u211 := u211) (u212 := u212) (u213 := u213) (u214 := u214) (u215 := u215) (u216 := u216) (u217 := u217) (u218 := u218) (u219 := u219)

theorem node_ends.calls (k g : Nat) (s s9 : Rs) (dv av : Value) (w0 w : World) (h : RSt w0 w g s dv av) (hl : s.ac.length ≤ 900000) (hd : s.ds.length ≤ 900000) (hf : node_ends.f k s = some s9) :
  Calls Tryz.prog 64 #[.pointer (some ⟨g, 0, none⟩)] w fun e w' => e = .returned (.tuple #[]) ∧ (∃ dv' av', RSt w0 w' g s9 dv' av') ∧ Kr w w' g dv av := by
 unfold node_ends.f at hf
 obtain ⟨⟨on, oe⟩, A1, hf⟩ := Option.bind_eq_some_iff.mp hf
 obtain ⟨s0, A2, hf⟩ := Option.bind_eq_some_iff.mp hf
 obtain ⟨b1, A3, hf⟩ := Option.bind_eq_some_iff.mp hf
 obtain ⟨s1, A4, hf⟩ := Option.bind_eq_some_iff.mp hf
 obtain ⟨⟨me, e1⟩, A5, hf⟩ := Option.bind_eq_some_iff.mp hf
 obtain ⟨s2, A6, hf⟩ := Option.bind_eq_some_iff.mp hf
 obtain ⟨⟨last, e2⟩, A7, hf⟩ := Option.bind_eq_some_iff.mp hf
 obtain ⟨s3, A8, hf⟩ := Option.bind_eq_some_iff.mp hf
 obtain ⟨s4, A9, hf⟩ := Option.bind_eq_some_iff.mp hf
 obtain ⟨⟨t, p, d, r, s5⟩, A10, hf⟩ := Option.bind_eq_some_iff.mp hf
 dsimp only at A2 A3 A4 A6 A8 A9 hf
 have q0 : s0.ac = s.ac ∧ s0.ds = s.ds := by rw [← Option.some.inj A2]; exact ⟨Rs.fl_ac _ _, Rs.fl_ds _ _⟩
 have q1 : s1.ac.length ≤ 900001 ∧ s1.ds = s.ds := by
  rw [← Option.some.inj A4]
  split
  ·refine ⟨?_, q0.2⟩
   show (s0.ac ++ [_]).length ≤ _
   rw [List.length_append, List.length_singleton, q0.1]
   omega
  rw [q0.1]
  exact ⟨by omega, q0.2⟩
 have q3 : s3.ac = s1.ac ∧ s3.ds = s.ds := by rw [← Option.some.inj A8, ← Option.some.inj A6, Rs.fl_ac, Rs.fl_ac, Rs.fl_ds, Rs.fl_ds]; exact ⟨rfl, q1.2⟩
 have q4 : s4.ac = s1.ac := by
  rw [← Option.some.inj A9]
  split
  ·rw [Rs.dev_ac, q3.1]
  rw [q3.1]
 have q5 : s5.ac = s1.ac := by rw [(node_at_ac A10).1, q4]
 have HO := asd A1
 have HS0 := asd A2
 have HB1 := asd A3
 have HS1 := asd A4
 have HA := asd A5
 have HS2 := asd A6
 have HL := asd A7
 have HS3 := asd A8
 have HS4 := asd A9
 have HT := asd A10
 have HF := asd hf
 have hl0 := asd (show s0.ac.length ≤ 900000 by rw [q0.1]; exact hl)
 have hd3 := asd (show s3.ds.length ≤ 900000 by rw [q3.2]; exact hd)
 have hl5 := asd (show s5.ac.length ≤ 900001 by rw [q5]; exact q1.1)
 have W0 := asd h.bel
 have hu30 := Tryz.underlying30
 have H := asd h
 have K := asd (Kr.refl w g dv av)
 have AD := asd (At.refl w.heap.size dv)
 have AA := asd (At.refl w.heap.size av)
 clear h A1 A2 A3 A4 A5 A6 A7 A8 A9 A10 hf hl hd q0 q1 q3 q4 q5
 go_enter Tryz.func64, Tryz.ntmps64
 go_upto_region 1 with (first | ((with_reducible refine gate_callee (f := 40) rfl ?_); refine gC (some 12) Tryz.func40 (node_owner.calls g s dv av on oe w0 _ H.out HO.out) ?_; rintro e wx1 ⟨rfl, hs, hk⟩; refine ⟨_, rfl, ?_⟩; replace K := asd (K.out.thenG hk); replace H := asd (hs); clear hs hk; replace H := asd (show RSt w0 wx1 g s0 (dv) (av) from by have q := H.out; have e_ := Option.some.inj HS0.out; rw [← e_]; exact q); have hc0 : wx1.cell? ⟨g, 0, none⟩ = some (.int .i64 (s0).id) := (by have q := H.out.c0; (try simp only [Rs.fls] at q); exact q); have hf0 := H.out.fz 0; have hc13 : wx1.cell? ⟨g, 13, none⟩ = some (.int .i64 (s0).ve) := (by have q := H.out.c13; (try simp only [Rs.fls] at q); exact q); have hf13 := H.out.fz 13; have hc8 : wx1.cell? ⟨g, 8, none⟩ = some (.int .u16 (s0).me) := (by have q := H.out.c8; (try simp only [Rs.fls] at q); exact q); have hf8 := H.out.fz 8))
 (try simp only [Act.put, List.setIfInBounds_toArray, List.set_cons_zero, List.set_cons_succ])
 go_cut [36] (fun v36 wc => v36 = .bool b1 ∧ Aside0 (RSt w0 wc g s0 dv av) ∧ Aside0 (Kr w wc g dv av))
 case first =>
  have hb1 := HB1.out
  unfold node_ends.b at hb1
  by_cases c1 : on = s0.id
  ·have c1a : (on != s0.id) = false := bne_eq_false_iff_eq.mpr c1
   rw [if_pos c1] at hb1
   obtain rfl := Option.some.inj hb1
   clear c1
   go_wp2
   go_meet
   case rel => exact ⟨rfl, H, K⟩
  have c1a : (on != s0.id) = true := bne_iff_ne.mpr c1
  rw [if_neg c1] at hb1
  by_cases c2 : s0.ve = 0
  ·have c2a : (s0.ve == 0) = true := beq_iff_eq.mpr c2
   rw [if_pos c2] at hb1
   have HHas := asd hb1
   clear c2 hb1
   go_wp2_with (first | (go_at_call 17; (with_reducible refine (frame_Has.calls s0.me on b1 _ HHas.out).mono ?_); rintro e w' ⟨rfl, ⟨nd, rfl⟩⟩))
   go_meet
   case rel => exact ⟨rfl, ⟨H.out.drewN _⟩, ⟨K.out.drewN _⟩⟩
  have c2a : (s0.ve == 0) = false := beq_eq_false_iff_ne.mpr c2
  rw [if_neg c2] at hb1
  obtain rfl := Option.some.inj hb1
  go_wp2
  go_meet
  case rel => exact ⟨rfl, H, K⟩
 case rest =>
  clear H K hc0 hf0 hc13 hf13 hc8 hf8
  obtain ⟨e36, H, K⟩ := hcut
  subst e36
  go_upto_if 36 with (fail)
  (try simp only [Act.put, List.setIfInBounds_toArray, List.set_cons_zero, List.set_cons_succ])
  go_cut [] (fun wc => ∃ av', Aside0 (RSt w0 wc g s1 dv av') ∧ Aside0 (Kr w wc g dv av) ∧ Aside0 (At w.heap.size av av'))
  case first =>
   cases b1 with
   | true =>
    go_wp2_with (first | ((with_reducible refine gate_callee (f := 53) rfl ?_); refine gC (some 39) Tryz.func53 (node_note.calls g s0 dv av 4 on w0 _ H.out (by have := hl0.out; omega)) ?_; rintro e wx32 ⟨rfl, ⟨v2_wx32, hs, hat⟩, hk⟩; refine ⟨_, rfl, ?_⟩; have nK := asd (K.out.trans AD.out AA.out hk.wideD); have nAA := asd (AA.out.trans K.out.1 hat); have nH := asd (hs); clear K AA H; have K := nK; have AA := nAA; have H := nH; clear nK nAA nH hs hat hk))
    go_meet
    case rel => exact ⟨_, ⟨by have e := Option.some.inj HS1.out; (first | rw [if_pos rfl] at e | rw [if_pos trivial] at e); rw [← e]; exact H.out⟩, K, AA⟩
   | false =>
    go_wp2
    go_meet
    case rel => exact ⟨_, ⟨by have e := Option.some.inj HS1.out; rw [if_neg (by decide)] at e; rw [← e]; exact H.out⟩, K, AA⟩
  case rest =>
   clear H K AA
   obtain ⟨av1, H, K, AA⟩ := hcut
   go_step
   exact node_ends.tail0 k g s1 s2 s3 s4 s5 s9 dv av av1 on me e1 e2 t p d r last w0 w wc W0 H K AA HA HS2 HL HS3 HS4 HT HF hd3 hl5 (u1 := undef) (u3 := undef) (u4 := undef) (u5 := undef) (u6 := undef) (u7 := undef) (u8 := undef) (u9 := undef) (u10 := undef) (u11 := u11) (u12 := u12) (u13 := u13) (u14 := u14) (u15 := u15) (u16 := u16) (u17 := u17) (u18 := u18) (u19 := u19) (u20 := u20) (u21 := u21) (u22 := u22) (u23 := u23) (u24 := u24) (u25 := u25) (u26 := u26) (u27 := u27) (u28 := u28) (u29 := u29) (u30 := u30) (u31 := u31) (u32 := u32) (u33 := u33) (u34 := u34) (u35 := u35) (u36 := u36) (u37 := u37) (u38 := u38) (u39 := u39) (u40 := u40) (u41 := u41) (u42 := u42) (u43 := u43) (u44 := u44) (u45 := u45) (u46 := u46) (u47 := u47) (u48 := u48) (u49 := u49) (u50 := u50) (u51 := u51) (u52 := u52) (u53 := u53) (u54 := u54) (u55 := u55) (u56 := u56) (u57 := u57) (u58 := u58) (u59 := u59) (u60 := u60) (u61 := u61) (u62 := u62) (u63 := u63) (u64 := u64) (u65 := u65) (u66 := u66) (u67 := u67) (u68 := u68) (u69 := u69) (u70 := u70) (u71 := u71) (u72 := u72) (u73 := u73) (u74 := u74) (u75 := u75) (u76 := u76) (u77 := u77) (u78 := u78) (u79 := u79) (u80 := u80) (u81 := u81) (u82 := u82) (u83 := u83) (u84 := u84) (u85 := u85) (u86 := u86) (u87 := u87) (u88 := u88) (u89 := u89) (u90 := u90) (u91 := u91) (u92 := u92) (u93 := u93) (u94 := u94) (u95 := u95) (u96 := u96) (u97 := u97) (u98 := u98) (u99 := u99) (u100 := u100) (u101 := u101) (u102 := u102) (u103 := u103) (u104 := u104) (u105 := u105) (u106 := u106) (u107 := u107) (u108 := u108) (u109 := u109) (u110 := u110) (u111 := u111) (u112 := u112) (u113 := u113) (u114 := u114) (u115 := u115) (u116 := u116) (u117 := u117) (u118 := u118) (u119 := u119) (u120 := u120) (u121 := u121) (u122 := u122) (u123 := u123) (u124 := u124) (u125 := u125) (u126 := u126) (u127 := u127) (u128 := u128) (u129 := u129) (u130 := u130) (u131 := u131) (u132 := u132) (u133 := u133) (u134 := u134) (u135 := u135) (u136 := u136) (u137 := u137) (u138 := u138) (u139 := u139) (u140 := u140) (u141 := u141) (u142 := u142) (u143 := u143) (u144 := u144) (u145 := u145) (u146 := u146) (u147 := u147) (u148 := u148) (u149 := u149) (u150 := u150) (u151 := u151) (u152 := u152) (u153 := u153) (u154 := u154) (u155 := u155) (u156 := u156) (u157 := u157) (u158 := u158) (u159 := u159) (u160 := u160) (u161 := u161) (u162 := u162) (u163 := u163) (u164 := u164) (u165 := u165) (u166 := u166) (u167 := u167) (u168 := u168) (u169 := u169) (u170 := u170) (u171 := u171) (u172 := u172) (u173 := u173) (u174 := u174) (u175 := u175) (u176 := u176) (u177 := u177) (u178 := u178) (u179 := u179) (u180 := u180) (u181 := u181) (u182 := u182) (u183 := u183) (u184 := u184) (u185 := u185) (u186 := u186) (u187 := u187) (u188 := u188) (u189 := u189) (u190 := undef) (u191 := u191) (u192 := u192) (u193 := u193) (u194 := u194) (u195 := u195) (u196 := u196) (u197 := u197) (u198 := u198) (u199 := u199) (u200 := u200) (u201 := u201) (u202 := u202) (u203 := u203) (u204 := u204) (u205 := u205) (u206 := undef) (u207 := u207) (u208 := u208) (u209 := u209) (u210 := u210) (u211 := u211) (u212 := u212) (u213 := u213) (u214 := u214) (u215 := u215) (u216 := u216) (u217 := u217) (u218 := u218) (u219 := u219)

/-- What a timer does. -/
def node_tick.f (k : Nat) (now : Int) (s : Rs) : Option Rs := if s.ph = 1 then node_starts.f k s now else if s.ph = 2 then (medl_Owner.f s.m0 s.m1 s.m2 s.m3 s.m4 s.sl).bind fun o => (some (s.fl o.2)).bind fun u => if s.ac.length ≤ 900000 ∧ s.ds.length ≤ 900000 then (if o.1 = s.id then (if s.se = false then node_sends.f k u else node_ends.f k u) else node_ends.f k u) else none else some s
theorem node_tick.calls (k b9 b5 g : Nat) (s s2 : Rs) (dv av : Value) (now : Int) (w0 w : World) (h : RSt w0 w g s dv av) (h9 : w.heap[b9]? = some (.cells #[.pointer (some ⟨g, 0, none⟩)] 74 (0, 0))) (h5 : w.heap[b5]? = some (.cells #[.int .i64 now] 2 (0, 0))) (hl : s.ac.length ≤ 900000) (hf : node_tick.f k now s = some s2) :
  Calls Tryz.prog 61 #[.pointer (some ⟨b9, 0, none⟩), .pointer (some ⟨b5, 0, none⟩)] w fun e w' => e = .returned (.tuple #[]) ∧ (∃ dv' av', RSt w0 w' g s2 dv' av') ∧ Kr w w' g dv av := by
 have H := asd h
 have K := asd (Kr.refl w g dv av)
 have AD := asd (At.refl w.heap.size dv)
 have AA := asd (At.refl w.heap.size av)
 have W0 := asd h.bel
 have B9 := asd h9
 have N9_g := asd (blk_ne h9 h.b (by decide) : b9 ≠ g)
 have B5 := asd h5
 have N5_g := asd (blk_ne h5 h.b (by decide) : b5 ≠ g)
 have hlen := asd hl
 have hb9 := ca1 B9
 have hb5 := ca1 B5
 have hc1 : w.cell? ⟨g, 1, none⟩ = some (.int .i64 (s).ph) := (by have q := H.out.c1; (try simp only [Rs.fls] at q); exact q)
 have hf1 := H.out.fz 1
 unfold node_tick.f at hf
 clear h h9 h5 hl
 by_cases c : s.ph = 1
 ·have ca : (s.ph == 1) = true := beq_iff_eq.mpr c
  rw [if_pos c] at hf
  have HF := asd hf
  clear hf
  go_enter Tryz.func61, Tryz.ntmps61
  go_wp2_with (first | ((with_reducible refine gate_callee (f := 62) rfl ?_); refine gC (some 13) Tryz.func62 (node_starts.calls k g s s2 dv av now w0 _ H.out hlen.out HF.out) ?_; rintro e wx1 ⟨rfl, ⟨v2_, hs, hat⟩, hk⟩; refine ⟨_, rfl, ?_⟩; have HS := asd hs; have HK := asd hk; clear hs hat hk))
  first | go_end0 | go_ret | ((try simp only [Exit.inBlock, Exit.then]); refine bodyPost_ret (results_none rfl _ _ _) rfl ?_)
  exact ⟨rfl, ⟨_, _, HS.out⟩, HK.out.wideD⟩
 have ca : (s.ph == 1) = false := beq_eq_false_iff_ne.mpr c
 rw [if_neg c] at hf
 by_cases d : s.ph = 2
 case neg =>
  have da : (s.ph != 2) = true := bne_iff_ne.mpr d
  rw [if_neg d] at hf
  obtain rfl := Option.some.inj hf
  go_enter Tryz.func61, Tryz.ntmps61
  go_wp2
  first | go_end0 | go_ret | ((try simp only [Exit.inBlock, Exit.then]); refine bodyPost_ret (results_none rfl _ _ _) rfl ?_)
  exact ⟨rfl, ⟨_, _, H.out⟩, K.out⟩
 have da : (s.ph != 2) = false := bne_eq_false_iff_eq.mpr d
 rw [if_pos d] at hf
 obtain ⟨⟨on, oe⟩, A1, hf⟩ := Option.bind_eq_some_iff.mp hf
 obtain ⟨u, A2, hf⟩ := Option.bind_eq_some_iff.mp hf
 by_cases hq : s.ac.length ≤ 900000 ∧ s.ds.length ≤ 900000
 case neg =>
  rw [if_neg hq] at hf
  exact nomatch hf
 rw [if_pos hq] at hf
 have hlu := asd (show u.ac.length ≤ 900000 ∧ u.ds.length ≤ 900000 by rw [← Option.some.inj A2, Rs.fl_ac, Rs.fl_ds]; exact hq)
 have HO := asd A1
 have HU := asd A2
 dsimp only at hf
 clear A1 A2 hq
 go_enter Tryz.func61, Tryz.ntmps61
 go_upto_region 4 with (fail)
 clear hb9 hb5 hc1 hf1
 by_cases c8 : on = s.id
 ·have c8a : (on == s.id) = true := beq_iff_eq.mpr c8
  rw [if_pos c8] at hf
  clear c8
  by_cases c9 : s.se = false
  ·have c9a : (!s.se) = true := by rw [c9]; rfl
   rw [if_pos c9] at hf
   have HF := asd hf
   clear hf c9
   refine start_ (n := 17) (S := fun w' => w'.cell? ⟨b9, 0, none⟩ = some (.pointer (some ⟨g, 0, none⟩)) ∧ w'.cell? ⟨g, 0, none⟩ = some (.int .i64 (s).id) ∧ w'.cell? ⟨g, 12, none⟩ = some (.bool (s).se)) (ds := []) (fb 17 0) (by kernel_rfl) rfl rfl ⟨(blk_cell B9.out 0).trans rfl, H.out.c0, H.out.c12⟩ (fun hHeld => ?_)
   replace B9 := asd (blk_drew B9.out)
   replace B5 := asd (blk_drew B5.out)
   replace H := asd (H.out.drew)
   replace K := asd (K.out.drew)
   generalize (w).drew = wd1 at B9 B5 H K hHeld ⊢
   refine ti 0 22 17 1 hHeld ?_
   refine ti 2 24 17 5 hHeld ?_
   refine pi 3 25 17 13 ?_
   refine pi 4 26 17 29 ?_
   refine pi 5 27 17 61 ?_
   refine ti 6 28 17 125 hHeld ?_
   refine one_ (i := 1) (N := some 23) (fb 17 127) rfl rfl (by kernel_rfl) (by decide) (fun K_ hK_ => ?_)
   refine goesV_ Tryz.func40 (by kernel_rfl) rfl #[.pointer (some ⟨g, 0, none⟩)] (by rfl) rfl rfl (by first | rfl | (simp; done) | (go_simp; done)) (by (try simp only [List.map_toArray, List.map_cons, List.map_nil]); first | done | rfl) ?_
   with_reducible refine (node_owner.calls g s dv av on oe w0 _ H.out HO.out).mono ?_
   rintro e wx2 ⟨rfl, hs, hk⟩
   refine ⟨_, rfl, ?_⟩
   replace K := asd (K.out.thenG hk)
   replace H := asd (hs)
   replace B9 := asd (hk.blk B9.out N9_g.out (by simp [Value.ownBlock]) (by simp [Value.ownBlock]))
   replace B5 := asd (hk.blk B5.out N5_g.out (by simp [Value.ownBlock]) (by simp [Value.ownBlock]))
   clear hs hk
   refine hK_.out _ _ ⟨(blk_cell B9.out 0).trans rfl, (by have q := H.out.c0; simp only [Rs.fls] at q; exact q), (by have q := H.out.c12; simp only [Rs.fls] at q; exact q)⟩ (fun hHeld => ?_)
   clear hK_ K_
   refine pi 7 29 17 255 ?_
   refine pi 8 30 17 511 ?_
   refine ti 9 31 17 1023 hHeld ?_
   refine pi 10 32 17 2047 ?_
   refine pi 11 33 17 4095 ?_
   refine pi 12 34 17 8191 ?_
   refine ti 13 35 17 16383 hHeld ?_
   refine pi 14 36 17 32767 ?_
   refine pi 15 37 17 65535 ?_
   refine pi 16 21 17 131071 ?_
   refine done_ (by kernel_rfl) ?_
   replace H := asd (show RSt w0 wx2 g u (dv) (av) from by have q := H.out; have e_ := Option.some.inj HU.out; rw [← e_]; exact q)
   have hb9 := ca1 B9
   go_wp2_with (first | ((with_reducible refine gate_callee (f := 63) rfl ?_); refine gC (some 39) Tryz.func63 (node_sends.calls k g u s2 dv av w0 _ H.out (by have := hlu.out; exact this.1) HF.out) ?_; rintro e wy ⟨rfl, ⟨dv2, av2, hs⟩, hk⟩; refine ⟨_, rfl, ?_⟩; have HS := asd hs; have HK := asd (K.out.trans AD.out AA.out hk); clear hs hk))
   first | go_end0 | go_ret | ((try simp only [Exit.inBlock, Exit.then]); refine bodyPost_ret (results_none rfl _ _ _) rfl ?_)
   exact ⟨rfl, ⟨_, _, HS.out⟩, HK.out⟩
  have c9a : (!s.se) = false := by
   cases q : s.se with
   | false => exact absurd q c9
   | true => rfl
  rw [if_neg c9] at hf
  have HF := asd hf
  clear hf c9
  refine start_ (n := 17) (S := fun w' => w'.cell? ⟨b9, 0, none⟩ = some (.pointer (some ⟨g, 0, none⟩)) ∧ w'.cell? ⟨g, 0, none⟩ = some (.int .i64 (s).id) ∧ w'.cell? ⟨g, 12, none⟩ = some (.bool (s).se)) (ds := []) (fb 17 0) (by kernel_rfl) rfl rfl ⟨(blk_cell B9.out 0).trans rfl, H.out.c0, H.out.c12⟩ (fun hHeld => ?_)
  replace B9 := asd (blk_drew B9.out)
  replace B5 := asd (blk_drew B5.out)
  replace H := asd (H.out.drew)
  replace K := asd (K.out.drew)
  generalize (w).drew = wd1 at B9 B5 H K hHeld ⊢
  refine ti 0 22 17 1 hHeld ?_
  refine ti 2 24 17 5 hHeld ?_
  refine pi 3 25 17 13 ?_
  refine pi 4 26 17 29 ?_
  refine pi 5 27 17 61 ?_
  refine ti 6 28 17 125 hHeld ?_
  refine one_ (i := 1) (N := some 23) (fb 17 127) rfl rfl (by kernel_rfl) (by decide) (fun K_ hK_ => ?_)
  refine goesV_ Tryz.func40 (by kernel_rfl) rfl #[.pointer (some ⟨g, 0, none⟩)] (by rfl) rfl rfl (by first | rfl | (simp; done) | (go_simp; done)) (by (try simp only [List.map_toArray, List.map_cons, List.map_nil]); first | done | rfl) ?_
  with_reducible refine (node_owner.calls g s dv av on oe w0 _ H.out HO.out).mono ?_
  rintro e wx2 ⟨rfl, hs, hk⟩
  refine ⟨_, rfl, ?_⟩
  replace K := asd (K.out.thenG hk)
  replace H := asd (hs)
  replace B9 := asd (hk.blk B9.out N9_g.out (by simp [Value.ownBlock]) (by simp [Value.ownBlock]))
  replace B5 := asd (hk.blk B5.out N5_g.out (by simp [Value.ownBlock]) (by simp [Value.ownBlock]))
  clear hs hk
  refine hK_.out _ _ ⟨(blk_cell B9.out 0).trans rfl, (by have q := H.out.c0; simp only [Rs.fls] at q; exact q), (by have q := H.out.c12; simp only [Rs.fls] at q; exact q)⟩ (fun hHeld => ?_)
  clear hK_ K_
  refine pi 7 29 17 255 ?_
  refine pi 8 30 17 511 ?_
  refine ti 9 31 17 1023 hHeld ?_
  refine pi 10 32 17 2047 ?_
  refine pi 11 33 17 4095 ?_
  refine pi 12 34 17 8191 ?_
  refine ti 13 35 17 16383 hHeld ?_
  refine pi 14 36 17 32767 ?_
  refine pi 15 37 17 65535 ?_
  refine pi 16 21 17 131071 ?_
  refine done_ (by kernel_rfl) ?_
  replace H := asd (show RSt w0 wx2 g u (dv) (av) from by have q := H.out; have e_ := Option.some.inj HU.out; rw [← e_]; exact q)
  have hb9 := ca1 B9
  go_wp2_with (first | ((with_reducible refine gate_callee (f := 64) rfl ?_); refine gC (some 3) Tryz.func64 (node_ends.calls k g u s2 dv av w0 _ H.out (by have := hlu.out; exact this.1) (by have := hlu.out; exact this.2) HF.out) ?_; rintro e wy ⟨rfl, ⟨dv2, av2, hs⟩, hk⟩; refine ⟨_, rfl, ?_⟩; have HS := asd hs; have HK := asd (K.out.trans AD.out AA.out hk); clear hs hk))
  first | go_end0 | go_ret | ((try simp only [Exit.inBlock, Exit.then]); refine bodyPost_ret (results_none rfl _ _ _) rfl ?_)
  exact ⟨rfl, ⟨_, _, HS.out⟩, HK.out⟩
 have c8a : (on == s.id) = false := beq_eq_false_iff_ne.mpr c8
 rw [if_neg c8] at hf
 have HF := asd hf
 clear hf
 refine start_ (n := 17) (S := fun w' => w'.cell? ⟨b9, 0, none⟩ = some (.pointer (some ⟨g, 0, none⟩)) ∧ w'.cell? ⟨g, 0, none⟩ = some (.int .i64 (s).id) ∧ w'.cell? ⟨g, 12, none⟩ = some (.bool (s).se)) (ds := []) (fb 17 0) (by kernel_rfl) rfl rfl ⟨(blk_cell B9.out 0).trans rfl, H.out.c0, H.out.c12⟩ (fun hHeld => ?_)
 replace B9 := asd (blk_drew B9.out)
 replace B5 := asd (blk_drew B5.out)
 replace H := asd (H.out.drew)
 replace K := asd (K.out.drew)
 generalize (w).drew = wd1 at B9 B5 H K hHeld ⊢
 refine ti 0 22 17 1 hHeld ?_
 refine ti 2 24 17 5 hHeld ?_
 refine pi 3 25 17 13 ?_
 refine pi 4 26 17 29 ?_
 refine pi 5 27 17 61 ?_
 refine ti 6 28 17 125 hHeld ?_
 refine one_ (i := 1) (N := some 23) (fb 17 127) rfl rfl (by kernel_rfl) (by decide) (fun K_ hK_ => ?_)
 refine goesV_ Tryz.func40 (by kernel_rfl) rfl #[.pointer (some ⟨g, 0, none⟩)] (by rfl) rfl rfl (by first | rfl | (simp; done) | (go_simp; done)) (by (try simp only [List.map_toArray, List.map_cons, List.map_nil]); first | done | rfl) ?_
 with_reducible refine (node_owner.calls g s dv av on oe w0 _ H.out HO.out).mono ?_
 rintro e wx2 ⟨rfl, hs, hk⟩
 refine ⟨_, rfl, ?_⟩
 replace K := asd (K.out.thenG hk)
 replace H := asd (hs)
 replace B9 := asd (hk.blk B9.out N9_g.out (by simp [Value.ownBlock]) (by simp [Value.ownBlock]))
 replace B5 := asd (hk.blk B5.out N5_g.out (by simp [Value.ownBlock]) (by simp [Value.ownBlock]))
 clear hs hk
 refine hK_.out _ _ ⟨(blk_cell B9.out 0).trans rfl, (by have q := H.out.c0; simp only [Rs.fls] at q; exact q), (by have q := H.out.c12; simp only [Rs.fls] at q; exact q)⟩ (fun hHeld => ?_)
 clear hK_ K_
 refine pi 7 29 17 255 ?_
 refine pi 8 30 17 511 ?_
 refine pw (i := 9) (N := some 31) (fb 17 1023) ?_
 refine pw (i := 10) (N := some 32) (fb 17 2047) ?_
 refine pw (i := 11) (N := some 33) (fb 17 4095) ?_
 refine pw (i := 12) (N := some 34) (fb 17 8191) ?_
 refine pw (i := 13) (N := some 35) (fb 17 16383) ?_
 refine pw (i := 14) (N := some 36) (fb 17 32767) ?_
 refine pi 15 37 17 65535 ?_
 refine pi 16 21 17 131071 ?_
 refine done_ (by kernel_rfl) ?_
 replace H := asd (show RSt w0 wx2 g u (dv) (av) from by have q := H.out; have e_ := Option.some.inj HU.out; rw [← e_]; exact q)
 have hb9 := ca1 B9
 go_wp2_with (first | ((with_reducible refine gate_callee (f := 64) rfl ?_); refine gC (some 3) Tryz.func64 (node_ends.calls k g u s2 dv av w0 _ H.out (by have := hlu.out; exact this.1) (by have := hlu.out; exact this.2) HF.out) ?_; rintro e wy ⟨rfl, ⟨dv2, av2, hs⟩, hk⟩; refine ⟨_, rfl, ?_⟩; have HS := asd hs; have HK := asd (K.out.trans AD.out AA.out hk); clear hs hk))
 first | go_end0 | go_ret | ((try simp only [Exit.inBlock, Exit.then]); refine bodyPost_ret (results_none rfl _ _ _) rfl ?_)
 exact ⟨rfl, ⟨_, _, HS.out⟩, HK.out⟩

/-- node_Timer. -/
def node_Timer.f (k : Nat) (m0 m1 m2 m3 m4 n_id n_ph n_sl n_st n_op n_od n_orr n_co n_me n_tg n_tb : Int) (l : List Int) (n_se : Bool) (n_ve now : Int) : Option (Int × Int × Int × Int × Int × Int × Int × Int × Int × Int × Int × List Int × Bool × Int × List S66 × Int) := (node_begin.f k m0 m1 m2 m3 m4 n_id n_ph n_sl n_st n_op n_od n_orr n_co n_me n_tg n_tb n_ve n_se l now).bind fun e => (if e = 0 then node_tick.f k now (⟨n_id, n_ph, n_sl, n_st, n_op, n_od, n_orr, n_co, n_me, n_tg, n_tb, l, n_se, n_ve, m0, m1, m2, m3, m4, [], 0⟩ : Rs) else some { (⟨n_id, n_ph, n_sl, n_st, n_op, n_od, n_orr, n_co, n_me, n_tg, n_tb, l, n_se, n_ve, m0, m1, m2, m3, m4, [], 0⟩ : Rs) with er := e }).bind fun s2 => some (nodeTold { (⟨n_id, n_ph, n_sl, n_st, n_op, n_od, n_orr, n_co, n_me, n_tg, n_tb, l, n_se, n_ve, m0, m1, m2, m3, m4, [], 0⟩ : Rs) with er := e } s2)
theorem node_Timer.calls (k : Nat) (m0 m1 m2 m3 m4 n_id n_ph n_sl n_st n_op n_od n_orr n_co n_me n_tg n_tb : Int) (A : Option Addr) (c : Nat) (l : List Int) (n_se : Bool) (n_ve now r1 r2 r3 r4 r5 r6 r7 r8 r9 r10 r11 : Int) (r12 : List Int) (r13 : Bool) (r14 : Int) (r15 : List S66) (r16 : Int) (w : World) (hr : Kd.C (Kd.int .i64) w A l.length l) (hc : l.length ≤ c) (h : node_Timer.f k m0 m1 m2 m3 m4 n_id n_ph n_sl n_st n_op n_od n_orr n_co n_me n_tg n_tb l n_se n_ve now = some (r1, r2, r3, r4, r5, r6, r7, r8, r9, r10, r11, r12, r13, r14, r15, r16)) :
  Calls Tryz.prog 23 #[.agg #[.int .i64 m0, .int .i64 m1, .int .i64 m2, .int .i64 m3, .int .i64 m4], .agg #[.int .i64 n_id, .int .i64 n_ph, .int .u64 n_sl, .int .i64 n_st, .int .i64 n_op, .int .i64 n_od, .int .i64 n_orr, .int .i64 n_co, .int .u16 n_me, .int .i64 n_tg, .int .i64 n_tb, .slice A l.length c, .bool n_se, .int .i64 n_ve], .int .i64 now] w fun e w' => ∃ v11_ v14_ : Value, e = .returned (.tuple #[.agg #[.int .i64 r1, .int .i64 r2, .int .u64 r3, .int .i64 r4, .int .i64 r5, .int .i64 r6, .int .i64 r7, .int .i64 r8, .int .u16 r9, .int .i64 r10, .int .i64 r11, v11_, .bool r13, .int .i64 r14], v14_, .int .i64 r16]) ∧ Kd.R (Kd.int .i64) 2 w' w.heap.size (fun _ => True) v11_ r12 ∧ Kd.R k66 66 w' w.heap.size (fun _ => True) v14_ r15 ∧ Below w.heap.size w w' := by
 unfold node_Timer.f at h
 obtain ⟨e_, A1, h⟩ := Option.bind_eq_some_iff.mp h
 obtain ⟨s2, A2, h⟩ := Option.bind_eq_some_iff.mp h
 have h := Option.some.inj h
 have HA := asd A1
 have HR := asd hr
 have HC := asd hc
 have HLN := asd (show l.length < 17592186044416 from node_begin_len A1)
 have HB := asd (Below.refl w.heap.size w)
 have W0 := asd (Below.refl w.heap.size w)
 have HN := asd (show ({ (⟨n_id, n_ph, n_sl, n_st, n_op, n_od, n_orr, n_co, n_me, n_tg, n_tb, l, n_se, n_ve, m0, m1, m2, m3, m4, [], 0⟩ : Rs) with er := e_ } : Rs).er ≠ 0 → s2 = { (⟨n_id, n_ph, n_sl, n_st, n_op, n_od, n_orr, n_co, n_me, n_tg, n_tb, l, n_se, n_ve, m0, m1, m2, m3, m4, [], 0⟩ : Rs) with er := e_ } from fun hn => by rw [if_neg hn] at A2; exact (Option.some.inj A2).symm)
 have HF := asd (show ({ (⟨n_id, n_ph, n_sl, n_st, n_op, n_od, n_orr, n_co, n_me, n_tg, n_tb, l, n_se, n_ve, m0, m1, m2, m3, m4, [], 0⟩ : Rs) with er := e_ } : Rs).er = 0 → node_tick.f k now { (⟨n_id, n_ph, n_sl, n_st, n_op, n_od, n_orr, n_co, n_me, n_tg, n_tb, l, n_se, n_ve, m0, m1, m2, m3, m4, [], 0⟩ : Rs) with er := e_ } = some s2 from fun hn => by rw [if_pos hn] at A2; exact (congrArg _ (by rw [show e_ = 0 from hn])).trans A2)
 have HE := asd h
 have hmf : ∀ fn first cap w, (Instr.makeFunc fn first cap).run Tryz.prog w = .ok (.func fn first cap) w := fun _ _ _ _ => rfl
 clear hr hc h A1 A2
 go_enter Tryz.func23, Tryz.ntmps23
 go_wp2_with (first | (refine bG 3 #[.int .i64 m0, .int .i64 m1, .int .i64 m2, .int .i64 m3, .int .i64 m4] 23 ?_; intro gb3 hg wx1 B3 hb; have G3 := asd (by rw [hg]; exact HB.out.size : w.heap.size ≤ gb3); replace HB := asd (below_step HB.out hb); clear hb hg; have hb3 := ca5 B3) | (refine bG 4 #[.int .i64 n_id, .int .i64 n_ph, .int .u64 n_sl, .int .i64 n_st, .int .i64 n_op, .int .i64 n_od, .int .i64 n_orr, .int .i64 n_co, .int .u16 n_me, .int .i64 n_tg, .int .i64 n_tb, .slice A l.length c, .bool n_se, .int .i64 n_ve] 32 ?_; intro gb4 hg wx2 B4 hb; have G4 := asd (by rw [hg]; exact HB.out.size : w.heap.size ≤ gb4); have N4_3 := asd (by rw [hg]; exact Nat.ne_of_gt (blk_lt B3.out) : gb4 ≠ gb3); replace HB := asd (below_step HB.out hb); replace B3 := asd (blk_below B3.out hb); clear hb hg hb3; have hb3 := ca5 B3; have hb4 := facts14 B4.out) | (refine bG 5 #[.int .i64 now] 2 ?_; intro gb5 hg wx3 B5 hb; have G5 := asd (by rw [hg]; exact HB.out.size : w.heap.size ≤ gb5); have N5_3 := asd (by rw [hg]; exact Nat.ne_of_gt (blk_lt B3.out) : gb5 ≠ gb3); have N5_4 := asd (by rw [hg]; exact Nat.ne_of_gt (blk_lt B4.out) : gb5 ≠ gb4); replace HB := asd (below_step HB.out hb); replace B3 := asd (blk_below B3.out hb); replace B4 := asd (blk_below B4.out hb); clear hb hg hb3 hb4; have hb3 := ca5 B3; have hb4 := facts14 B4.out; have hb5 := ca1 B5) | (refine bG 6 #[.int .i64 0, .int .i64 0, .int .u64 0, .int .i64 0, .int .i64 0, .int .i64 0, .int .i64 0, .int .i64 0, .int .u16 0, .int .i64 0, .int .i64 0, .slice none 0 0, .bool false, .int .i64 0] 32 ?_; intro gb6 hg wx4 B6 hb; have G6 := asd (by rw [hg]; exact HB.out.size : w.heap.size ≤ gb6); have N6_3 := asd (by rw [hg]; exact Nat.ne_of_gt (blk_lt B3.out) : gb6 ≠ gb3); have N6_4 := asd (by rw [hg]; exact Nat.ne_of_gt (blk_lt B4.out) : gb6 ≠ gb4); have N6_5 := asd (by rw [hg]; exact Nat.ne_of_gt (blk_lt B5.out) : gb6 ≠ gb5); replace HB := asd (below_step HB.out hb); replace B3 := asd (blk_below B3.out hb); replace B4 := asd (blk_below B4.out hb); replace B5 := asd (blk_below B5.out hb); clear hb hg hb3 hb4 hb5; have hb3 := ca5 B3; have hb4 := facts14 B4.out; have hb5 := ca1 B5) | ((with_reducible refine gate_callee (f := 36) rfl ?_); refine gC (some 13) Tryz.func36 (node_begin.calls k m0 m1 m2 m3 m4 n_id n_ph n_sl n_st n_op n_od n_orr n_co n_me n_tg n_tb n_ve n_se A c l now e_ w _ HB (Kd.C_below HR.out HB.out) HC.out HLN.out HA.out) ?_; rintro e wx5 ⟨g, dv, rfl, hs, hgs, hds, hb⟩; refine ⟨_, rfl, ?_⟩; have N3_g := asd (fun e => absurd (blk_lt B3.out) (by rw [e]; omega) : gb3 ≠ g); have N4_g := asd (fun e => absurd (blk_lt B4.out) (by rw [e]; omega) : gb4 ≠ g); have N5_g := asd (fun e => absurd (blk_lt B5.out) (by rw [e]; omega) : gb5 ≠ g); have N6_g := asd (fun e => absurd (blk_lt B6.out) (by rw [e]; omega) : gb6 ≠ g); replace HB := asd (below_step HB.out hb); replace B3 := asd (blk_below B3.out hb); replace B4 := asd (blk_below B4.out hb); replace B5 := asd (blk_below B5.out hb); replace B6 := asd (blk_below B6.out hb); have H := asd hs; clear hs hgs hds hb hb3 hb4 hb5; have hb5 := ca1 B5; have hb3 := ca5 B3) | (refine bG 9 #[.pointer none] 74 ?_; intro gb9 hg wx6 B9 hb; have G9 := asd (by rw [hg]; exact HB.out.size : w.heap.size ≤ gb9); have N9_3 := asd (by rw [hg]; exact Nat.ne_of_gt (blk_lt B3.out) : gb9 ≠ gb3); have N9_4 := asd (by rw [hg]; exact Nat.ne_of_gt (blk_lt B4.out) : gb9 ≠ gb4); have N9_5 := asd (by rw [hg]; exact Nat.ne_of_gt (blk_lt B5.out) : gb9 ≠ gb5); have N9_6 := asd (by rw [hg]; exact Nat.ne_of_gt (blk_lt B6.out) : gb9 ≠ gb6); have N9_g := asd (by rw [hg]; exact Nat.ne_of_gt (blk_lt H.out.b) : gb9 ≠ g); replace HB := asd (below_step HB.out hb); replace B3 := asd (blk_below B3.out hb); replace B4 := asd (blk_below B4.out hb); replace B5 := asd (blk_below B5.out hb); replace B6 := asd (blk_below B6.out hb); replace H := asd (H.out.below hb); clear hb hg hb5 hb3; have hb9 := ca1 B9) | ((with_reducible refine gate_callee (f := 37) rfl ?_); refine gL (some 16) Tryz.func37 #[.pointer (some ⟨g, 0, none⟩), .func (.func 61) #[] #[.pointer (some ⟨gb9, 0, none⟩), .pointer (some ⟨gb5, 0, none⟩)]] ?_; have q_ := ((Wr.refl gb9 wx6).set 0 (.pointer (some ⟨g, 0, none⟩))); replace B3 := asd (q_.blk B3.out N9_3.out.symm); replace B4 := asd (q_.blk B4.out N9_4.out.symm); replace B5 := asd (q_.blk B5.out N9_5.out.symm); replace B6 := asd (q_.blk B6.out N9_6.out.symm); replace HB := asd (HB.out.trans (q_.be _ G9.out)); replace H := asd (q_.run B9.out (by decide) (by decide) (by decide) (Nat.le_trans W0.out.size G9.out) H.out); replace B9 := asd (show (World.heap _)[gb9]? = some (Obj.cells #[.pointer (some ⟨g, 0, none⟩)] 74 (0, 0)) from (blk_put (cs := #[.pointer none]) B9.out 0 (.pointer (some ⟨g, 0, none⟩)) rfl)); clear q_; refine (node_do.calls 61 Tryz.f61 #[.pointer (some ⟨gb9, 0, none⟩), .pointer (some ⟨gb5, 0, none⟩)] Tryz.func61 (by kernel_rfl) rfl g { (⟨n_id, n_ph, n_sl, n_st, n_op, n_od, n_orr, n_co, n_me, n_tg, n_tb, l, n_se, n_ve, m0, m1, m2, m3, m4, [], 0⟩ : Rs) with er := e_ } s2 dv (.slice none 0 0) w _ H.out HLN.out HN.out (fun c_ w1 hb1 => (node_tick.calls k gb9 gb5 g _ s2 dv (.slice none 0 0) now w w1 (H.out.below hb1) (blk_below B9.out hb1) (blk_below B5.out hb1) (Nat.zero_le _) (HF.out c_)).mono (fun e w2 hq => ⟨hq.1, _, _, hq.2.1.choose_spec.choose_spec, hq.2.2⟩))).mono ?_; rintro e wx7 hD; obtain ⟨sr, hsr, nv, av2, rfl, hnv, hav, hbl, hkr⟩ := hD.one; refine ⟨_, rfl, ?_⟩; have SR := hsr; have nB6 := asd (hkr.blk B6.out N6_g.out (Kd.R_ne H.out.d B6.out (by decide)) (by simp [Value.ownBlock])); clear H HB B3 B4 B5 B6 B9; have B6 := nB6; have HB := asd hbl; have RN := asd hnv; have RA := asd hav; clear nB6 hD hsr hnv hav hbl hkr; obtain ⟨An, cn, ed⟩ := Kd.R_slice RN.out; subst ed; clear hb9; have hb6 := facts14 B6.out))
 have q_ := (((((((((((((((Wr.refl gb6 wx7).set 0 (.int .i64 sr.id)).set 1 (.int .i64 sr.ph)).set 2 (.int .u64 sr.sl)).set 3 (.int .i64 sr.st)).set 4 (.int .i64 sr.op)).set 5 (.int .i64 sr.od)).set 6 (.int .i64 sr.orr)).set 7 (.int .i64 sr.co)).set 8 (.int .u16 sr.me)).set 9 (.int .i64 sr.tg)).set 10 (.int .i64 sr.tb)).set 11 (.slice An sr.ds.length cn)).set 12 (.bool sr.se)).set 13 (.int .i64 sr.ve))
 replace HB := asd (HB.out.trans (q_.be _ G6.out))
 replace RN := asd (q_.row B6.out (by decide) RN.out)
 replace RA := asd (q_.row B6.out (by decide) RA.out)
 replace B6 := asd (blk14 (.int .i64 sr.id) (.int .i64 sr.ph) (.int .u64 sr.sl) (.int .i64 sr.st) (.int .i64 sr.op) (.int .i64 sr.od) (.int .i64 sr.orr) (.int .i64 sr.co) (.int .u16 sr.me) (.int .i64 sr.tg) (.int .i64 sr.tb) (.slice An sr.ds.length cn) (.bool sr.se) (.int .i64 sr.ve) B6.out)
 clear q_
 have E : nodeTold { (⟨n_id, n_ph, n_sl, n_st, n_op, n_od, n_orr, n_co, n_me, n_tg, n_tb, l, n_se, n_ve, m0, m1, m2, m3, m4, [], 0⟩ : Rs) with er := e_ } s2 = (r1, r2, r3, r4, r5, r6, r7, r8, r9, r10, r11, r12, r13, r14, r15, r16) := HE.out
 unfold nodeTold at E
 simp only [← SR.out, Prod.mk.injEq] at E
 obtain ⟨rfl, rfl, rfl, rfl, rfl, rfl, rfl, rfl, rfl, rfl, rfl, rfl, rfl, rfl, rfl, rfl⟩ := E
 refine bodyPost_ret (results_ctt rfl _ _ gb6 32 #[.int .i64 sr.id, .int .i64 sr.ph, .int .u64 sr.sl, .int .i64 sr.st, .int .i64 sr.op, .int .i64 sr.od, .int .i64 sr.orr, .int .i64 sr.co, .int .u16 sr.me, .int .i64 sr.tg, .int .i64 sr.tb, .slice An sr.ds.length cn, .bool sr.se, .int .i64 sr.ve] (0, 0) _ rfl B6.out Tryz.underlying32 rfl (by kernel_rfl)) rfl ?_
 exact ⟨_, _, rfl, RN.out, RA.out, HB.out⟩


end Go.Proofs.YtcofclkgfandfaaGreat.Print
