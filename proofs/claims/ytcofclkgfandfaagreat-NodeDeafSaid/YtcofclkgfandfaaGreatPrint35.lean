-- PRINTED by print.py (a twelfth state) out of the translation. Not trusted: Lean checks it.
import Derived.Test.YtcofclkgfandfaaGreatSq
import Derived.Test.YtcofclkgfandfaaGreatPrint0
import Derived.Test.YtcofclkgfandfaaGreatPrint11
import Derived.Test.YtcofclkgfandfaaGreatPrint12
import Derived.Test.YtcofclkgfandfaaGreatPrint26
import Derived.Test.YtcofclkgfandfaaGreatPrint34
namespace Go.Proofs.YtcofclkgfandfaaGreat.Print
open Go.RowKit Go.Proofs.YtcofclkgfandfaaGreatW.PrintWords Go.Proofs.YtcofclkgfandfaaGreatW.PrintLast Go.Proofs.YtcofclkgfandfaaGreatW.PrintMore Go.Proofs.YtcofclkgfandfaaGreatX
attribute [local go_sem] str_lss str_geq max2_int min2_int max_two min_two max_three min_three max_four min_four   -- for this text's walks alone
set_option linter.unusedVariables false
set_option linter.unusedSimpArgs false

/-! ### node_Hear: function 10 -/
/-- What is heard. -/
def node_hears.f (k : Nat) (s : Rs) (now began : Int) (l : List Int) (bad : Bool) : Option Rs :=
 (frame_Read.f k l).bind fun r => if bad = true then some s else if r.2.2.2.2 = 0 then (if r.2.1 = s.id then some s else
  if s.ph = 1 then node_joins.f k s now began r.1 r.2.1 r.2.2.1 r.2.2.2.1 else
  if s.ph = 2 then (medl_Owner.f s.m0 s.m1 s.m2 s.m3 s.m4 s.sl).bind fun o => if o.1 = s.id then some (s.fl o.2) else if s.ve = 0 then (if s.st ≤ began then (if s.ac.length ≤ 1000000 ∧ s.ds.length ≤ 1000000 then node_judges.f k (s.fl o.2) began r.1 r.2.1 r.2.2.1 r.2.2.2.1 else none) else some (s.fl o.2)) else some (s.fl o.2)
  else some s) else some s
set_option maxHeartbeats 8000000 in
set_option maxRecDepth 100000 in
theorem node_hears.calls (k : Nat) (b10 b11 b15 b8 b9 g : Nat) (s s2 : Rs) (dv av : Value) (now began : Int) (Ab : Option Addr) (cb : Nat) (l : List Int) (bad : Bool) (w0 w : World) (h : RSt w0 w g s dv av) (h10 : w.heap[b10]? = some (.cells #[.slice Ab l.length cb] 33 (0, 0))) (h11 : w.heap[b11]? = some (.cells #[.bool bad] 4 (0, 0))) (h15 : w.heap[b15]? = some (.cells #[.pointer (some ⟨g, 0, none⟩)] 74 (0, 0))) (h8 : w.heap[b8]? = some (.cells #[.int .i64 now] 2 (0, 0))) (h9 : w.heap[b9]? = some (.cells #[.int .i64 began] 2 (0, 0))) (hr : Kd.C (Kd.int .u8) w Ab l.length l) (hc : l.length ≤ cb) (hf : node_hears.f k s now began l bad = some s2) :
  Calls Tryz.prog 38 #[.pointer (some ⟨b10, 0, none⟩), .pointer (some ⟨b11, 0, none⟩), .pointer (some ⟨b15, 0, none⟩), .pointer (some ⟨b8, 0, none⟩), .pointer (some ⟨b9, 0, none⟩)] w fun e w' => e = .returned (.tuple #[]) ∧ (∃ dv' av', RSt w0 w' g s2 dv' av') ∧ Kr w w' g dv av := by
 unfold node_hears.f at hf
 obtain ⟨⟨r1, r2, r3, r4, r5⟩, A1, hf⟩ := Option.bind_eq_some_iff.mp hf
 have HA := asd A1
 have HR := asd hr
 have HC := asd hc
 have W0 := asd h.bel
 have H := asd h
 have K := asd (Kr.refl w g dv av)
 have AD := asd (At.refl w.heap.size dv)
 have AA := asd (At.refl w.heap.size av)
 have B10 := asd h10
 have N10_g := asd (blk_ne h10 h.b (by decide) : b10 ≠ g)
 have B11 := asd h11
 have N11_g := asd (blk_ne h11 h.b (by decide) : b11 ≠ g)
 have B15 := asd h15
 have N15_g := asd (blk_ne h15 h.b (by decide) : b15 ≠ g)
 have B8 := asd h8
 have N8_g := asd (blk_ne h8 h.b (by decide) : b8 ≠ g)
 have B9 := asd h9
 have N9_g := asd (blk_ne h9 h.b (by decide) : b9 ≠ g)
 dsimp only at hf
 have HF := asd hf
 have hb10 := ca1 B10
 clear h h10 h11 h15 h8 h9 hr hc A1 hf
 go_enter Tryz.func38, Tryz.ntmps38
 go_wp2_with (first | ((with_reducible refine gate_callee (f := 12) rfl ?_); refine gL (some 9) Tryz.func12 #[.slice Ab l.length cb] ?_; (with_reducible refine (frame_Read.calls k Ab cb l r1 r2 r3 r4 r5 _ HR.out HC.out HA.out).mono ?_); rintro e wx1 ⟨rfl, hb⟩; refine ⟨_, rfl, ?_⟩; replace B10 := asd (blk_below B10.out hb); replace B11 := asd (blk_below B11.out hb); replace B15 := asd (blk_below B15.out hb); replace B8 := asd (blk_below B8.out hb); replace B9 := asd (blk_below B9.out hb); replace H := asd (H.out.below hb); replace K := asd (K.out.step hb); clear hb hb10) | ((with_reducible refine gate_dst (N := 5) rfl ?_); refine bx (N := 5) (cs := #[.int .i64 0, .int .i64 0, .int .u64 0, .int .u16 0]) (t := 43) ?_; intro gb5 hg wx2 hbox hb; have G5 := asd (by rw [hg]; exact K.out.1 : w.heap.size ≤ gb5); have N5_g := asd (by rw [hg]; exact Nat.ne_of_gt (blk_lt H.out.b) : gb5 ≠ g); replace B10 := asd (blk_below B10.out hb); replace B11 := asd (blk_below B11.out hb); replace B15 := asd (blk_below B15.out hb); replace B8 := asd (blk_below B8.out hb); replace B9 := asd (blk_below B9.out hb); replace H := asd (H.out.below hb); replace K := asd (K.out.step hb); have B5 := asd hbox; clear hb hbox hg; have hb5 := ca4 B5))
 have q_ := (((((Wr.refl gb5 wx2).set 0 (.int .i64 r1)).set 1 (.int .i64 r2)).set 2 (.int .u64 r3)).set 3 (.int .u16 r4))
 replace B10 := asd (q_.blk B10.out (blk_ne B10.out B5.out (by decide)))
 replace B11 := asd (q_.blk B11.out (blk_ne B11.out B5.out (by decide)))
 replace B15 := asd (q_.blk B15.out (blk_ne B15.out B5.out (by decide)))
 replace B8 := asd (q_.blk B8.out (blk_ne B8.out B5.out (by decide)))
 replace B9 := asd (q_.blk B9.out (blk_ne B9.out B5.out (by decide)))
 replace H := asd (q_.run B5.out (by decide) (by decide) (by decide) (Nat.le_trans W0.out.size G5.out) H.out)
 replace B5 := asd (show (World.heap _)[gb5]? = some (Obj.cells #[.int .i64 r1, .int .i64 r2, .int .u64 r3, .int .u16 r4] 43 (0, 0)) from (blk_put (cs := #[.int .i64 r1, .int .i64 r2, .int .u64 r3, .int .u16 0]) (blk_put (cs := #[.int .i64 r1, .int .i64 r2, .int .u64 0, .int .u16 0]) (blk_put (cs := #[.int .i64 r1, .int .i64 0, .int .u64 0, .int .u16 0]) (blk_put (cs := #[.int .i64 0, .int .i64 0, .int .u64 0, .int .u16 0]) B5.out 0 (.int .i64 r1) rfl) 1 (.int .i64 r2) rfl) 2 (.int .u64 r3) rfl) 3 (.int .u16 r4) rfl))
 replace K := asd (K.out.wrNew q_ G5.out)
 clear q_
 generalize ((((wx2.setCell ⟨gb5, 0, none⟩ (.int .i64 r1)).setCell ⟨gb5, 1, none⟩ (.int .i64 r2)).setCell ⟨gb5, 2, none⟩ (.int .u64 r3)).setCell ⟨gb5, 3, none⟩ (.int .u16 r4)) = wy0 at B10 B11 B15 B8 B9 B5 H K ⊢
 have hb11 := ca1 B11
 have hb15 := ca1 B15
 have hb5 := ca4 B5
 have hc0 : wy0.cell? ⟨g, 0, none⟩ = some (.int .i64 (s).id) := (by have q := H.out.c0; (try simp only [Rs.fls] at q); exact q)
 have hf0 := H.out.fz 0
 cases bad with
 | true =>
  have hf := HF.out
  rw [if_pos rfl] at hf
  obtain rfl := Option.some.inj hf
  clear HF hf
  go_region
  replace B10 := asd (blk_drew B10.out)
  replace B11 := asd (blk_drew B11.out)
  replace B15 := asd (blk_drew B15.out)
  replace B8 := asd (blk_drew B8.out)
  replace B9 := asd (blk_drew B9.out)
  replace B5 := asd (blk_drew B5.out)
  replace H := asd (H.out.drew)
  replace K := asd (K.out.drew)
  clear hb11 hb15 hb5 hc0 hf0
  generalize (wy0).drew = wd3 at B10 B11 B15 B8 B9 B5 H K ⊢
  go_wp2
  first | go_end0 | go_ret | ((try simp only [Exit.inBlock, Exit.then]); refine bodyPost_ret (results_none rfl _ _ _) rfl ?_)
  exact ⟨rfl, ⟨_, _, H.out⟩, K.out⟩
 | false =>
  by_cases c5 : r5 = 0
  ·have c5a : (r5 != 0) = false := bne_eq_false_iff_eq.mpr c5
   by_cases c6 : r2 = s.id
   ·have c6a : (r2 == s.id) = true := beq_iff_eq.mpr c6
    have hf := HF.out
    rw [if_neg (by decide), if_pos c5, if_pos c6] at hf
    obtain rfl := Option.some.inj hf
    clear HF hf
    go_region
    replace B10 := asd (blk_drew B10.out)
    replace B11 := asd (blk_drew B11.out)
    replace B15 := asd (blk_drew B15.out)
    replace B8 := asd (blk_drew B8.out)
    replace B9 := asd (blk_drew B9.out)
    replace B5 := asd (blk_drew B5.out)
    replace H := asd (H.out.drew)
    replace K := asd (K.out.drew)
    clear hb11 hb15 hb5 hc0 hf0
    generalize (wy0).drew = wd3 at B10 B11 B15 B8 B9 B5 H K ⊢
    go_wp2
    first | go_end0 | go_ret | ((try simp only [Exit.inBlock, Exit.then]); refine bodyPost_ret (results_none rfl _ _ _) rfl ?_)
    exact ⟨rfl, ⟨_, _, H.out⟩, K.out⟩
   ·have c6a : (r2 == s.id) = false := beq_eq_false_iff_ne.mpr c6
    have hf := HF.out
    rw [if_neg (by decide), if_pos c5, if_neg c6] at hf
    clear HF
    go_region
    replace B10 := asd (blk_drew B10.out)
    replace B11 := asd (blk_drew B11.out)
    replace B15 := asd (blk_drew B15.out)
    replace B8 := asd (blk_drew B8.out)
    replace B9 := asd (blk_drew B9.out)
    replace B5 := asd (blk_drew B5.out)
    replace H := asd (H.out.drew)
    replace K := asd (K.out.drew)
    clear hb11 hb15 hb5 hc0 hf0
    generalize (wy0).drew = wd3 at B10 B11 B15 B8 B9 B5 H K ⊢
    by_cases c1 : s.ph = 1
    ·have c1a : (s.ph == 1) = true := beq_iff_eq.mpr c1
     rw [if_pos c1] at hf
     have HF := asd hf
     clear hf
     have hb15 := ca1 B15
     have hb8 := ca1 B8
     have hb9 := ca1 B9
     have hb5 := ca4 B5
     have hc1 : wd3.cell? ⟨g, 1, none⟩ = some (.int .i64 (s).ph) := (by have q := H.out.c1; (try simp only [Rs.fls] at q); exact q)
     have hf1 := H.out.fz 1
     go_wp2_with (first | ((with_reducible refine gate_callee (f := 39) rfl ?_); refine gL (some 39) Tryz.func39 #[.pointer (some ⟨g, 0, none⟩), .int .i64 now, .int .i64 began, .agg #[.int .i64 r1, .int .i64 r2, .int .u64 r3, .int .u16 r4]] ?_; (with_reducible refine (node_joins.calls k g s s2 dv av now began r1 r2 r3 r4 w0 _ H.out HF.out).mono ?_); rintro e wx4 ⟨rfl, ⟨dv2, av2, hs⟩, hk⟩; refine ⟨_, rfl, ?_⟩; have HS := asd hs; have HK := asd (K.out.trans AD.out AA.out hk); clear hs hk))
     first | go_end0 | go_ret | ((try simp only [Exit.inBlock, Exit.then]); refine bodyPost_ret (results_none rfl _ _ _) rfl ?_)
     exact ⟨rfl, ⟨_, _, HS.out⟩, HK.out⟩
    ·have c1a : (s.ph == 1) = false := beq_eq_false_iff_ne.mpr c1
     rw [if_neg c1] at hf
     have hb15 := ca1 B15
     have hc1 : wd3.cell? ⟨g, 1, none⟩ = some (.int .i64 (s).ph) := (by have q := H.out.c1; (try simp only [Rs.fls] at q); exact q)
     have hf1 := H.out.fz 1
     by_cases c2 : s.ph = 2
     ·have c2a : (s.ph == 2) = true := beq_iff_eq.mpr c2
      rw [if_pos c2] at hf
      obtain ⟨⟨on, oe⟩, A7, hf⟩ := Option.bind_eq_some_iff.mp hf
      have HO := asd A7
      dsimp only at hf
      have HF := asd hf
      clear A7 hf
      go_wp2
      by_cases c7 : on = s.id
      ·have c7a : (on != s.id) = false := bne_eq_false_iff_eq.mpr c7
       have hf := HF.out
       rw [if_pos c7] at hf
       obtain rfl := Option.some.inj hf
       clear HF hf
       refine start_ (n := 34) (S := fun w' => w'.cell? ⟨b15, 0, none⟩ = some (.pointer (some ⟨g, 0, none⟩)) ∧ w'.cell? ⟨b9, 0, none⟩ = some (.int .i64 began) ∧ w'.cell? ⟨g, 0, none⟩ = some (.int .i64 s.id) ∧ w'.cell? ⟨g, 1, none⟩ = some (.int .i64 s.ph) ∧ w'.cell? ⟨g, 3, none⟩ = some (.int .i64 s.st) ∧ w'.cell? ⟨g, 13, none⟩ = some (.int .i64 s.ve)) (ds := []) (fb 34 0) (by kernel_rfl) rfl rfl ⟨(blk_cell B15.out 0).trans rfl, (blk_cell B9.out 0).trans rfl, H.out.c0, H.out.c1, H.out.c3, H.out.c13⟩ (fun hHeld => ?_)
       clear hb15 hc1 hf1
       replace B10 := asd (blk_drew B10.out)
       replace B11 := asd (blk_drew B11.out)
       replace B15 := asd (blk_drew B15.out)
       replace B8 := asd (blk_drew B8.out)
       replace B9 := asd (blk_drew B9.out)
       replace B5 := asd (blk_drew B5.out)
       replace H := asd (H.out.drew)
       replace K := asd (K.out.drew)
       generalize (wd3).drew = wd4 at B10 B11 B15 B8 B9 B5 H K hHeld ⊢
       refine tz (i := 0) (N := some 41) (fb 34 1) hHeld ?_
       refine pz (i := 1) (N := some 42) (fb 34 3) ?_
       refine pz (i := 2) (N := some 43) (fb 34 7) ?_
       refine pz (i := 3) (N := some 44) (fb 34 15) ?_
       refine tz (i := 4) (N := some 45) (fb 34 31) hHeld ?_
       refine pz (i := 5) (N := some 46) (fb 34 63) ?_
       refine pz (i := 6) (N := some 47) (fb 34 127) ?_
       refine tz (i := 7) (N := some 48) (fb 34 255) hHeld ?_
       refine tz (i := 9) (N := some 50) (fb 34 767) hHeld ?_
       refine pz (i := 10) (N := some 51) (fb 34 1791) ?_
       refine pz (i := 11) (N := some 52) (fb 34 3839) ?_
       refine pz (i := 12) (N := some 53) (fb 34 7935) ?_
       refine tz (i := 13) (N := some 54) (fb 34 16127) hHeld ?_
       refine one_ (i := 8) (N := some 49) (fb 34 16383) rfl rfl (by kernel_rfl) (by decide) (fun K_ hK_ => ?_)
       refine goesV_ Tryz.func40 (by kernel_rfl) rfl #[.pointer (some ⟨g, 0, none⟩)] (by rfl) rfl rfl (by first | rfl | (simp; done) | (go_simp; done)) (by (try simp only [List.map_toArray, List.map_cons, List.map_nil]); first | done | rfl) ?_
       with_reducible refine (node_owner.calls g s dv av on oe w0 _ H.out HO.out).mono ?_
       rintro e wx5 ⟨rfl, hs, hk⟩
       refine ⟨_, rfl, ?_⟩
       replace K := asd (K.out.thenG hk)
       replace H := asd (hs)
       replace B10 := asd (hk.blk B10.out N10_g.out (by simp [Value.ownBlock]) (by simp [Value.ownBlock]))
       replace B11 := asd (hk.blk B11.out N11_g.out (by simp [Value.ownBlock]) (by simp [Value.ownBlock]))
       replace B15 := asd (hk.blk B15.out N15_g.out (by simp [Value.ownBlock]) (by simp [Value.ownBlock]))
       replace B8 := asd (hk.blk B8.out N8_g.out (by simp [Value.ownBlock]) (by simp [Value.ownBlock]))
       replace B9 := asd (hk.blk B9.out N9_g.out (by simp [Value.ownBlock]) (by simp [Value.ownBlock]))
       replace B5 := asd (hk.blk B5.out N5_g.out (by simp [Value.ownBlock]) (by simp [Value.ownBlock]))
       clear hs hk
       refine hK_.out _ _ ⟨(blk_cell B15.out 0).trans rfl, (blk_cell B9.out 0).trans rfl, (by have q := H.out.c0; simp only [Rs.fls] at q; exact q), (by have q := H.out.c1; simp only [Rs.fls] at q; exact q), (by have q := H.out.c3; simp only [Rs.fls] at q; exact q), (by have q := H.out.c13; simp only [Rs.fls] at q; exact q)⟩ (fun hHeld => ?_)
       clear hK_ K_
       refine pz (i := 14) (N := some 55) (fb 34 32767) ?_
       refine pz (i := 15) (N := some 56) (fb 34 65535) ?_
       refine pz (i := 16) (N := some 57) (fb 34 131071) ?_
       refine pw (i := 17) (N := some 58) (fb 34 262143) ?_
       refine pw (i := 18) (N := some 59) (fb 34 524287) ?_
       refine pw (i := 19) (N := some 60) (fb 34 1048575) ?_
       refine pw (i := 20) (N := some 61) (fb 34 2097151) ?_
       refine pw (i := 21) (N := some 62) (fb 34 4194303) ?_
       refine pw (i := 22) (N := some 63) (fb 34 8388607) ?_
       refine pz (i := 23) (N := some 64) (fb 34 16777215) ?_
       refine pz (i := 24) (N := some 65) (fb 34 33554431) ?_
       refine pw (i := 25) (N := some 66) (fb 34 67108863) ?_
       refine pw (i := 26) (N := some 67) (fb 34 134217727) ?_
       refine pw (i := 27) (N := some 68) (fb 34 268435455) ?_
       refine pw (i := 28) (N := some 69) (fb 34 536870911) ?_
       refine pw (i := 29) (N := some 70) (fb 34 1073741823) ?_
       refine pw (i := 30) (N := some 71) (fb 34 2147483647) ?_
       refine pw (i := 31) (N := some 72) (fb 34 4294967295) ?_
       refine pz (i := 32) (N := some 73) (fb 34 8589934591) ?_
       refine pz (i := 33) (N := some 40) (fb 34 17179869183) ?_
       refine done_ (by kernel_rfl) ?_
       go_wp2
       first | go_end0 | go_ret | ((try simp only [Exit.inBlock, Exit.then]); refine bodyPost_ret (results_none rfl _ _ _) rfl ?_)
       exact ⟨rfl, ⟨_, _, H.out⟩, K.out⟩
      ·have c7a : (on != s.id) = true := bne_iff_ne.mpr c7
       have hf := HF.out
       rw [if_neg c7] at hf
       clear HF
       by_cases c8 : s.ve = 0
       ·have c8a : (s.ve == 0) = true := beq_iff_eq.mpr c8
        rw [if_pos c8] at hf
        by_cases c9 : s.st ≤ began
        ·have c9a : decide (s.st ≤ began) = true := decide_eq_true c9
         rw [if_pos c9] at hf
         by_cases c10 : s.ac.length ≤ 1000000 ∧ s.ds.length ≤ 1000000
         ·rw [if_pos c10] at hf
          have hlen := asd c10.1
          have hlend := asd c10.2
          have HF := asd hf
          clear hf c10
          refine start_ (n := 34) (S := fun w' => w'.cell? ⟨b15, 0, none⟩ = some (.pointer (some ⟨g, 0, none⟩)) ∧ w'.cell? ⟨b9, 0, none⟩ = some (.int .i64 began) ∧ w'.cell? ⟨g, 0, none⟩ = some (.int .i64 s.id) ∧ w'.cell? ⟨g, 1, none⟩ = some (.int .i64 s.ph) ∧ w'.cell? ⟨g, 3, none⟩ = some (.int .i64 s.st) ∧ w'.cell? ⟨g, 13, none⟩ = some (.int .i64 s.ve)) (ds := []) (fb 34 0) (by kernel_rfl) rfl rfl ⟨(blk_cell B15.out 0).trans rfl, (blk_cell B9.out 0).trans rfl, H.out.c0, H.out.c1, H.out.c3, H.out.c13⟩ (fun hHeld => ?_)
          clear hb15 hc1 hf1
          replace B10 := asd (blk_drew B10.out)
          replace B11 := asd (blk_drew B11.out)
          replace B15 := asd (blk_drew B15.out)
          replace B8 := asd (blk_drew B8.out)
          replace B9 := asd (blk_drew B9.out)
          replace B5 := asd (blk_drew B5.out)
          replace H := asd (H.out.drew)
          replace K := asd (K.out.drew)
          generalize (wd3).drew = wd4 at B10 B11 B15 B8 B9 B5 H K hHeld ⊢
          refine tz (i := 0) (N := some 41) (fb 34 1) hHeld ?_
          refine pz (i := 1) (N := some 42) (fb 34 3) ?_
          refine pz (i := 2) (N := some 43) (fb 34 7) ?_
          refine pz (i := 3) (N := some 44) (fb 34 15) ?_
          refine tz (i := 4) (N := some 45) (fb 34 31) hHeld ?_
          refine pz (i := 5) (N := some 46) (fb 34 63) ?_
          refine pz (i := 6) (N := some 47) (fb 34 127) ?_
          refine tz (i := 7) (N := some 48) (fb 34 255) hHeld ?_
          refine tz (i := 9) (N := some 50) (fb 34 767) hHeld ?_
          refine pz (i := 10) (N := some 51) (fb 34 1791) ?_
          refine pz (i := 11) (N := some 52) (fb 34 3839) ?_
          refine pz (i := 12) (N := some 53) (fb 34 7935) ?_
          refine tz (i := 13) (N := some 54) (fb 34 16127) hHeld ?_
          refine one_ (i := 8) (N := some 49) (fb 34 16383) rfl rfl (by kernel_rfl) (by decide) (fun K_ hK_ => ?_)
          refine goesV_ Tryz.func40 (by kernel_rfl) rfl #[.pointer (some ⟨g, 0, none⟩)] (by rfl) rfl rfl (by first | rfl | (simp; done) | (go_simp; done)) (by (try simp only [List.map_toArray, List.map_cons, List.map_nil]); first | done | rfl) ?_
          with_reducible refine (node_owner.calls g s dv av on oe w0 _ H.out HO.out).mono ?_
          rintro e wx5 ⟨rfl, hs, hk⟩
          refine ⟨_, rfl, ?_⟩
          replace K := asd (K.out.thenG hk)
          replace H := asd (hs)
          replace B10 := asd (hk.blk B10.out N10_g.out (by simp [Value.ownBlock]) (by simp [Value.ownBlock]))
          replace B11 := asd (hk.blk B11.out N11_g.out (by simp [Value.ownBlock]) (by simp [Value.ownBlock]))
          replace B15 := asd (hk.blk B15.out N15_g.out (by simp [Value.ownBlock]) (by simp [Value.ownBlock]))
          replace B8 := asd (hk.blk B8.out N8_g.out (by simp [Value.ownBlock]) (by simp [Value.ownBlock]))
          replace B9 := asd (hk.blk B9.out N9_g.out (by simp [Value.ownBlock]) (by simp [Value.ownBlock]))
          replace B5 := asd (hk.blk B5.out N5_g.out (by simp [Value.ownBlock]) (by simp [Value.ownBlock]))
          clear hs hk
          refine hK_.out _ _ ⟨(blk_cell B15.out 0).trans rfl, (blk_cell B9.out 0).trans rfl, (by have q := H.out.c0; simp only [Rs.fls] at q; exact q), (by have q := H.out.c1; simp only [Rs.fls] at q; exact q), (by have q := H.out.c3; simp only [Rs.fls] at q; exact q), (by have q := H.out.c13; simp only [Rs.fls] at q; exact q)⟩ (fun hHeld => ?_)
          clear hK_ K_
          refine pz (i := 14) (N := some 55) (fb 34 32767) ?_
          refine pz (i := 15) (N := some 56) (fb 34 65535) ?_
          refine pz (i := 16) (N := some 57) (fb 34 131071) ?_
          refine tz (i := 17) (N := some 58) (fb 34 262143) hHeld ?_
          refine pz (i := 18) (N := some 59) (fb 34 524287) ?_
          refine pz (i := 19) (N := some 60) (fb 34 1048575) ?_
          refine pz (i := 20) (N := some 61) (fb 34 2097151) ?_
          refine tz (i := 21) (N := some 62) (fb 34 4194303) hHeld ?_
          refine pz (i := 22) (N := some 63) (fb 34 8388607) ?_
          refine pz (i := 23) (N := some 64) (fb 34 16777215) ?_
          refine pz (i := 24) (N := some 65) (fb 34 33554431) ?_
          refine tz (i := 25) (N := some 66) (fb 34 67108863) hHeld ?_
          refine tz (i := 26) (N := some 67) (fb 34 134217727) hHeld ?_
          refine pz (i := 27) (N := some 68) (fb 34 268435455) ?_
          refine pz (i := 28) (N := some 69) (fb 34 536870911) ?_
          refine pz (i := 29) (N := some 70) (fb 34 1073741823) ?_
          refine tz (i := 30) (N := some 71) (fb 34 2147483647) hHeld ?_
          refine pz (i := 31) (N := some 72) (fb 34 4294967295) ?_
          refine pz (i := 32) (N := some 73) (fb 34 8589934591) ?_
          refine pz (i := 33) (N := some 40) (fb 34 17179869183) ?_
          refine done_ (by kernel_rfl) ?_
          have hb15 := ca1 B15
          have hb9 := ca1 B9
          have hb5 := ca4 B5
          go_wp2_with (first | ((with_reducible refine gate_callee (f := 41) rfl ?_); refine gL (some 77) Tryz.func41 #[.pointer (some ⟨g, 0, none⟩), .int .i64 began, .agg #[.int .i64 r1, .int .i64 r2, .int .u64 r3, .int .u16 r4]] ?_; (with_reducible refine (node_judges.calls k g (s.fl oe) s2 dv av began r1 r2 r3 r4 w0 _ H.out (by rw [Rs.fl_ac]; exact hlen.out) (by rw [Rs.fl_ds]; exact hlend.out) HF.out).mono ?_); rintro e wj ⟨rfl, ⟨dv2, av2, hs, hat1, hat2⟩, hk⟩; refine ⟨_, rfl, ?_⟩; have HS := asd hs; have HK := asd (K.out.trans AD.out AA.out hk); clear hs hk hat1 hat2))
          first | go_end0 | go_ret | ((try simp only [Exit.inBlock, Exit.then]); refine bodyPost_ret (results_none rfl _ _ _) rfl ?_)
          exact ⟨rfl, ⟨_, _, HS.out⟩, HK.out⟩
         ·rw [if_neg c10] at hf
          exact nomatch hf
        ·have c9a : decide (s.st ≤ began) = false := decide_eq_false c9
         rw [if_neg c9] at hf
         obtain rfl := Option.some.inj hf
         clear hf
         refine start_ (n := 34) (S := fun w' => w'.cell? ⟨b15, 0, none⟩ = some (.pointer (some ⟨g, 0, none⟩)) ∧ w'.cell? ⟨b9, 0, none⟩ = some (.int .i64 began) ∧ w'.cell? ⟨g, 0, none⟩ = some (.int .i64 s.id) ∧ w'.cell? ⟨g, 1, none⟩ = some (.int .i64 s.ph) ∧ w'.cell? ⟨g, 3, none⟩ = some (.int .i64 s.st) ∧ w'.cell? ⟨g, 13, none⟩ = some (.int .i64 s.ve)) (ds := []) (fb 34 0) (by kernel_rfl) rfl rfl ⟨(blk_cell B15.out 0).trans rfl, (blk_cell B9.out 0).trans rfl, H.out.c0, H.out.c1, H.out.c3, H.out.c13⟩ (fun hHeld => ?_)
         clear hb15 hc1 hf1
         replace B10 := asd (blk_drew B10.out)
         replace B11 := asd (blk_drew B11.out)
         replace B15 := asd (blk_drew B15.out)
         replace B8 := asd (blk_drew B8.out)
         replace B9 := asd (blk_drew B9.out)
         replace B5 := asd (blk_drew B5.out)
         replace H := asd (H.out.drew)
         replace K := asd (K.out.drew)
         generalize (wd3).drew = wd4 at B10 B11 B15 B8 B9 B5 H K hHeld ⊢
         refine tz (i := 0) (N := some 41) (fb 34 1) hHeld ?_
         refine pz (i := 1) (N := some 42) (fb 34 3) ?_
         refine pz (i := 2) (N := some 43) (fb 34 7) ?_
         refine pz (i := 3) (N := some 44) (fb 34 15) ?_
         refine tz (i := 4) (N := some 45) (fb 34 31) hHeld ?_
         refine pz (i := 5) (N := some 46) (fb 34 63) ?_
         refine pz (i := 6) (N := some 47) (fb 34 127) ?_
         refine tz (i := 7) (N := some 48) (fb 34 255) hHeld ?_
         refine tz (i := 9) (N := some 50) (fb 34 767) hHeld ?_
         refine pz (i := 10) (N := some 51) (fb 34 1791) ?_
         refine pz (i := 11) (N := some 52) (fb 34 3839) ?_
         refine pz (i := 12) (N := some 53) (fb 34 7935) ?_
         refine tz (i := 13) (N := some 54) (fb 34 16127) hHeld ?_
         refine one_ (i := 8) (N := some 49) (fb 34 16383) rfl rfl (by kernel_rfl) (by decide) (fun K_ hK_ => ?_)
         refine goesV_ Tryz.func40 (by kernel_rfl) rfl #[.pointer (some ⟨g, 0, none⟩)] (by rfl) rfl rfl (by first | rfl | (simp; done) | (go_simp; done)) (by (try simp only [List.map_toArray, List.map_cons, List.map_nil]); first | done | rfl) ?_
         with_reducible refine (node_owner.calls g s dv av on oe w0 _ H.out HO.out).mono ?_
         rintro e wx5 ⟨rfl, hs, hk⟩
         refine ⟨_, rfl, ?_⟩
         replace K := asd (K.out.thenG hk)
         replace H := asd (hs)
         replace B10 := asd (hk.blk B10.out N10_g.out (by simp [Value.ownBlock]) (by simp [Value.ownBlock]))
         replace B11 := asd (hk.blk B11.out N11_g.out (by simp [Value.ownBlock]) (by simp [Value.ownBlock]))
         replace B15 := asd (hk.blk B15.out N15_g.out (by simp [Value.ownBlock]) (by simp [Value.ownBlock]))
         replace B8 := asd (hk.blk B8.out N8_g.out (by simp [Value.ownBlock]) (by simp [Value.ownBlock]))
         replace B9 := asd (hk.blk B9.out N9_g.out (by simp [Value.ownBlock]) (by simp [Value.ownBlock]))
         replace B5 := asd (hk.blk B5.out N5_g.out (by simp [Value.ownBlock]) (by simp [Value.ownBlock]))
         clear hs hk
         refine hK_.out _ _ ⟨(blk_cell B15.out 0).trans rfl, (blk_cell B9.out 0).trans rfl, (by have q := H.out.c0; simp only [Rs.fls] at q; exact q), (by have q := H.out.c1; simp only [Rs.fls] at q; exact q), (by have q := H.out.c3; simp only [Rs.fls] at q; exact q), (by have q := H.out.c13; simp only [Rs.fls] at q; exact q)⟩ (fun hHeld => ?_)
         clear hK_ K_
         refine pz (i := 14) (N := some 55) (fb 34 32767) ?_
         refine pz (i := 15) (N := some 56) (fb 34 65535) ?_
         refine pz (i := 16) (N := some 57) (fb 34 131071) ?_
         refine tz (i := 17) (N := some 58) (fb 34 262143) hHeld ?_
         refine pz (i := 18) (N := some 59) (fb 34 524287) ?_
         refine pz (i := 19) (N := some 60) (fb 34 1048575) ?_
         refine pz (i := 20) (N := some 61) (fb 34 2097151) ?_
         refine tz (i := 21) (N := some 62) (fb 34 4194303) hHeld ?_
         refine pz (i := 22) (N := some 63) (fb 34 8388607) ?_
         refine pz (i := 23) (N := some 64) (fb 34 16777215) ?_
         refine pz (i := 24) (N := some 65) (fb 34 33554431) ?_
         refine tz (i := 25) (N := some 66) (fb 34 67108863) hHeld ?_
         refine tz (i := 26) (N := some 67) (fb 34 134217727) hHeld ?_
         refine pz (i := 27) (N := some 68) (fb 34 268435455) ?_
         refine pz (i := 28) (N := some 69) (fb 34 536870911) ?_
         refine pz (i := 29) (N := some 70) (fb 34 1073741823) ?_
         refine tz (i := 30) (N := some 71) (fb 34 2147483647) hHeld ?_
         refine pz (i := 31) (N := some 72) (fb 34 4294967295) ?_
         refine pz (i := 32) (N := some 73) (fb 34 8589934591) ?_
         refine pz (i := 33) (N := some 40) (fb 34 17179869183) ?_
         refine done_ (by kernel_rfl) ?_
         go_wp2
         first | go_end0 | go_ret | ((try simp only [Exit.inBlock, Exit.then]); refine bodyPost_ret (results_none rfl _ _ _) rfl ?_)
         exact ⟨rfl, ⟨_, _, H.out⟩, K.out⟩
       ·have c8a : (s.ve == 0) = false := beq_eq_false_iff_ne.mpr c8
        rw [if_neg c8] at hf
        obtain rfl := Option.some.inj hf
        clear hf
        refine start_ (n := 34) (S := fun w' => w'.cell? ⟨b15, 0, none⟩ = some (.pointer (some ⟨g, 0, none⟩)) ∧ w'.cell? ⟨b9, 0, none⟩ = some (.int .i64 began) ∧ w'.cell? ⟨g, 0, none⟩ = some (.int .i64 s.id) ∧ w'.cell? ⟨g, 1, none⟩ = some (.int .i64 s.ph) ∧ w'.cell? ⟨g, 3, none⟩ = some (.int .i64 s.st) ∧ w'.cell? ⟨g, 13, none⟩ = some (.int .i64 s.ve)) (ds := []) (fb 34 0) (by kernel_rfl) rfl rfl ⟨(blk_cell B15.out 0).trans rfl, (blk_cell B9.out 0).trans rfl, H.out.c0, H.out.c1, H.out.c3, H.out.c13⟩ (fun hHeld => ?_)
        clear hb15 hc1 hf1
        replace B10 := asd (blk_drew B10.out)
        replace B11 := asd (blk_drew B11.out)
        replace B15 := asd (blk_drew B15.out)
        replace B8 := asd (blk_drew B8.out)
        replace B9 := asd (blk_drew B9.out)
        replace B5 := asd (blk_drew B5.out)
        replace H := asd (H.out.drew)
        replace K := asd (K.out.drew)
        generalize (wd3).drew = wd4 at B10 B11 B15 B8 B9 B5 H K hHeld ⊢
        refine tz (i := 0) (N := some 41) (fb 34 1) hHeld ?_
        refine pz (i := 1) (N := some 42) (fb 34 3) ?_
        refine pz (i := 2) (N := some 43) (fb 34 7) ?_
        refine pz (i := 3) (N := some 44) (fb 34 15) ?_
        refine tz (i := 4) (N := some 45) (fb 34 31) hHeld ?_
        refine pz (i := 5) (N := some 46) (fb 34 63) ?_
        refine pz (i := 6) (N := some 47) (fb 34 127) ?_
        refine tz (i := 7) (N := some 48) (fb 34 255) hHeld ?_
        refine tz (i := 9) (N := some 50) (fb 34 767) hHeld ?_
        refine pz (i := 10) (N := some 51) (fb 34 1791) ?_
        refine pz (i := 11) (N := some 52) (fb 34 3839) ?_
        refine pz (i := 12) (N := some 53) (fb 34 7935) ?_
        refine tz (i := 13) (N := some 54) (fb 34 16127) hHeld ?_
        refine one_ (i := 8) (N := some 49) (fb 34 16383) rfl rfl (by kernel_rfl) (by decide) (fun K_ hK_ => ?_)
        refine goesV_ Tryz.func40 (by kernel_rfl) rfl #[.pointer (some ⟨g, 0, none⟩)] (by rfl) rfl rfl (by first | rfl | (simp; done) | (go_simp; done)) (by (try simp only [List.map_toArray, List.map_cons, List.map_nil]); first | done | rfl) ?_
        with_reducible refine (node_owner.calls g s dv av on oe w0 _ H.out HO.out).mono ?_
        rintro e wx5 ⟨rfl, hs, hk⟩
        refine ⟨_, rfl, ?_⟩
        replace K := asd (K.out.thenG hk)
        replace H := asd (hs)
        replace B10 := asd (hk.blk B10.out N10_g.out (by simp [Value.ownBlock]) (by simp [Value.ownBlock]))
        replace B11 := asd (hk.blk B11.out N11_g.out (by simp [Value.ownBlock]) (by simp [Value.ownBlock]))
        replace B15 := asd (hk.blk B15.out N15_g.out (by simp [Value.ownBlock]) (by simp [Value.ownBlock]))
        replace B8 := asd (hk.blk B8.out N8_g.out (by simp [Value.ownBlock]) (by simp [Value.ownBlock]))
        replace B9 := asd (hk.blk B9.out N9_g.out (by simp [Value.ownBlock]) (by simp [Value.ownBlock]))
        replace B5 := asd (hk.blk B5.out N5_g.out (by simp [Value.ownBlock]) (by simp [Value.ownBlock]))
        clear hs hk
        refine hK_.out _ _ ⟨(blk_cell B15.out 0).trans rfl, (blk_cell B9.out 0).trans rfl, (by have q := H.out.c0; simp only [Rs.fls] at q; exact q), (by have q := H.out.c1; simp only [Rs.fls] at q; exact q), (by have q := H.out.c3; simp only [Rs.fls] at q; exact q), (by have q := H.out.c13; simp only [Rs.fls] at q; exact q)⟩ (fun hHeld => ?_)
        clear hK_ K_
        refine pz (i := 14) (N := some 55) (fb 34 32767) ?_
        refine pz (i := 15) (N := some 56) (fb 34 65535) ?_
        refine pz (i := 16) (N := some 57) (fb 34 131071) ?_
        refine tz (i := 17) (N := some 58) (fb 34 262143) hHeld ?_
        refine pz (i := 18) (N := some 59) (fb 34 524287) ?_
        refine pz (i := 19) (N := some 60) (fb 34 1048575) ?_
        refine pz (i := 20) (N := some 61) (fb 34 2097151) ?_
        refine tz (i := 21) (N := some 62) (fb 34 4194303) hHeld ?_
        refine pz (i := 22) (N := some 63) (fb 34 8388607) ?_
        refine pz (i := 23) (N := some 64) (fb 34 16777215) ?_
        refine pz (i := 24) (N := some 65) (fb 34 33554431) ?_
        refine pw (i := 25) (N := some 66) (fb 34 67108863) ?_
        refine pw (i := 26) (N := some 67) (fb 34 134217727) ?_
        refine pw (i := 27) (N := some 68) (fb 34 268435455) ?_
        refine pw (i := 28) (N := some 69) (fb 34 536870911) ?_
        refine pw (i := 29) (N := some 70) (fb 34 1073741823) ?_
        refine pw (i := 30) (N := some 71) (fb 34 2147483647) ?_
        refine pw (i := 31) (N := some 72) (fb 34 4294967295) ?_
        refine pz (i := 32) (N := some 73) (fb 34 8589934591) ?_
        refine pz (i := 33) (N := some 40) (fb 34 17179869183) ?_
        refine done_ (by kernel_rfl) ?_
        go_wp2
        first | go_end0 | go_ret | ((try simp only [Exit.inBlock, Exit.then]); refine bodyPost_ret (results_none rfl _ _ _) rfl ?_)
        exact ⟨rfl, ⟨_, _, H.out⟩, K.out⟩
     ·have c2a : (s.ph == 2) = false := beq_eq_false_iff_ne.mpr c2
      rw [if_neg c2] at hf
      obtain rfl := Option.some.inj hf
      clear hf
      go_wp2
      go_region
      replace B10 := asd (blk_drew B10.out)
      replace B11 := asd (blk_drew B11.out)
      replace B15 := asd (blk_drew B15.out)
      replace B8 := asd (blk_drew B8.out)
      replace B9 := asd (blk_drew B9.out)
      replace B5 := asd (blk_drew B5.out)
      replace H := asd (H.out.drew)
      replace K := asd (K.out.drew)
      clear hb15 hc1 hf1
      generalize (wd3).drew = wd4 at B10 B11 B15 B8 B9 B5 H K ⊢
      go_wp2
      first | go_end0 | go_ret | ((try simp only [Exit.inBlock, Exit.then]); refine bodyPost_ret (results_none rfl _ _ _) rfl ?_)
      exact ⟨rfl, ⟨_, _, H.out⟩, K.out⟩
  ·have c5a : (r5 != 0) = true := bne_iff_ne.mpr c5
   have hf := HF.out
   rw [if_neg (by decide), if_neg c5] at hf
   obtain rfl := Option.some.inj hf
   clear HF hf
   go_region
   replace B10 := asd (blk_drew B10.out)
   replace B11 := asd (blk_drew B11.out)
   replace B15 := asd (blk_drew B15.out)
   replace B8 := asd (blk_drew B8.out)
   replace B9 := asd (blk_drew B9.out)
   replace B5 := asd (blk_drew B5.out)
   replace H := asd (H.out.drew)
   replace K := asd (K.out.drew)
   clear hb11 hb15 hb5 hc0 hf0
   generalize (wy0).drew = wd3 at B10 B11 B15 B8 B9 B5 H K ⊢
   go_wp2
   first | go_end0 | go_ret | ((try simp only [Exit.inBlock, Exit.then]); refine bodyPost_ret (results_none rfl _ _ _) rfl ?_)
   exact ⟨rfl, ⟨_, _, H.out⟩, K.out⟩

/-- A node hears. -/
def node_Hear.f (k : Nat) (m0 m1 m2 m3 m4 : Int) (n_id n_ph n_sl n_st n_op n_od n_orr n_co n_me n_tg n_tb : Int) (l : List Int) (n_se : Bool) (n_ve : Int) (now began : Int) (lb : List Int) (bad : Bool) : Option (Int × Int × Int × Int × Int × Int × Int × Int × Int × Int × Int × List Int × Bool × Int × List S66 × Int) := (node_begin.f k m0 m1 m2 m3 m4 n_id n_ph n_sl n_st n_op n_od n_orr n_co n_me n_tg n_tb n_ve n_se l now).bind fun e_ =>
 if began < 0 ∨ now < began then some (nodeTold { { (⟨n_id, n_ph, n_sl, n_st, n_op, n_od, n_orr, n_co, n_me, n_tg, n_tb, l, n_se, n_ve, m0, m1, m2, m3, m4, [], 0⟩ : Rs) with er := e_ } with er := 1 } { { (⟨n_id, n_ph, n_sl, n_st, n_op, n_od, n_orr, n_co, n_me, n_tg, n_tb, l, n_se, n_ve, m0, m1, m2, m3, m4, [], 0⟩ : Rs) with er := e_ } with er := 1 }) else
 (if e_ = 0 then node_hears.f k { (⟨n_id, n_ph, n_sl, n_st, n_op, n_od, n_orr, n_co, n_me, n_tg, n_tb, l, n_se, n_ve, m0, m1, m2, m3, m4, [], 0⟩ : Rs) with er := e_ } now began lb bad else some { (⟨n_id, n_ph, n_sl, n_st, n_op, n_od, n_orr, n_co, n_me, n_tg, n_tb, l, n_se, n_ve, m0, m1, m2, m3, m4, [], 0⟩ : Rs) with er := e_ }).bind fun s2 => some (nodeTold { (⟨n_id, n_ph, n_sl, n_st, n_op, n_od, n_orr, n_co, n_me, n_tg, n_tb, l, n_se, n_ve, m0, m1, m2, m3, m4, [], 0⟩ : Rs) with er := e_ } s2)
set_option maxHeartbeats 8000000 in
set_option maxRecDepth 100000 in
theorem node_Hear.calls (k : Nat) (m0 m1 m2 m3 m4 : Int) (n_id n_ph n_sl n_st n_op n_od n_orr n_co n_me n_tg n_tb : Int) (A : Option Addr) (c : Nat) (l : List Int) (n_se : Bool) (n_ve : Int) (now began : Int) (Ab : Option Addr) (cb : Nat) (lb : List Int) (bad : Bool) (r1 r2 r3 r4 r5 r6 r7 r8 r9 r10 r11 : Int) (r12 : List Int) (r13 : Bool) (r14 : Int) (r15 : List S66) (r16 : Int) (w : World) (hr : Kd.C (Kd.int .i64) w A l.length l) (hc : l.length ≤ c) (hrb : Kd.C (Kd.int .u8) w Ab lb.length lb) (hcb : lb.length ≤ cb) (h : node_Hear.f k m0 m1 m2 m3 m4 n_id n_ph n_sl n_st n_op n_od n_orr n_co n_me n_tg n_tb l n_se n_ve now began lb bad = some (r1, r2, r3, r4, r5, r6, r7, r8, r9, r10, r11, r12, r13, r14, r15, r16)) :
  Calls Tryz.prog 10 #[.agg #[.int .i64 m0, .int .i64 m1, .int .i64 m2, .int .i64 m3, .int .i64 m4], .agg #[.int .i64 n_id, .int .i64 n_ph, .int .u64 n_sl, .int .i64 n_st, .int .i64 n_op, .int .i64 n_od, .int .i64 n_orr, .int .i64 n_co, .int .u16 n_me, .int .i64 n_tg, .int .i64 n_tb, .slice A l.length c, .bool n_se, .int .i64 n_ve], .int .i64 now, .int .i64 began, .slice Ab lb.length cb, .bool bad] w fun e w' => ∃ v11_ v14_ : Value, e = .returned (.tuple #[.agg #[.int .i64 r1, .int .i64 r2, .int .u64 r3, .int .i64 r4, .int .i64 r5, .int .i64 r6, .int .i64 r7, .int .i64 r8, .int .u16 r9, .int .i64 r10, .int .i64 r11, v11_, .bool r13, .int .i64 r14], v14_, .int .i64 r16]) ∧ Kd.R (Kd.int .i64) 2 w' w.heap.size (fun _ => True) v11_ r12 ∧ Kd.R k66 66 w' w.heap.size (fun _ => True) v14_ r15 ∧ Below w.heap.size w w' := by
 unfold node_Hear.f at h
 obtain ⟨e_, A1, h⟩ := Option.bind_eq_some_iff.mp h
 have HA := asd A1
 have HR := asd hr
 have HC := asd hc
 have HRb := asd hrb
 have HCb := asd hcb
 have HLN := asd (show l.length < 17592186044416 from node_begin_len A1)
 have HB := asd (Below.refl w.heap.size w)
 have W0 := asd (Below.refl w.heap.size w)
 have hmf : ∀ fn first cap w, (Instr.makeFunc fn first cap).run Tryz.prog w = .ok (.func fn first cap) w := fun _ _ _ _ => rfl
 clear hr hc hrb hcb A1
 go_enter Tryz.func10, Tryz.ntmps10
 go_upto_region 2 with (first | ((with_reducible refine gate_dst (N := 6) rfl ?_); refine bx (N := 6) (cs := #[.int .i64 m0, .int .i64 m1, .int .i64 m2, .int .i64 m3, .int .i64 m4]) (t := 23) ?_; intro gb6 hg wx1 hbox hb; have G6 := asd (by rw [hg]; exact HB.out.size : w.heap.size ≤ gb6); replace HB := asd (below_step HB.out hb); have B6 := asd hbox; clear hb hbox hg; have hb6 := ca5 B6) | ((with_reducible refine gate_dst (N := 7) rfl ?_); refine bx (N := 7) (cs := #[.int .i64 n_id, .int .i64 n_ph, .int .u64 n_sl, .int .i64 n_st, .int .i64 n_op, .int .i64 n_od, .int .i64 n_orr, .int .i64 n_co, .int .u16 n_me, .int .i64 n_tg, .int .i64 n_tb, .slice A l.length c, .bool n_se, .int .i64 n_ve]) (t := 32) ?_; intro gb7 hg wx2 hbox hb; have G7 := asd (by rw [hg]; exact HB.out.size : w.heap.size ≤ gb7); have N7_6 := asd (by rw [hg]; exact Nat.ne_of_gt (blk_lt B6.out) : gb7 ≠ gb6); replace HB := asd (below_step HB.out hb); replace B6 := asd (blk_below B6.out hb); have B7 := asd hbox; clear hb hbox hg hb6; have hb6 := ca5 B6; have hb7 := facts14 B7.out) | ((with_reducible refine gate_dst (N := 8) rfl ?_); refine bx (N := 8) (cs := #[.int .i64 now]) (t := 2) ?_; intro gb8 hg wx3 hbox hb; have G8 := asd (by rw [hg]; exact HB.out.size : w.heap.size ≤ gb8); have N8_6 := asd (by rw [hg]; exact Nat.ne_of_gt (blk_lt B6.out) : gb8 ≠ gb6); have N8_7 := asd (by rw [hg]; exact Nat.ne_of_gt (blk_lt B7.out) : gb8 ≠ gb7); replace HB := asd (below_step HB.out hb); replace B6 := asd (blk_below B6.out hb); replace B7 := asd (blk_below B7.out hb); have B8 := asd hbox; clear hb hbox hg hb6 hb7; have hb6 := ca5 B6; have hb7 := facts14 B7.out; have hb8 := ca1 B8) | ((with_reducible refine gate_dst (N := 9) rfl ?_); refine bx (N := 9) (cs := #[.int .i64 began]) (t := 2) ?_; intro gb9 hg wx4 hbox hb; have G9 := asd (by rw [hg]; exact HB.out.size : w.heap.size ≤ gb9); have N9_6 := asd (by rw [hg]; exact Nat.ne_of_gt (blk_lt B6.out) : gb9 ≠ gb6); have N9_7 := asd (by rw [hg]; exact Nat.ne_of_gt (blk_lt B7.out) : gb9 ≠ gb7); have N9_8 := asd (by rw [hg]; exact Nat.ne_of_gt (blk_lt B8.out) : gb9 ≠ gb8); replace HB := asd (below_step HB.out hb); replace B6 := asd (blk_below B6.out hb); replace B7 := asd (blk_below B7.out hb); replace B8 := asd (blk_below B8.out hb); have B9 := asd hbox; clear hb hbox hg hb6 hb7 hb8; have hb6 := ca5 B6; have hb7 := facts14 B7.out; have hb8 := ca1 B8) | ((with_reducible refine gate_dst (N := 10) rfl ?_); refine bx (N := 10) (cs := #[.slice Ab lb.length cb]) (t := 33) ?_; intro gb10 hg wx5 hbox hb; have G10 := asd (by rw [hg]; exact HB.out.size : w.heap.size ≤ gb10); have N10_6 := asd (by rw [hg]; exact Nat.ne_of_gt (blk_lt B6.out) : gb10 ≠ gb6); have N10_7 := asd (by rw [hg]; exact Nat.ne_of_gt (blk_lt B7.out) : gb10 ≠ gb7); have N10_8 := asd (by rw [hg]; exact Nat.ne_of_gt (blk_lt B8.out) : gb10 ≠ gb8); have N10_9 := asd (by rw [hg]; exact Nat.ne_of_gt (blk_lt B9.out) : gb10 ≠ gb9); replace HB := asd (below_step HB.out hb); replace B6 := asd (blk_below B6.out hb); replace B7 := asd (blk_below B7.out hb); replace B8 := asd (blk_below B8.out hb); replace B9 := asd (blk_below B9.out hb); have B10 := asd hbox; clear hb hbox hg hb6 hb7 hb8; have hb6 := ca5 B6; have hb7 := facts14 B7.out; have hb8 := ca1 B8) | ((with_reducible refine gate_dst (N := 11) rfl ?_); refine bx (N := 11) (cs := #[.bool bad]) (t := 4) ?_; intro gb11 hg wx6 hbox hb; have G11 := asd (by rw [hg]; exact HB.out.size : w.heap.size ≤ gb11); have N11_6 := asd (by rw [hg]; exact Nat.ne_of_gt (blk_lt B6.out) : gb11 ≠ gb6); have N11_7 := asd (by rw [hg]; exact Nat.ne_of_gt (blk_lt B7.out) : gb11 ≠ gb7); have N11_8 := asd (by rw [hg]; exact Nat.ne_of_gt (blk_lt B8.out) : gb11 ≠ gb8); have N11_9 := asd (by rw [hg]; exact Nat.ne_of_gt (blk_lt B9.out) : gb11 ≠ gb9); have N11_10 := asd (by rw [hg]; exact Nat.ne_of_gt (blk_lt B10.out) : gb11 ≠ gb10); replace HB := asd (below_step HB.out hb); replace B6 := asd (blk_below B6.out hb); replace B7 := asd (blk_below B7.out hb); replace B8 := asd (blk_below B8.out hb); replace B9 := asd (blk_below B9.out hb); replace B10 := asd (blk_below B10.out hb); have B11 := asd hbox; clear hb hbox hg hb6 hb7 hb8; have hb6 := ca5 B6; have hb7 := facts14 B7.out; have hb8 := ca1 B8) | ((with_reducible refine gate_dst (N := 12) rfl ?_); refine bx (N := 12) (cs := #[.int .i64 0, .int .i64 0, .int .u64 0, .int .i64 0, .int .i64 0, .int .i64 0, .int .i64 0, .int .i64 0, .int .u16 0, .int .i64 0, .int .i64 0, .slice none 0 0, .bool false, .int .i64 0]) (t := 32) ?_; intro gb12 hg wx7 hbox hb; have G12 := asd (by rw [hg]; exact HB.out.size : w.heap.size ≤ gb12); have N12_6 := asd (by rw [hg]; exact Nat.ne_of_gt (blk_lt B6.out) : gb12 ≠ gb6); have N12_7 := asd (by rw [hg]; exact Nat.ne_of_gt (blk_lt B7.out) : gb12 ≠ gb7); have N12_8 := asd (by rw [hg]; exact Nat.ne_of_gt (blk_lt B8.out) : gb12 ≠ gb8); have N12_9 := asd (by rw [hg]; exact Nat.ne_of_gt (blk_lt B9.out) : gb12 ≠ gb9); have N12_10 := asd (by rw [hg]; exact Nat.ne_of_gt (blk_lt B10.out) : gb12 ≠ gb10); have N12_11 := asd (by rw [hg]; exact Nat.ne_of_gt (blk_lt B11.out) : gb12 ≠ gb11); replace HB := asd (below_step HB.out hb); replace B6 := asd (blk_below B6.out hb); replace B7 := asd (blk_below B7.out hb); replace B8 := asd (blk_below B8.out hb); replace B9 := asd (blk_below B9.out hb); replace B10 := asd (blk_below B10.out hb); replace B11 := asd (blk_below B11.out hb); have B12 := asd hbox; clear hb hbox hg hb6 hb7 hb8; have hb6 := ca5 B6; have hb7 := facts14 B7.out; have hb8 := ca1 B8) | ((with_reducible refine gate_callee (f := 36) rfl ?_); refine gL (some 19) Tryz.func36 #[.agg #[.int .i64 m0, .int .i64 m1, .int .i64 m2, .int .i64 m3, .int .i64 m4], .agg #[.int .i64 n_id, .int .i64 n_ph, .int .u64 n_sl, .int .i64 n_st, .int .i64 n_op, .int .i64 n_od, .int .i64 n_orr, .int .i64 n_co, .int .u16 n_me, .int .i64 n_tg, .int .i64 n_tb, .slice A l.length c, .bool n_se, .int .i64 n_ve], .int .i64 now] ?_; (with_reducible refine (node_begin.calls k m0 m1 m2 m3 m4 n_id n_ph n_sl n_st n_op n_od n_orr n_co n_me n_tg n_tb n_ve n_se A c l now e_ w _ HB (Kd.C_below HR.out HB.out) HC.out HLN.out HA.out).mono ?_); rintro e wx8 ⟨g, dv, rfl, hs, hgs, hds, hb⟩; refine ⟨_, rfl, ?_⟩; have N6_g := asd (fun e => absurd (blk_lt B6.out) (by rw [e]; omega) : gb6 ≠ g); have N7_g := asd (fun e => absurd (blk_lt B7.out) (by rw [e]; omega) : gb7 ≠ g); have N8_g := asd (fun e => absurd (blk_lt B8.out) (by rw [e]; omega) : gb8 ≠ g); have N9_g := asd (fun e => absurd (blk_lt B9.out) (by rw [e]; omega) : gb9 ≠ g); have N10_g := asd (fun e => absurd (blk_lt B10.out) (by rw [e]; omega) : gb10 ≠ g); have N11_g := asd (fun e => absurd (blk_lt B11.out) (by rw [e]; omega) : gb11 ≠ g); have N12_g := asd (fun e => absurd (blk_lt B12.out) (by rw [e]; omega) : gb12 ≠ g); replace HB := asd (below_step HB.out hb); replace B6 := asd (blk_below B6.out hb); replace B7 := asd (blk_below B7.out hb); replace B8 := asd (blk_below B8.out hb); replace B9 := asd (blk_below B9.out hb); replace B10 := asd (blk_below B10.out hb); replace B11 := asd (blk_below B11.out hb); replace B12 := asd (blk_below B12.out hb); have H := asd hs; clear hs hgs hds hb hb6 hb7 hb8) | ((with_reducible refine gate_dst (N := 15) rfl ?_); refine bx (N := 15) (cs := #[.pointer none]) (t := 74) ?_; intro gb15 hg wx9 hbox hb; have G15 := asd (by rw [hg]; exact HB.out.size : w.heap.size ≤ gb15); have N15_6 := asd (by rw [hg]; exact Nat.ne_of_gt (blk_lt B6.out) : gb15 ≠ gb6); have N15_7 := asd (by rw [hg]; exact Nat.ne_of_gt (blk_lt B7.out) : gb15 ≠ gb7); have N15_8 := asd (by rw [hg]; exact Nat.ne_of_gt (blk_lt B8.out) : gb15 ≠ gb8); have N15_9 := asd (by rw [hg]; exact Nat.ne_of_gt (blk_lt B9.out) : gb15 ≠ gb9); have N15_10 := asd (by rw [hg]; exact Nat.ne_of_gt (blk_lt B10.out) : gb15 ≠ gb10); have N15_11 := asd (by rw [hg]; exact Nat.ne_of_gt (blk_lt B11.out) : gb15 ≠ gb11); have N15_12 := asd (by rw [hg]; exact Nat.ne_of_gt (blk_lt B12.out) : gb15 ≠ gb12); have N15_g := asd (by rw [hg]; exact Nat.ne_of_gt (blk_lt H.out.b) : gb15 ≠ g); replace HB := asd (below_step HB.out hb); replace B6 := asd (blk_below B6.out hb); replace B7 := asd (blk_below B7.out hb); replace B8 := asd (blk_below B8.out hb); replace B9 := asd (blk_below B9.out hb); replace B10 := asd (blk_below B10.out hb); replace B11 := asd (blk_below B11.out hb); replace B12 := asd (blk_below B12.out hb); replace H := asd (H.out.below hb); have B15 := asd hbox; clear hb hbox hg; have hb15 := ca1 B15; have hb8 := ca1 B8; have hb9 := ca1 B9; have hc20 : wx9.cell? ⟨g, 20, none⟩ = some (.int .i64 e_) := (by have q := H.out.c20; (try simp only [Rs.fls] at q); exact q); have hf20 := H.out.fz 20; have hne8 : gb8 ≠ gb15 := N15_8.out.symm; have hne9 : gb9 ≠ gb15 := N15_9.out.symm; have hneg : g ≠ gb15 := N15_g.out.symm; have hneg2 : gb15 ≠ g := N15_g.out))
 by_cases c1 : began < 0
 ·have c1a : decide (began < 0) = true := decide_eq_true c1
  rw [if_pos (Or.inl c1)] at h
  obtain ⟨s2, hs2⟩ : ∃ s2 : Rs, s2 = { { (⟨n_id, n_ph, n_sl, n_st, n_op, n_od, n_orr, n_co, n_me, n_tg, n_tb, l, n_se, n_ve, m0, m1, m2, m3, m4, [], 0⟩ : Rs) with er := e_ } with er := 1 } := ⟨_, rfl⟩
  have h : nodeTold { { (⟨n_id, n_ph, n_sl, n_st, n_op, n_od, n_orr, n_co, n_me, n_tg, n_tb, l, n_se, n_ve, m0, m1, m2, m3, m4, [], 0⟩ : Rs) with er := e_ } with er := 1 } s2 = (r1, r2, r3, r4, r5, r6, r7, r8, r9, r10, r11, r12, r13, r14, r15, r16) := by rw [hs2]; exact Option.some.inj h
  have HN := asd (show ({ { (⟨n_id, n_ph, n_sl, n_st, n_op, n_od, n_orr, n_co, n_me, n_tg, n_tb, l, n_se, n_ve, m0, m1, m2, m3, m4, [], 0⟩ : Rs) with er := e_ } with er := 1 } : Rs).er ≠ 0 → s2 = { { (⟨n_id, n_ph, n_sl, n_st, n_op, n_od, n_orr, n_co, n_me, n_tg, n_tb, l, n_se, n_ve, m0, m1, m2, m3, m4, [], 0⟩ : Rs) with er := e_ } with er := 1 } from fun hn => hs2)
  have HE := asd h
  clear h hs2
  go_wp2_with (first | ((with_reducible refine gate_callee (f := 37) rfl ?_); refine gL (some 32) Tryz.func37 #[.pointer (some ⟨g, 0, none⟩), .func (.func 38) #[] #[.pointer (some ⟨gb10, 0, none⟩), .pointer (some ⟨gb11, 0, none⟩), .pointer (some ⟨gb15, 0, none⟩), .pointer (some ⟨gb8, 0, none⟩), .pointer (some ⟨gb9, 0, none⟩)]] ?_; have q_ := ((Wr.refl gb15 wx9).set 0 (.pointer (some ⟨g, 0, none⟩))); replace B6 := asd (q_.blk B6.out N15_6.out.symm); replace B7 := asd (q_.blk B7.out N15_7.out.symm); replace B8 := asd (q_.blk B8.out N15_8.out.symm); replace B9 := asd (q_.blk B9.out N15_9.out.symm); replace B10 := asd (q_.blk B10.out N15_10.out.symm); replace B11 := asd (q_.blk B11.out N15_11.out.symm); replace B12 := asd (q_.blk B12.out N15_12.out.symm); replace HB := asd (HB.out.trans (q_.be _ G15.out)); replace H := asd (q_.run B15.out (by decide) (by decide) (by decide) (Nat.le_trans W0.out.size G15.out) H.out); replace B15 := asd (show (World.heap _)[gb15]? = some (Obj.cells #[.pointer (some ⟨g, 0, none⟩)] 74 (0, 0)) from (blk_put (cs := #[.pointer none]) B15.out 0 (.pointer (some ⟨g, 0, none⟩)) rfl)); clear q_; have q_ := (Wr.refl g (wx9.setCell ⟨gb15, 0, none⟩ (.pointer (some ⟨g, 0, none⟩)))).set 20 (.int .i64 1); replace B6 := asd (q_.blk B6.out N6_g.out); replace B7 := asd (q_.blk B7.out N7_g.out); replace B8 := asd (q_.blk B8.out N8_g.out); replace B9 := asd (q_.blk B9.out N9_g.out); replace B10 := asd (q_.blk B10.out N10_g.out); replace B11 := asd (q_.blk B11.out N11_g.out); replace B12 := asd (q_.blk B12.out N12_g.out); replace B15 := asd (q_.blk B15.out N15_g.out); replace HB := asd (HB.out.trans (q_.be _ H.out.ge)); replace H := asd (H.out.s20 1); clear q_; refine (node_do.calls 38 Tryz.f38 #[.pointer (some ⟨gb10, 0, none⟩), .pointer (some ⟨gb11, 0, none⟩), .pointer (some ⟨gb15, 0, none⟩), .pointer (some ⟨gb8, 0, none⟩), .pointer (some ⟨gb9, 0, none⟩)] Tryz.func38 (by kernel_rfl) rfl g { { (⟨n_id, n_ph, n_sl, n_st, n_op, n_od, n_orr, n_co, n_me, n_tg, n_tb, l, n_se, n_ve, m0, m1, m2, m3, m4, [], 0⟩ : Rs) with er := e_ } with er := 1 } s2 dv (.slice none 0 0) w _ H.out HLN.out HN.out (fun c_ _ _ => absurd (show (1 : Int) = 0 from c_) (by decide))).mono ?_; rintro e wx10 hD; obtain ⟨sr, hsr, nv, av2, rfl, hnv, hav, hbl, hkr⟩ := hD.one; refine ⟨_, rfl, ?_⟩; have SR := hsr; have nB12 := asd (hkr.blk B12.out N12_g.out (Kd.R_ne H.out.d B12.out (by decide)) (by simp [Value.ownBlock])); clear H HB B6 B7 B8 B9 B10 B11 B12 B15; have B12 := nB12; have HB := asd hbl; have RN := asd hnv; have RA := asd hav; clear nB12 hD hsr hnv hav hbl hkr; obtain ⟨An, cn, ed⟩ := Kd.R_slice RN.out; subst ed; clear hb15 hb8 hb9 hc20 hf20; have hb12 := facts14 B12.out))
  have q_ := (((((((((((((((Wr.refl gb12 wx10).set 0 (.int .i64 sr.id)).set 1 (.int .i64 sr.ph)).set 2 (.int .u64 sr.sl)).set 3 (.int .i64 sr.st)).set 4 (.int .i64 sr.op)).set 5 (.int .i64 sr.od)).set 6 (.int .i64 sr.orr)).set 7 (.int .i64 sr.co)).set 8 (.int .u16 sr.me)).set 9 (.int .i64 sr.tg)).set 10 (.int .i64 sr.tb)).set 11 (.slice An sr.ds.length cn)).set 12 (.bool sr.se)).set 13 (.int .i64 sr.ve))
  replace HB := asd (HB.out.trans (q_.be _ G12.out))
  replace RN := asd (q_.row B12.out (by decide) RN.out)
  replace RA := asd (q_.row B12.out (by decide) RA.out)
  replace B12 := asd (blk14 (.int .i64 sr.id) (.int .i64 sr.ph) (.int .u64 sr.sl) (.int .i64 sr.st) (.int .i64 sr.op) (.int .i64 sr.od) (.int .i64 sr.orr) (.int .i64 sr.co) (.int .u16 sr.me) (.int .i64 sr.tg) (.int .i64 sr.tb) (.slice An sr.ds.length cn) (.bool sr.se) (.int .i64 sr.ve) B12.out)
  clear q_
  have E : nodeTold { { (⟨n_id, n_ph, n_sl, n_st, n_op, n_od, n_orr, n_co, n_me, n_tg, n_tb, l, n_se, n_ve, m0, m1, m2, m3, m4, [], 0⟩ : Rs) with er := e_ } with er := 1 } s2 = (r1, r2, r3, r4, r5, r6, r7, r8, r9, r10, r11, r12, r13, r14, r15, r16) := HE.out
  unfold nodeTold at E
  simp only [← SR.out, Prod.mk.injEq] at E
  obtain ⟨rfl, rfl, rfl, rfl, rfl, rfl, rfl, rfl, rfl, rfl, rfl, rfl, rfl, rfl, rfl, rfl⟩ := E
  refine bodyPost_ret (results_ctt rfl _ _ gb12 32 #[.int .i64 sr.id, .int .i64 sr.ph, .int .u64 sr.sl, .int .i64 sr.st, .int .i64 sr.op, .int .i64 sr.od, .int .i64 sr.orr, .int .i64 sr.co, .int .u16 sr.me, .int .i64 sr.tg, .int .i64 sr.tb, .slice An sr.ds.length cn, .bool sr.se, .int .i64 sr.ve] (0, 0) _ rfl B12.out Tryz.underlying32 rfl (by kernel_rfl)) rfl ?_
  exact ⟨_, _, rfl, RN.out, RA.out, HB.out⟩
 ·have c1a : decide (began < 0) = false := decide_eq_false c1
  by_cases c2 : now < began
  ·have c2a : decide (now < began) = true := decide_eq_true c2
   rw [if_pos (Or.inr c2)] at h
   obtain ⟨s2, hs2⟩ : ∃ s2 : Rs, s2 = { { (⟨n_id, n_ph, n_sl, n_st, n_op, n_od, n_orr, n_co, n_me, n_tg, n_tb, l, n_se, n_ve, m0, m1, m2, m3, m4, [], 0⟩ : Rs) with er := e_ } with er := 1 } := ⟨_, rfl⟩
   have h : nodeTold { { (⟨n_id, n_ph, n_sl, n_st, n_op, n_od, n_orr, n_co, n_me, n_tg, n_tb, l, n_se, n_ve, m0, m1, m2, m3, m4, [], 0⟩ : Rs) with er := e_ } with er := 1 } s2 = (r1, r2, r3, r4, r5, r6, r7, r8, r9, r10, r11, r12, r13, r14, r15, r16) := by rw [hs2]; exact Option.some.inj h
   have HN := asd (show ({ { (⟨n_id, n_ph, n_sl, n_st, n_op, n_od, n_orr, n_co, n_me, n_tg, n_tb, l, n_se, n_ve, m0, m1, m2, m3, m4, [], 0⟩ : Rs) with er := e_ } with er := 1 } : Rs).er ≠ 0 → s2 = { { (⟨n_id, n_ph, n_sl, n_st, n_op, n_od, n_orr, n_co, n_me, n_tg, n_tb, l, n_se, n_ve, m0, m1, m2, m3, m4, [], 0⟩ : Rs) with er := e_ } with er := 1 } from fun hn => hs2)
   have HE := asd h
   clear h hs2
   go_wp2_with (first | ((with_reducible refine gate_callee (f := 37) rfl ?_); refine gL (some 32) Tryz.func37 #[.pointer (some ⟨g, 0, none⟩), .func (.func 38) #[] #[.pointer (some ⟨gb10, 0, none⟩), .pointer (some ⟨gb11, 0, none⟩), .pointer (some ⟨gb15, 0, none⟩), .pointer (some ⟨gb8, 0, none⟩), .pointer (some ⟨gb9, 0, none⟩)]] ?_; have q_ := ((Wr.refl gb15 wx9).set 0 (.pointer (some ⟨g, 0, none⟩))); replace B6 := asd (q_.blk B6.out N15_6.out.symm); replace B7 := asd (q_.blk B7.out N15_7.out.symm); replace B8 := asd (q_.blk B8.out N15_8.out.symm); replace B9 := asd (q_.blk B9.out N15_9.out.symm); replace B10 := asd (q_.blk B10.out N15_10.out.symm); replace B11 := asd (q_.blk B11.out N15_11.out.symm); replace B12 := asd (q_.blk B12.out N15_12.out.symm); replace HB := asd (HB.out.trans (q_.be _ G15.out)); replace H := asd (q_.run B15.out (by decide) (by decide) (by decide) (Nat.le_trans W0.out.size G15.out) H.out); replace B15 := asd (show (World.heap _)[gb15]? = some (Obj.cells #[.pointer (some ⟨g, 0, none⟩)] 74 (0, 0)) from (blk_put (cs := #[.pointer none]) B15.out 0 (.pointer (some ⟨g, 0, none⟩)) rfl)); clear q_; have q_ := (Wr.refl g (wx9.setCell ⟨gb15, 0, none⟩ (.pointer (some ⟨g, 0, none⟩)))).set 20 (.int .i64 1); replace B6 := asd (q_.blk B6.out N6_g.out); replace B7 := asd (q_.blk B7.out N7_g.out); replace B8 := asd (q_.blk B8.out N8_g.out); replace B9 := asd (q_.blk B9.out N9_g.out); replace B10 := asd (q_.blk B10.out N10_g.out); replace B11 := asd (q_.blk B11.out N11_g.out); replace B12 := asd (q_.blk B12.out N12_g.out); replace B15 := asd (q_.blk B15.out N15_g.out); replace HB := asd (HB.out.trans (q_.be _ H.out.ge)); replace H := asd (H.out.s20 1); clear q_; refine (node_do.calls 38 Tryz.f38 #[.pointer (some ⟨gb10, 0, none⟩), .pointer (some ⟨gb11, 0, none⟩), .pointer (some ⟨gb15, 0, none⟩), .pointer (some ⟨gb8, 0, none⟩), .pointer (some ⟨gb9, 0, none⟩)] Tryz.func38 (by kernel_rfl) rfl g { { (⟨n_id, n_ph, n_sl, n_st, n_op, n_od, n_orr, n_co, n_me, n_tg, n_tb, l, n_se, n_ve, m0, m1, m2, m3, m4, [], 0⟩ : Rs) with er := e_ } with er := 1 } s2 dv (.slice none 0 0) w _ H.out HLN.out HN.out (fun c_ _ _ => absurd (show (1 : Int) = 0 from c_) (by decide))).mono ?_; rintro e wx10 hD; obtain ⟨sr, hsr, nv, av2, rfl, hnv, hav, hbl, hkr⟩ := hD.one; refine ⟨_, rfl, ?_⟩; have SR := hsr; have nB12 := asd (hkr.blk B12.out N12_g.out (Kd.R_ne H.out.d B12.out (by decide)) (by simp [Value.ownBlock])); clear H HB B6 B7 B8 B9 B10 B11 B12 B15; have B12 := nB12; have HB := asd hbl; have RN := asd hnv; have RA := asd hav; clear nB12 hD hsr hnv hav hbl hkr; obtain ⟨An, cn, ed⟩ := Kd.R_slice RN.out; subst ed; clear hb15 hb8 hb9 hc20 hf20; have hb12 := facts14 B12.out))
   have q_ := (((((((((((((((Wr.refl gb12 wx10).set 0 (.int .i64 sr.id)).set 1 (.int .i64 sr.ph)).set 2 (.int .u64 sr.sl)).set 3 (.int .i64 sr.st)).set 4 (.int .i64 sr.op)).set 5 (.int .i64 sr.od)).set 6 (.int .i64 sr.orr)).set 7 (.int .i64 sr.co)).set 8 (.int .u16 sr.me)).set 9 (.int .i64 sr.tg)).set 10 (.int .i64 sr.tb)).set 11 (.slice An sr.ds.length cn)).set 12 (.bool sr.se)).set 13 (.int .i64 sr.ve))
   replace HB := asd (HB.out.trans (q_.be _ G12.out))
   replace RN := asd (q_.row B12.out (by decide) RN.out)
   replace RA := asd (q_.row B12.out (by decide) RA.out)
   replace B12 := asd (blk14 (.int .i64 sr.id) (.int .i64 sr.ph) (.int .u64 sr.sl) (.int .i64 sr.st) (.int .i64 sr.op) (.int .i64 sr.od) (.int .i64 sr.orr) (.int .i64 sr.co) (.int .u16 sr.me) (.int .i64 sr.tg) (.int .i64 sr.tb) (.slice An sr.ds.length cn) (.bool sr.se) (.int .i64 sr.ve) B12.out)
   clear q_
   have E : nodeTold { { (⟨n_id, n_ph, n_sl, n_st, n_op, n_od, n_orr, n_co, n_me, n_tg, n_tb, l, n_se, n_ve, m0, m1, m2, m3, m4, [], 0⟩ : Rs) with er := e_ } with er := 1 } s2 = (r1, r2, r3, r4, r5, r6, r7, r8, r9, r10, r11, r12, r13, r14, r15, r16) := HE.out
   unfold nodeTold at E
   simp only [← SR.out, Prod.mk.injEq] at E
   obtain ⟨rfl, rfl, rfl, rfl, rfl, rfl, rfl, rfl, rfl, rfl, rfl, rfl, rfl, rfl, rfl, rfl⟩ := E
   refine bodyPost_ret (results_ctt rfl _ _ gb12 32 #[.int .i64 sr.id, .int .i64 sr.ph, .int .u64 sr.sl, .int .i64 sr.st, .int .i64 sr.op, .int .i64 sr.od, .int .i64 sr.orr, .int .i64 sr.co, .int .u16 sr.me, .int .i64 sr.tg, .int .i64 sr.tb, .slice An sr.ds.length cn, .bool sr.se, .int .i64 sr.ve] (0, 0) _ rfl B12.out Tryz.underlying32 rfl (by kernel_rfl)) rfl ?_
   exact ⟨_, _, rfl, RN.out, RA.out, HB.out⟩
  ·have c2a : decide (now < began) = false := decide_eq_false c2
   rw [if_neg (fun q => q.elim c1 c2)] at h
   obtain ⟨s2, A2, h⟩ := Option.bind_eq_some_iff.mp h
   have h := Option.some.inj h
   have HN := asd (show ({ (⟨n_id, n_ph, n_sl, n_st, n_op, n_od, n_orr, n_co, n_me, n_tg, n_tb, l, n_se, n_ve, m0, m1, m2, m3, m4, [], 0⟩ : Rs) with er := e_ } : Rs).er ≠ 0 → s2 = { (⟨n_id, n_ph, n_sl, n_st, n_op, n_od, n_orr, n_co, n_me, n_tg, n_tb, l, n_se, n_ve, m0, m1, m2, m3, m4, [], 0⟩ : Rs) with er := e_ } from fun hn => by rw [if_neg hn] at A2; exact (Option.some.inj A2).symm)
   have HF := asd (show ({ (⟨n_id, n_ph, n_sl, n_st, n_op, n_od, n_orr, n_co, n_me, n_tg, n_tb, l, n_se, n_ve, m0, m1, m2, m3, m4, [], 0⟩ : Rs) with er := e_ } : Rs).er = 0 → node_hears.f k { (⟨n_id, n_ph, n_sl, n_st, n_op, n_od, n_orr, n_co, n_me, n_tg, n_tb, l, n_se, n_ve, m0, m1, m2, m3, m4, [], 0⟩ : Rs) with er := e_ } now began lb bad = some s2 from fun hn => by rw [if_pos hn] at A2; exact A2)
   have HE := asd h
   clear h A2
   go_wp2_with (first | ((with_reducible refine gate_callee (f := 37) rfl ?_); refine gL (some 32) Tryz.func37 #[.pointer (some ⟨g, 0, none⟩), .func (.func 38) #[] #[.pointer (some ⟨gb10, 0, none⟩), .pointer (some ⟨gb11, 0, none⟩), .pointer (some ⟨gb15, 0, none⟩), .pointer (some ⟨gb8, 0, none⟩), .pointer (some ⟨gb9, 0, none⟩)]] ?_; have q_ := ((Wr.refl gb15 wx9).set 0 (.pointer (some ⟨g, 0, none⟩))); replace B6 := asd (q_.blk B6.out N15_6.out.symm); replace B7 := asd (q_.blk B7.out N15_7.out.symm); replace B8 := asd (q_.blk B8.out N15_8.out.symm); replace B9 := asd (q_.blk B9.out N15_9.out.symm); replace B10 := asd (q_.blk B10.out N15_10.out.symm); replace B11 := asd (q_.blk B11.out N15_11.out.symm); replace B12 := asd (q_.blk B12.out N15_12.out.symm); replace HB := asd (HB.out.trans (q_.be _ G15.out)); replace H := asd (q_.run B15.out (by decide) (by decide) (by decide) (Nat.le_trans W0.out.size G15.out) H.out); replace B15 := asd (show (World.heap _)[gb15]? = some (Obj.cells #[.pointer (some ⟨g, 0, none⟩)] 74 (0, 0)) from (blk_put (cs := #[.pointer none]) B15.out 0 (.pointer (some ⟨g, 0, none⟩)) rfl)); clear q_; refine (node_do.calls 38 Tryz.f38 #[.pointer (some ⟨gb10, 0, none⟩), .pointer (some ⟨gb11, 0, none⟩), .pointer (some ⟨gb15, 0, none⟩), .pointer (some ⟨gb8, 0, none⟩), .pointer (some ⟨gb9, 0, none⟩)] Tryz.func38 (by kernel_rfl) rfl g { (⟨n_id, n_ph, n_sl, n_st, n_op, n_od, n_orr, n_co, n_me, n_tg, n_tb, l, n_se, n_ve, m0, m1, m2, m3, m4, [], 0⟩ : Rs) with er := e_ } s2 dv (.slice none 0 0) w _ H.out HLN.out HN.out (fun c_ w1 hb1 => (node_hears.calls k gb10 gb11 gb15 gb8 gb9 g _ s2 dv (.slice none 0 0) now began Ab cb lb bad w w1 (H.out.below hb1) (blk_below B10.out hb1) (blk_below B11.out hb1) (blk_below B15.out hb1) (blk_below B8.out hb1) (blk_below B9.out hb1) (Kd.C_below HRb.out (below_step HB.out hb1)) HCb.out (HF.out c_)).mono (fun e w2 hq => ⟨hq.1, _, _, hq.2.1.choose_spec.choose_spec, hq.2.2⟩))).mono ?_; rintro e wx10 hD; obtain ⟨sr, hsr, nv, av2, rfl, hnv, hav, hbl, hkr⟩ := hD.one; refine ⟨_, rfl, ?_⟩; have SR := hsr; have nB12 := asd (hkr.blk B12.out N12_g.out (Kd.R_ne H.out.d B12.out (by decide)) (by simp [Value.ownBlock])); clear H HB B6 B7 B8 B9 B10 B11 B12 B15; have B12 := nB12; have HB := asd hbl; have RN := asd hnv; have RA := asd hav; clear nB12 hD hsr hnv hav hbl hkr; obtain ⟨An, cn, ed⟩ := Kd.R_slice RN.out; subst ed; clear hb15 hb8 hb9 hc20 hf20; have hb12 := facts14 B12.out))
   have q_ := (((((((((((((((Wr.refl gb12 wx10).set 0 (.int .i64 sr.id)).set 1 (.int .i64 sr.ph)).set 2 (.int .u64 sr.sl)).set 3 (.int .i64 sr.st)).set 4 (.int .i64 sr.op)).set 5 (.int .i64 sr.od)).set 6 (.int .i64 sr.orr)).set 7 (.int .i64 sr.co)).set 8 (.int .u16 sr.me)).set 9 (.int .i64 sr.tg)).set 10 (.int .i64 sr.tb)).set 11 (.slice An sr.ds.length cn)).set 12 (.bool sr.se)).set 13 (.int .i64 sr.ve))
   replace HB := asd (HB.out.trans (q_.be _ G12.out))
   replace RN := asd (q_.row B12.out (by decide) RN.out)
   replace RA := asd (q_.row B12.out (by decide) RA.out)
   replace B12 := asd (blk14 (.int .i64 sr.id) (.int .i64 sr.ph) (.int .u64 sr.sl) (.int .i64 sr.st) (.int .i64 sr.op) (.int .i64 sr.od) (.int .i64 sr.orr) (.int .i64 sr.co) (.int .u16 sr.me) (.int .i64 sr.tg) (.int .i64 sr.tb) (.slice An sr.ds.length cn) (.bool sr.se) (.int .i64 sr.ve) B12.out)
   clear q_
   have E : nodeTold { (⟨n_id, n_ph, n_sl, n_st, n_op, n_od, n_orr, n_co, n_me, n_tg, n_tb, l, n_se, n_ve, m0, m1, m2, m3, m4, [], 0⟩ : Rs) with er := e_ } s2 = (r1, r2, r3, r4, r5, r6, r7, r8, r9, r10, r11, r12, r13, r14, r15, r16) := HE.out
   unfold nodeTold at E
   simp only [← SR.out, Prod.mk.injEq] at E
   obtain ⟨rfl, rfl, rfl, rfl, rfl, rfl, rfl, rfl, rfl, rfl, rfl, rfl, rfl, rfl, rfl, rfl⟩ := E
   refine bodyPost_ret (results_ctt rfl _ _ gb12 32 #[.int .i64 sr.id, .int .i64 sr.ph, .int .u64 sr.sl, .int .i64 sr.st, .int .i64 sr.op, .int .i64 sr.od, .int .i64 sr.orr, .int .i64 sr.co, .int .u16 sr.me, .int .i64 sr.tg, .int .i64 sr.tb, .slice An sr.ds.length cn, .bool sr.se, .int .i64 sr.ve] (0, 0) _ rfl B12.out Tryz.underlying32 rfl (by kernel_rfl)) rfl ?_
   exact ⟨_, _, rfl, RN.out, RA.out, HB.out⟩


end Go.Proofs.YtcofclkgfandfaaGreat.Print
