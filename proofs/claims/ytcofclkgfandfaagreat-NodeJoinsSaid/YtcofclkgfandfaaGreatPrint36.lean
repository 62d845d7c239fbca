-- PRINTED by print.py (a twelfth state) out of the translation. Not trusted: Lean checks it.
import Derived.Test.YtcofclkgfandfaaGreatSq
import Derived.Test.YtcofclkgfandfaaGreatPrint0
import Derived.Test.YtcofclkgfandfaaGreatPrint11
import Derived.Test.YtcofclkgfandfaaGreatPrint12
import Derived.Test.YtcofclkgfandfaaGreatPrint29
import Derived.Test.YtcofclkgfandfaaGreatPrint5
import Derived.Test.YtcofclkgfandfaaGreatPrint25
namespace Go.Proofs.YtcofclkgfandfaaGreat.Print
open Go.RowKit Go.Proofs.YtcofclkgfandfaaGreatW.PrintWords Go.Proofs.YtcofclkgfandfaaGreatW.PrintLast Go.Proofs.YtcofclkgfandfaaGreatW.PrintMore Go.Proofs.YtcofclkgfandfaaGreatX
attribute [local go_sem] str_lss str_geq max2_int min2_int max_two min_two max_three min_three max_four min_four   -- for this text's walks alone
set_option linter.unusedVariables false
set_option linter.unusedSimpArgs false

/-! ### node_Hear: function 10 -/
/-- What is heard. -/
def node_hears.f (k : Nat) (s : Rs) (now began : Int) (l : List Int) (bad : Bool) : Option Rs :=
 (frame_Read.f k l).bind fun r => if bad = true then some s else if r.2.2.2.2 = 0 then (if r.2.1 = s.id then some s else
  if s.ph = 1 then node_joins.f k s now began r.1 r.2.1 r.2.2.1 r.2.2.2.1 else
  if s.ph = 2 then (medl_Owner.f s.m0 s.m1 s.m2 s.m3 s.m4 s.sl).bind fun o => if o.1 = s.id then some (s.fl o.2) else if s.ve = 0 then (if s.st ≤ began then none else some (s.fl o.2)) else some (s.fl o.2)
  else some s) else some s
set_option maxHeartbeats 8000000 in
set_option maxRecDepth 100000 in
theorem node_hears.calls (k : Nat) (b10 b11 b15 b8 b9 g : Nat) (s s2 : Rs) (dv av : Value) (now began : Int) (Ab : Option Addr) (cb : Nat) (l : List Int) (bad : Bool) (w0 w : World) (h : RSt w0 w g s dv av) (h10 : w.heap[b10]? = some (.cells #[.slice Ab l.length cb] 33 (0, 0))) (h11 : w.heap[b11]? = some (.cells #[.bool bad] 4 (0, 0))) (h15 : w.heap[b15]? = some (.cells #[.pointer (some ⟨g, 0, none⟩)] 74 (0, 0))) (h8 : w.heap[b8]? = some (.cells #[.int .i64 now] 2 (0, 0))) (h9 : w.heap[b9]? = some (.cells #[.int .i64 began] 2 (0, 0))) (hr : Kd.C (Kd.int .u8) w Ab l.length l) (hc : l.length ≤ cb) (hf : node_hears.f k s now began l bad = some s2) :
  Calls Tryz.prog 38 #[.pointer (some ⟨b10, 0, none⟩), .pointer (some ⟨b11, 0, none⟩), .pointer (some ⟨b15, 0, none⟩), .pointer (some ⟨b8, 0, none⟩), .pointer (some ⟨b9, 0, none⟩)] w fun e w' => e = .returned (.tuple #[]) ∧ (∃ dv' av', RSt w0 w' g s2 dv' av') ∧ Kr w w' g dv av := by
 unfold node_hears.f at hf
 obtain ⟨⟨r1, r2, r3, r4, r5⟩, A1, hf⟩ := Option.bind_eq_some_iff.mp hf
 have HA := asd A1
 have HR := asd hr
 have HC := asd hc
 have W0 := asd h.bel
 have H := asd h
 have K := asd (Kr.refl w g dv av)
 have AD := asd (At.refl w.heap.size dv)
 have AA := asd (At.refl w.heap.size av)
 have B10 := asd h10
 have N10_g := asd (blk_ne h10 h.b (by decide) : b10 ≠ g)
 have B11 := asd h11
 have N11_g := asd (blk_ne h11 h.b (by decide) : b11 ≠ g)
 have B15 := asd h15
 have N15_g := asd (blk_ne h15 h.b (by decide) : b15 ≠ g)
 have B8 := asd h8
 have N8_g := asd (blk_ne h8 h.b (by decide) : b8 ≠ g)
 have B9 := asd h9
 have N9_g := asd (blk_ne h9 h.b (by decide) : b9 ≠ g)
 dsimp only at hf
 have HF := asd hf
 have hb10 := ca1 B10
 clear h h10 h11 h15 h8 h9 hr hc A1 hf
 go_enter Tryz.func38, Tryz.ntmps38
 go_wp2_with (first | ((with_reducible refine gate_callee (f := 12) rfl ?_); refine gL (some 9) Tryz.func12 #[.slice Ab l.length cb] ?_; (with_reducible refine (frame_Read.calls k Ab cb l r1 r2 r3 r4 r5 _ HR.out HC.out HA.out).mono ?_); rintro e wx1 ⟨rfl, hb⟩; refine ⟨_, rfl, ?_⟩; replace B10 := asd (blk_below B10.out hb); replace B11 := asd (blk_below B11.out hb); replace B15 := asd (blk_below B15.out hb); replace B8 := asd (blk_below B8.out hb); replace B9 := asd (blk_below B9.out hb); replace H := asd (H.out.below hb); replace K := asd (K.out.step hb); clear hb hb10) | ((with_reducible refine gate_dst (N := 5) rfl ?_); refine bx (N := 5) (cs := #[.int .i64 0, .int .i64 0, .int .u64 0, .int .u16 0]) (t := 43) ?_; intro gb5 hg wx2 hbox hb; have G5 := asd (by rw [hg]; exact K.out.1 : w.heap.size ≤ gb5); have N5_g := asd (by rw [hg]; exact Nat.ne_of_gt (blk_lt H.out.b) : gb5 ≠ g); replace B10 := asd (blk_below B10.out hb); replace B11 := asd (blk_below B11.out hb); replace B15 := asd (blk_below B15.out hb); replace B8 := asd (blk_below B8.out hb); replace B9 := asd (blk_below B9.out hb); replace H := asd (H.out.below hb); replace K := asd (K.out.step hb); have B5 := asd hbox; clear hb hbox hg; have hb5 := ca4 B5))
 have q_ := (((((Wr.refl gb5 wx2).set 0 (.int .i64 r1)).set 1 (.int .i64 r2)).set 2 (.int .u64 r3)).set 3 (.int .u16 r4))
 replace B10 := asd (q_.blk B10.out (blk_ne B10.out B5.out (by decide)))
 replace B11 := asd (q_.blk B11.out (blk_ne B11.out B5.out (by decide)))
 replace B15 := asd (q_.blk B15.out (blk_ne B15.out B5.out (by decide)))
 replace B8 := asd (q_.blk B8.out (blk_ne B8.out B5.out (by decide)))
 replace B9 := asd (q_.blk B9.out (blk_ne B9.out B5.out (by decide)))
 replace H := asd (q_.run B5.out (by decide) (by decide) (by decide) (Nat.le_trans W0.out.size G5.out) H.out)
 replace B5 := asd (show (World.heap _)[gb5]? = some (Obj.cells #[.int .i64 r1, .int .i64 r2, .int .u64 r3, .int .u16 r4] 43 (0, 0)) from (blk_put (cs := #[.int .i64 r1, .int .i64 r2, .int .u64 r3, .int .u16 0]) (blk_put (cs := #[.int .i64 r1, .int .i64 r2, .int .u64 0, .int .u16 0]) (blk_put (cs := #[.int .i64 r1, .int .i64 0, .int .u64 0, .int .u16 0]) (blk_put (cs := #[.int .i64 0, .int .i64 0, .int .u64 0, .int .u16 0]) B5.out 0 (.int .i64 r1) rfl) 1 (.int .i64 r2) rfl) 2 (.int .u64 r3) rfl) 3 (.int .u16 r4) rfl))
 replace K := asd (K.out.wrNew q_ G5.out)
 clear q_
 generalize ((((wx2.setCell ⟨gb5, 0, none⟩ (.int .i64 r1)).setCell ⟨gb5, 1, none⟩ (.int .i64 r2)).setCell ⟨gb5, 2, none⟩ (.int .u64 r3)).setCell ⟨gb5, 3, none⟩ (.int .u16 r4)) = wy0 at B10 B11 B15 B8 B9 B5 H K ⊢
 have hb11 := ca1 B11
 have hb15 := ca1 B15
 have hb5 := ca4 B5
 have hc0 : wy0.cell? ⟨g, 0, none⟩ = some (.int .i64 (s).id) := (by have q := H.out.c0; (try simp only [Rs.fls] at q); exact q)
 have hf0 := H.out.fz 0
 cases bad with
 | true =>
  have hf := HF.out
  rw [if_pos rfl] at hf
  obtain rfl := Option.some.inj hf
  clear HF hf
  go_region
  replace B10 := asd (blk_drew B10.out)
  replace B11 := asd (blk_drew B11.out)
  replace B15 := asd (blk_drew B15.out)
  replace B8 := asd (blk_drew B8.out)
  replace B9 := asd (blk_drew B9.out)
  replace B5 := asd (blk_drew B5.out)
  replace H := asd (H.out.drew)
  replace K := asd (K.out.drew)
  clear hb11 hb15 hb5 hc0 hf0
  generalize (wy0).drew = wd3 at B10 B11 B15 B8 B9 B5 H K ⊢
  go_wp2
  first | go_end0 | go_ret | ((try simp only [Exit.inBlock, Exit.then]); refine bodyPost_ret (results_none rfl _ _ _) rfl ?_)
  exact ⟨rfl, ⟨_, _, H.out⟩, K.out⟩
 | false =>
  by_cases c5 : r5 = 0
  ·have c5a : (r5 != 0) = false := bne_eq_false_iff_eq.mpr c5
   by_cases c6 : r2 = s.id
   ·have c6a : (r2 == s.id) = true := beq_iff_eq.mpr c6
    have hf := HF.out
    rw [if_neg (by decide), if_pos c5, if_pos c6] at hf
    obtain rfl := Option.some.inj hf
    clear HF hf
    go_region
    replace B10 := asd (blk_drew B10.out)
    replace B11 := asd (blk_drew B11.out)
    replace B15 := asd (blk_drew B15.out)
    replace B8 := asd (blk_drew B8.out)
    replace B9 := asd (blk_drew B9.out)
    replace B5 := asd (blk_drew B5.out)
    replace H := asd (H.out.drew)
    replace K := asd (K.out.drew)
    clear hb11 hb15 hb5 hc0 hf0
    generalize (wy0).drew = wd3 at B10 B11 B15 B8 B9 B5 H K ⊢
    go_wp2
    first | go_end0 | go_ret | ((try simp only [Exit.inBlock, Exit.then]); refine bodyPost_ret (results_none rfl _ _ _) rfl ?_)
    exact ⟨rfl, ⟨_, _, H.out⟩, K.out⟩
   ·have c6a : (r2 == s.id) = false := beq_eq_false_iff_ne.mpr c6
    have hf := HF.out
    rw [if_neg (by decide), if_pos c5, if_neg c6] at hf
    clear HF
    go_region
    replace B10 := asd (blk_drew B10.out)
    replace B11 := asd (blk_drew B11.out)
    replace B15 := asd (blk_drew B15.out)
    replace B8 := asd (blk_drew B8.out)
    replace B9 := asd (blk_drew B9.out)
    replace B5 := asd (blk_drew B5.out)
    replace H := asd (H.out.drew)
    replace K := asd (K.out.drew)
    clear hb11 hb15 hb5 hc0 hf0
    generalize (wy0).drew = wd3 at B10 B11 B15 B8 B9 B5 H K ⊢
    by_cases c1 : s.ph = 1
    ·have c1a : (s.ph == 1) = true := beq_iff_eq.mpr c1
     rw [if_pos c1] at hf
     have HF := asd hf
     clear hf
     have hb15 := ca1 B15
     have hb8 := ca1 B8
     have hb9 := ca1 B9
     have hb5 := ca4 B5
     have hc1 : wd3.cell? ⟨g, 1, none⟩ = some (.int .i64 (s).ph) := (by have q := H.out.c1; (try simp only [Rs.fls] at q); exact q)
     have hf1 := H.out.fz 1
     go_wp2_with (first | ((with_reducible refine gate_callee (f := 39) rfl ?_); refine gL (some 39) Tryz.func39 #[.pointer (some ⟨g, 0, none⟩), .int .i64 now, .int .i64 began, .agg #[.int .i64 r1, .int .i64 r2, .int .u64 r3, .int .u16 r4]] ?_; (with_reducible refine (node_joins.calls k g s s2 dv av now began r1 r2 r3 r4 w0 _ H.out HF.out).mono ?_); rintro e wx4 ⟨rfl, ⟨dv2, av2, hs⟩, hk⟩; refine ⟨_, rfl, ?_⟩; have HS := asd hs; have HK := asd (K.out.trans AD.out AA.out hk); clear hs hk))
     first | go_end0 | go_ret | ((try simp only [Exit.inBlock, Exit.then]); refine bodyPost_ret (results_none rfl _ _ _) rfl ?_)
     exact ⟨rfl, ⟨_, _, HS.out⟩, HK.out⟩
    ·have c1a : (s.ph == 1) = false := beq_eq_false_iff_ne.mpr c1
     rw [if_neg c1] at hf
     have hb15 := ca1 B15
     have hc1 : wd3.cell? ⟨g, 1, none⟩ = some (.int .i64 (s).ph) := (by have q := H.out.c1; (try simp only [Rs.fls] at q); exact q)
     have hf1 := H.out.fz 1
     by_cases c2 : s.ph = 2
     ·have c2a : (s.ph == 2) = true := beq_iff_eq.mpr c2
      rw [if_pos c2] at hf
      obtain ⟨⟨on, oe⟩, A7, hf⟩ := Option.bind_eq_some_iff.mp hf
      have HO := asd A7
      dsimp only at hf
      have HF := asd hf
      clear A7 hf
      go_wp2
      by_cases c7 : on = s.id
      ·have c7a : (on != s.id) = false := bne_eq_false_iff_eq.mpr c7
       have hf := HF.out
       rw [if_pos c7] at hf
       obtain rfl := Option.some.inj hf
       clear HF hf
       refine start_ (n := 34) (S := fun w' => w'.cell? ⟨b15, 0, none⟩ = some (.pointer (some ⟨g, 0, none⟩)) ∧ w'.cell? ⟨b9, 0, none⟩ = some (.int .i64 began) ∧ w'.cell? ⟨g, 0, none⟩ = some (.int .i64 s.id) ∧ w'.cell? ⟨g, 1, none⟩ = some (.int .i64 s.ph) ∧ w'.cell? ⟨g, 3, none⟩ = some (.int .i64 s.st) ∧ w'.cell? ⟨g, 13, none⟩ = some (.int .i64 s.ve)) (ds := []) (fb 34 0) (by kernel_rfl) rfl rfl ⟨(blk_cell B15.out 0).trans rfl, (blk_cell B9.out 0).trans rfl, H.out.c0, H.out.c1, H.out.c3, H.out.c13⟩ (fun hHeld => ?_)
       clear hb15 hc1 hf1
       replace B10 := asd (blk_drew B10.out)
       replace B11 := asd (blk_drew B11.out)
       replace B15 := asd (blk_drew B15.out)
       replace B8 := asd (blk_drew B8.out)
       replace B9 := asd (blk_drew B9.out)
       replace B5 := asd (blk_drew B5.out)
       replace H := asd (H.out.drew)
       replace K := asd (K.out.drew)
       generalize (wd3).drew = wd4 at B10 B11 B15 B8 B9 B5 H K hHeld ⊢
       refine tz (i := 0) (N := some 41) (fb 34 1) hHeld ?_
       refine pz (i := 1) (N := some 42) (fb 34 3) ?_
       refine pz (i := 2) (N := some 43) (fb 34 7) ?_
       refine pz (i := 3) (N := some 44) (fb 34 15) ?_
       refine tz (i := 4) (N := some 45) (fb 34 31) hHeld ?_
       refine pz (i := 5) (N := some 46) (fb 34 63) ?_
       refine pz (i := 6) (N := some 47) (fb 34 127) ?_
       refine tz (i := 7) (N := some 48) (fb 34 255) hHeld ?_
       refine tz (i := 9) (N := some 50) (fb 34 767) hHeld ?_
       refine pz (i := 10) (N := some 51) (fb 34 1791) ?_
       refine pz (i := 11) (N := some 52) (fb 34 3839) ?_
       refine pz (i := 12) (N := some 53) (fb 34 7935) ?_
       refine tz (i := 13) (N := some 54) (fb 34 16127) hHeld ?_
       refine one_ (i := 8) (N := some 49) (fb 34 16383) rfl rfl (by kernel_rfl) (by decide) (fun K_ hK_ => ?_)
       refine goesV_ Tryz.func40 (by kernel_rfl) rfl #[.pointer (some ⟨g, 0, none⟩)] (by rfl) rfl rfl (by first | rfl | (simp; done) | (go_simp; done)) (by (try simp only [List.map_toArray, List.map_cons, List.map_nil]); first | done | rfl) ?_
       with_reducible refine (node_owner.calls g s dv av on oe w0 _ H.out HO.out).mono ?_
       rintro e wx5 ⟨rfl, hs, hk⟩
       refine ⟨_, rfl, ?_⟩
       replace K := asd (K.out.thenG hk)
       replace H := asd (hs)
       replace B10 := asd (hk.blk B10.out N10_g.out (by simp [Value.ownBlock]) (by simp [Value.ownBlock]))
       replace B11 := asd (hk.blk B11.out N11_g.out (by simp [Value.ownBlock]) (by simp [Value.ownBlock]))
       replace B15 := asd (hk.blk B15.out N15_g.out (by simp [Value.ownBlock]) (by simp [Value.ownBlock]))
       replace B8 := asd (hk.blk B8.out N8_g.out (by simp [Value.ownBlock]) (by simp [Value.ownBlock]))
       replace B9 := asd (hk.blk B9.out N9_g.out (by simp [Value.ownBlock]) (by simp [Value.ownBlock]))
       replace B5 := asd (hk.blk B5.out N5_g.out (by simp [Value.ownBlock]) (by simp [Value.ownBlock]))
       clear hs hk
       refine hK_.out _ _ ⟨(blk_cell B15.out 0).trans rfl, (blk_cell B9.out 0).trans rfl, (by have q := H.out.c0; simp only [Rs.fls] at q; exact q), (by have q := H.out.c1; simp only [Rs.fls] at q; exact q), (by have q := H.out.c3; simp only [Rs.fls] at q; exact q), (by have q := H.out.c13; simp only [Rs.fls] at q; exact q)⟩ (fun hHeld => ?_)
       clear hK_ K_
       refine pz (i := 14) (N := some 55) (fb 34 32767) ?_
       refine pz (i := 15) (N := some 56) (fb 34 65535) ?_
       refine pz (i := 16) (N := some 57) (fb 34 131071) ?_
       refine pw (i := 17) (N := some 58) (fb 34 262143) ?_
       refine pw (i := 18) (N := some 59) (fb 34 524287) ?_
       refine pw (i := 19) (N := some 60) (fb 34 1048575) ?_
       refine pw (i := 20) (N := some 61) (fb 34 2097151) ?_
       refine pw (i := 21) (N := some 62) (fb 34 4194303) ?_
       refine pw (i := 22) (N := some 63) (fb 34 8388607) ?_
       refine pz (i := 23) (N := some 64) (fb 34 16777215) ?_
       refine pz (i := 24) (N := some 65) (fb 34 33554431) ?_
       refine pw (i := 25) (N := some 66) (fb 34 67108863) ?_
       refine pw (i := 26) (N := some 67) (fb 34 134217727) ?_
       refine pw (i := 27) (N := some 68) (fb 34 268435455) ?_
       refine pw (i := 28) (N := some 69) (fb 34 536870911) ?_
       refine pw (i := 29) (N := some 70) (fb 34 1073741823) ?_
       refine pw (i := 30) (N := some 71) (fb 34 2147483647) ?_
       refine pw (i := 31) (N := some 72) (fb 34 4294967295) ?_
       refine pz (i := 32) (N := some 73) (fb 34 8589934591) ?_
       refine pz (i := 33) (N := some 40) (fb 34 17179869183) ?_
       refine done_ (by kernel_rfl) ?_
       go_wp2
       first | go_end0 | go_ret | ((try simp only [Exit.inBlock, Exit.then]); refine bodyPost_ret (results_none rfl _ _ _) rfl ?_)
       exact ⟨rfl, ⟨_, _, H.out⟩, K.out⟩
      ·have c7a : (on != s.id) = true := bne_iff_ne.mpr c7
       have hf := HF.out
       rw [if_neg c7] at hf
       clear HF
       by_cases c8 : s.ve = 0
       ·have c8a : (s.ve == 0) = true := beq_iff_eq.mpr c8
        rw [if_pos c8] at hf
        by_cases c9 : s.st ≤ began
        ·have c9a : decide (s.st ≤ began) = true := decide_eq_true c9
         rw [if_pos c9] at hf
         exact nomatch hf
        ·have c9a : decide (s.st ≤ began) = false := decide_eq_false c9
         rw [if_neg c9] at hf
         obtain rfl := Option.some.inj hf
         clear hf
         refine start_ (n := 34) (S := fun w' => w'.cell? ⟨b15, 0, none⟩ = some (.pointer (some ⟨g, 0, none⟩)) ∧ w'.cell? ⟨b9, 0, none⟩ = some (.int .i64 began) ∧ w'.cell? ⟨g, 0, none⟩ = some (.int .i64 s.id) ∧ w'.cell? ⟨g, 1, none⟩ = some (.int .i64 s.ph) ∧ w'.cell? ⟨g, 3, none⟩ = some (.int .i64 s.st) ∧ w'.cell? ⟨g, 13, none⟩ = some (.int .i64 s.ve)) (ds := []) (fb 34 0) (by kernel_rfl) rfl rfl ⟨(blk_cell B15.out 0).trans rfl, (blk_cell B9.out 0).trans rfl, H.out.c0, H.out.c1, H.out.c3, H.out.c13⟩ (fun hHeld => ?_)
         clear hb15 hc1 hf1
         replace B10 := asd (blk_drew B10.out)
         replace B11 := asd (blk_drew B11.out)
         replace B15 := asd (blk_drew B15.out)
         replace B8 := asd (blk_drew B8.out)
         replace B9 := asd (blk_drew B9.out)
         replace B5 := asd (blk_drew B5.out)
         replace H := asd (H.out.drew)
         replace K := asd (K.out.drew)
         generalize (wd3).drew = wd4 at B10 B11 B15 B8 B9 B5 H K hHeld ⊢
         refine tz (i := 0) (N := some 41) (fb 34 1) hHeld ?_
         refine pz (i := 1) (N := some 42) (fb 34 3) ?_
         refine pz (i := 2) (N := some 43) (fb 34 7) ?_
         refine pz (i := 3) (N := some 44) (fb 34 15) ?_
         refine tz (i := 4) (N := some 45) (fb 34 31) hHeld ?_
         refine pz (i := 5) (N := some 46) (fb 34 63) ?_
         refine pz (i := 6) (N := some 47) (fb 34 127) ?_
         refine tz (i := 7) (N := some 48) (fb 34 255) hHeld ?_
         refine tz (i := 9) (N := some 50) (fb 34 767) hHeld ?_
         refine pz (i := 10) (N := some 51) (fb 34 1791) ?_
         refine pz (i := 11) (N := some 52) (fb 34 3839) ?_
         refine pz (i := 12) (N := some 53) (fb 34 7935) ?_
         refine tz (i := 13) (N := some 54) (fb 34 16127) hHeld ?_
         refine one_ (i := 8) (N := some 49) (fb 34 16383) rfl rfl (by kernel_rfl) (by decide) (fun K_ hK_ => ?_)
         refine goesV_ Tryz.func40 (by kernel_rfl) rfl #[.pointer (some ⟨g, 0, none⟩)] (by rfl) rfl rfl (by first | rfl | (simp; done) | (go_simp; done)) (by (try simp only [List.map_toArray, List.map_cons, List.map_nil]); first | done | rfl) ?_
         with_reducible refine (node_owner.calls g s dv av on oe w0 _ H.out HO.out).mono ?_
         rintro e wx5 ⟨rfl, hs, hk⟩
         refine ⟨_, rfl, ?_⟩
         replace K := asd (K.out.thenG hk)
         replace H := asd (hs)
         replace B10 := asd (hk.blk B10.out N10_g.out (by simp [Value.ownBlock]) (by simp [Value.ownBlock]))
         replace B11 := asd (hk.blk B11.out N11_g.out (by simp [Value.ownBlock]) (by simp [Value.ownBlock]))
         replace B15 := asd (hk.blk B15.out N15_g.out (by simp [Value.ownBlock]) (by simp [Value.ownBlock]))
         replace B8 := asd (hk.blk B8.out N8_g.out (by simp [Value.ownBlock]) (by simp [Value.ownBlock]))
         replace B9 := asd (hk.blk B9.out N9_g.out (by simp [Value.ownBlock]) (by simp [Value.ownBlock]))
         replace B5 := asd (hk.blk B5.out N5_g.out (by simp [Value.ownBlock]) (by simp [Value.ownBlock]))
         clear hs hk
         refine hK_.out _ _ ⟨(blk_cell B15.out 0).trans rfl, (blk_cell B9.out 0).trans rfl, (by have q := H.out.c0; simp only [Rs.fls] at q; exact q), (by have q := H.out.c1; simp only [Rs.fls] at q; exact q), (by have q := H.out.c3; simp only [Rs.fls] at q; exact q), (by have q := H.out.c13; simp only [Rs.fls] at q; exact q)⟩ (fun hHeld => ?_)
         clear hK_ K_
         refine pz (i := 14) (N := some 55) (fb 34 32767) ?_
         refine pz (i := 15) (N := some 56) (fb 34 65535) ?_
         refine pz (i := 16) (N := some 57) (fb 34 131071) ?_
         refine tz (i := 17) (N := some 58) (fb 34 262143) hHeld ?_
         refine pz (i := 18) (N := some 59) (fb 34 524287) ?_
         refine pz (i := 19) (N := some 60) (fb 34 1048575) ?_
         refine pz (i := 20) (N := some 61) (fb 34 2097151) ?_
         refine tz (i := 21) (N := some 62) (fb 34 4194303) hHeld ?_
         refine pz (i := 22) (N := some 63) (fb 34 8388607) ?_
         refine pz (i := 23) (N := some 64) (fb 34 16777215) ?_
         refine pz (i := 24) (N := some 65) (fb 34 33554431) ?_
         refine tz (i := 25) (N := some 66) (fb 34 67108863) hHeld ?_
         refine tz (i := 26) (N := some 67) (fb 34 134217727) hHeld ?_
         refine pz (i := 27) (N := some 68) (fb 34 268435455) ?_
         refine pz (i := 28) (N := some 69) (fb 34 536870911) ?_
         refine pz (i := 29) (N := some 70) (fb 34 1073741823) ?_
         refine tz (i := 30) (N := some 71) (fb 34 2147483647) hHeld ?_
         refine pz (i := 31) (N := some 72) (fb 34 4294967295) ?_
         refine pz (i := 32) (N := some 73) (fb 34 8589934591) ?_
         refine pz (i := 33) (N := some 40) (fb 34 17179869183) ?_
         refine done_ (by kernel_rfl) ?_
         go_wp2
         first | go_end0 | go_ret | ((try simp only [Exit.inBlock, Exit.then]); refine bodyPost_ret (results_none rfl _ _ _) rfl ?_)
         exact ⟨rfl, ⟨_, _, H.out⟩, K.out⟩
       ·have c8a : (s.ve == 0) = false := beq_eq_false_iff_ne.mpr c8
        rw [if_neg c8] at hf
        obtain rfl := Option.some.inj hf
        clear hf
        refine start_ (n := 34) (S := fun w' => w'.cell? ⟨b15, 0, none⟩ = some (.pointer (some ⟨g, 0, none⟩)) ∧ w'.cell? ⟨b9, 0, none⟩ = some (.int .i64 began) ∧ w'.cell? ⟨g, 0, none⟩ = some (.int .i64 s.id) ∧ w'.cell? ⟨g, 1, none⟩ = some (.int .i64 s.ph) ∧ w'.cell? ⟨g, 3, none⟩ = some (.int .i64 s.st) ∧ w'.cell? ⟨g, 13, none⟩ = some (.int .i64 s.ve)) (ds := []) (fb 34 0) (by kernel_rfl) rfl rfl ⟨(blk_cell B15.out 0).trans rfl, (blk_cell B9.out 0).trans rfl, H.out.c0, H.out.c1, H.out.c3, H.out.c13⟩ (fun hHeld => ?_)
        clear hb15 hc1 hf1
        replace B10 := asd (blk_drew B10.out)
        replace B11 := asd (blk_drew B11.out)
        replace B15 := asd (blk_drew B15.out)
        replace B8 := asd (blk_drew B8.out)
        replace B9 := asd (blk_drew B9.out)
        replace B5 := asd (blk_drew B5.out)
        replace H := asd (H.out.drew)
        replace K := asd (K.out.drew)
        generalize (wd3).drew = wd4 at B10 B11 B15 B8 B9 B5 H K hHeld ⊢
        refine tz (i := 0) (N := some 41) (fb 34 1) hHeld ?_
        refine pz (i := 1) (N := some 42) (fb 34 3) ?_
        refine pz (i := 2) (N := some 43) (fb 34 7) ?_
        refine pz (i := 3) (N := some 44) (fb 34 15) ?_
        refine tz (i := 4) (N := some 45) (fb 34 31) hHeld ?_
        refine pz (i := 5) (N := some 46) (fb 34 63) ?_
        refine pz (i := 6) (N := some 47) (fb 34 127) ?_
        refine tz (i := 7) (N := some 48) (fb 34 255) hHeld ?_
        refine tz (i := 9) (N := some 50) (fb 34 767) hHeld ?_
        refine pz (i := 10) (N := some 51) (fb 34 1791) ?_
        refine pz (i := 11) (N := some 52) (fb 34 3839) ?_
        refine pz (i := 12) (N := some 53) (fb 34 7935) ?_
        refine tz (i := 13) (N := some 54) (fb 34 16127) hHeld ?_
        refine one_ (i := 8) (N := some 49) (fb 34 16383) rfl rfl (by kernel_rfl) (by decide) (fun K_ hK_ => ?_)
        refine goesV_ Tryz.func40 (by kernel_rfl) rfl #[.pointer (some ⟨g, 0, none⟩)] (by rfl) rfl rfl (by first | rfl | (simp; done) | (go_simp; done)) (by (try simp only [List.map_toArray, List.map_cons, List.map_nil]); first | done | rfl) ?_
        with_reducible refine (node_owner.calls g s dv av on oe w0 _ H.out HO.out).mono ?_
        rintro e wx5 ⟨rfl, hs, hk⟩
        refine ⟨_, rfl, ?_⟩
        replace K := asd (K.out.thenG hk)
        replace H := asd (hs)
        replace B10 := asd (hk.blk B10.out N10_g.out (by simp [Value.ownBlock]) (by simp [Value.ownBlock]))
        replace B11 := asd (hk.blk B11.out N11_g.out (by simp [Value.ownBlock]) (by simp [Value.ownBlock]))
        replace B15 := asd (hk.blk B15.out N15_g.out (by simp [Value.ownBlock]) (by simp [Value.ownBlock]))
        replace B8 := asd (hk.blk B8.out N8_g.out (by simp [Value.ownBlock]) (by simp [Value.ownBlock]))
        replace B9 := asd (hk.blk B9.out N9_g.out (by simp [Value.ownBlock]) (by simp [Value.ownBlock]))
        replace B5 := asd (hk.blk B5.out N5_g.out (by simp [Value.ownBlock]) (by simp [Value.ownBlock]))
        clear hs hk
        refine hK_.out _ _ ⟨(blk_cell B15.out 0).trans rfl, (blk_cell B9.out 0).trans rfl, (by have q := H.out.c0; simp only [Rs.fls] at q; exact q), (by have q := H.out.c1; simp only [Rs.fls] at q; exact q), (by have q := H.out.c3; simp only [Rs.fls] at q; exact q), (by have q := H.out.c13; simp only [Rs.fls] at q; exact q)⟩ (fun hHeld => ?_)
        clear hK_ K_
        refine pz (i := 14) (N := some 55) (fb 34 32767) ?_
        refine pz (i := 15) (N := some 56) (fb 34 65535) ?_
        refine pz (i := 16) (N := some 57) (fb 34 131071) ?_
        refine tz (i := 17) (N := some 58) (fb 34 262143) hHeld ?_
        refine pz (i := 18) (N := some 59) (fb 34 524287) ?_
        refine pz (i := 19) (N := some 60) (fb 34 1048575) ?_
        refine pz (i := 20) (N := some 61) (fb 34 2097151) ?_
        refine tz (i := 21) (N := some 62) (fb 34 4194303) hHeld ?_
        refine pz (i := 22) (N := some 63) (fb 34 8388607) ?_
        refine pz (i := 23) (N := some 64) (fb 34 16777215) ?_
        refine pz (i := 24) (N := some 65) (fb 34 33554431) ?_
        refine pw (i := 25) (N := some 66) (fb 34 67108863) ?_
        refine pw (i := 26) (N := some 67) (fb 34 134217727) ?_
        refine pw (i := 27) (N := some 68) (fb 34 268435455) ?_
        refine pw (i := 28) (N := some 69) (fb 34 536870911) ?_
        refine pw (i := 29) (N := some 70) (fb 34 1073741823) ?_
        refine pw (i := 30) (N := some 71) (fb 34 2147483647) ?_
        refine pw (i := 31) (N := some 72) (fb 34 4294967295) ?_
        refine pz (i := 32) (N := some 73) (fb 34 8589934591) ?_
        refine pz (i := 33) (N := some 40) (fb 34 17179869183) ?_
        refine done_ (by kernel_rfl) ?_
        go_wp2
        first | go_end0 | go_ret | ((try simp only [Exit.inBlock, Exit.then]); refine bodyPost_ret (results_none rfl _ _ _) rfl ?_)
        exact ⟨rfl, ⟨_, _, H.out⟩, K.out⟩
     ·have c2a : (s.ph == 2) = false := beq_eq_false_iff_ne.mpr c2
      rw [if_neg c2] at hf
      obtain rfl := Option.some.inj hf
      clear hf
      go_wp2
      go_region
      replace B10 := asd (blk_drew B10.out)
      replace B11 := asd (blk_drew B11.out)
      replace B15 := asd (blk_drew B15.out)
      replace B8 := asd (blk_drew B8.out)
      replace B9 := asd (blk_drew B9.out)
      replace B5 := asd (blk_drew B5.out)
      replace H := asd (H.out.drew)
      replace K := asd (K.out.drew)
      clear hb15 hc1 hf1
      generalize (wd3).drew = wd4 at B10 B11 B15 B8 B9 B5 H K ⊢
      go_wp2
      first | go_end0 | go_ret | ((try simp only [Exit.inBlock, Exit.then]); refine bodyPost_ret (results_none rfl _ _ _) rfl ?_)
      exact ⟨rfl, ⟨_, _, H.out⟩, K.out⟩
  ·have c5a : (r5 != 0) = true := bne_iff_ne.mpr c5
   have hf := HF.out
   rw [if_neg (by decide), if_neg c5] at hf
   obtain rfl := Option.some.inj hf
   clear HF hf
   go_region
   replace B10 := asd (blk_drew B10.out)
   replace B11 := asd (blk_drew B11.out)
   replace B15 := asd (blk_drew B15.out)
   replace B8 := asd (blk_drew B8.out)
   replace B9 := asd (blk_drew B9.out)
   replace B5 := asd (blk_drew B5.out)
   replace H := asd (H.out.drew)
   replace K := asd (K.out.drew)
   clear hb11 hb15 hb5 hc0 hf0
   generalize (wy0).drew = wd3 at B10 B11 B15 B8 B9 B5 H K ⊢
   go_wp2
   first | go_end0 | go_ret | ((try simp only [Exit.inBlock, Exit.then]); refine bodyPost_ret (results_none rfl _ _ _) rfl ?_)
   exact ⟨rfl, ⟨_, _, H.out⟩, K.out⟩

/-- A node hears. -/
def node_Hear.f (k : Nat) (m0 m1 m2 m3 m4 : Int) (n_id n_ph n_sl n_st n_op n_od n_orr n_co n_me n_tg n_tb : Int) (l : List Int) (n_se : Bool) (n_ve : Int) (now began : Int) (lb : List Int) (bad : Bool) : Option (Int × Int × Int × Int × Int × Int × Int × Int × Int × Int × Int × List Int × Bool × Int × List S66 × Int) := (node_begin.f k m0 m1 m2 m3 m4 n_id n_ph n_sl n_st n_op n_od n_orr n_co n_me n_tg n_tb n_ve n_se l now).bind fun e_ =>
 if began < 0 ∨ now < began then some (nodeTold { { (⟨n_id, n_ph, n_sl, n_st, n_op, n_od, n_orr, n_co, n_me, n_tg, n_tb, l, n_se, n_ve, m0, m1, m2, m3, m4, [], 0⟩ : Rs) with er := e_ } with er := 1 } { { (⟨n_id, n_ph, n_sl, n_st, n_op, n_od, n_orr, n_co, n_me, n_tg, n_tb, l, n_se, n_ve, m0, m1, m2, m3, m4, [], 0⟩ : Rs) with er := e_ } with er := 1 }) else
 (if e_ = 0 then node_hears.f k { (⟨n_id, n_ph, n_sl, n_st, n_op, n_od, n_orr, n_co, n_me, n_tg, n_tb, l, n_se, n_ve, m0, m1, m2, m3, m4, [], 0⟩ : Rs) with er := e_ } now began lb bad else some { (⟨n_id, n_ph, n_sl, n_st, n_op, n_od, n_orr, n_co, n_me, n_tg, n_tb, l, n_se, n_ve, m0, m1, m2, m3, m4, [], 0⟩ : Rs) with er := e_ }).bind fun s2 => some (nodeTold { (⟨n_id, n_ph, n_sl, n_st, n_op, n_od, n_orr, n_co, n_me, n_tg, n_tb, l, n_se, n_ve, m0, m1, m2, m3, m4, [], 0⟩ : Rs) with er := e_ } s2)
set_option maxHeartbeats 8000000 in
set_option maxRecDepth 100000 in
theorem node_Hear.calls (k : Nat) (m0 m1 m2 m3 m4 : Int) (n_id n_ph n_sl n_st n_op n_od n_orr n_co n_me n_tg n_tb : Int) (A : Option Addr) (c : Nat) (l : List Int) (n_se : Bool) (n_ve : Int) (now began : Int) (Ab : Option Addr) (cb : Nat) (lb : List Int) (bad : Bool) (r1 r2 r3 r4 r5 r6 r7 r8 r9 r10 r11 : Int) (r12 : List Int) (r13 : Bool) (r14 : Int) (r15 : List S66) (r16 : Int) (w : World) (hr : Kd.C (Kd.int .i64) w A l.length l) (hc : l.length ≤ c) (hrb : Kd.C (Kd.int .u8) w Ab lb.length lb) (hcb : lb.length ≤ cb) (h : node_Hear.f k m0 m1 m2 m3 m4 n_id n_ph n_sl n_st n_op n_od n_orr n_co n_me n_tg n_tb l n_se n_ve now began lb bad = some (r1, r2, r3, r4, r5, r6, r7, r8, r9, r10, r11, r12, r13, r14, r15, r16)) :
  Calls Tryz.prog 10 #[.agg #[.int .i64 m0, .int .i64 m1, .int .i64 m2, .int .i64 m3, .int .i64 m4], .agg #[.int .i64 n_id, .int .i64 n_ph, .int .u64 n_sl, .int .i64 n_st, .int .i64 n_op, .int .i64 n_od, .int .i64 n_orr, .int .i64 n_co, .int .u16 n_me, .int .i64 n_tg, .int .i64 n_tb, .slice A l.length c, .bool n_se, .int .i64 n_ve], .int .i64 now, .int .i64 began, .slice Ab lb.length cb, .bool bad] w fun e w' => ∃ v11_ v14_ : Value, e = .returned (.tuple #[.agg #[.int .i64 r1, .int .i64 r2, .int .u64 r3, .int .i64 r4, .int .i64 r5, .int .i64 r6, .int .i64 r7, .int .i64 r8, .int .u16 r9, .int .i64 r10, .int .i64 r11, v11_, .bool r13, .int .i64 r14], v14_, .int .i64 r16]) ∧ Kd.R (Kd.int .i64) 2 w' w.heap.size (fun _ => True) v11_ r12 ∧ Kd.R k66 66 w' w.heap.size (fun _ => True) v14_ r15 ∧ Below w.heap.size w w' := by
 unfold node_Hear.f at h
 obtain ⟨e_, A1, h⟩ := Option.bind_eq_some_iff.mp h
 have HA := asd A1
 have HR := asd hr
 have HC := asd hc
 have HRb := asd hrb
 have HCb := asd hcb
 have HLN := asd (show l.length < 17592186044416 from node_begin_len A1)
 have HB := asd (Below.refl w.heap.size w)
 have W0 := asd (Below.refl w.heap.size w)
 have hmf : ∀ fn first cap w, (Instr.makeFunc fn first cap).run Tryz.prog w = .ok (.func fn first cap) w := fun _ _ _ _ => rfl
 clear hr hc hrb hcb A1
 go_enter Tryz.func10, Tryz.ntmps10
 go_upto_region 2 with (first | ((with_reducible refine gate_dst (N := 6) rfl ?_); refine bx (N := 6) (cs := #[.int .i64 m0, .int .i64 m1, .int .i64 m2, .int .i64 m3, .int .i64 m4]) (t := 23) ?_; intro gb6 hg wx1 hbox hb; have G6 := asd (by rw [hg]; exact HB.out.size : w.heap.size ≤ gb6); replace HB := asd (below_step HB.out hb); have B6 := asd hbox; clear hb hbox hg; have hb6 := ca5 B6) | ((with_reducible refine gate_dst (N := 7) rfl ?_); refine bx (N := 7) (cs := #[.int .i64 n_id, .int .i64 n_ph, .int .u64 n_sl, .int .i64 n_st, .int .i64 n_op, .int .i64 n_od, .int .i64 n_orr, .int .i64 n_co, .int .u16 n_me, .int .i64 n_tg, .int .i64 n_tb, .slice A l.length c, .bool n_se, .int .i64 n_ve]) (t := 32) ?_; intro gb7 hg wx2 hbox hb; have G7 := asd (by rw [hg]; exact HB.out.size : w.heap.size ≤ gb7); have N7_6 := asd (by rw [hg]; exact Nat.ne_of_gt (blk_lt B6.out) : gb7 ≠ gb6); replace HB := asd (below_step HB.out hb); replace B6 := asd (blk_below B6.out hb); have B7 := asd hbox; clear hb hbox hg hb6; have hb6 := ca5 B6; have hb7 := facts14 B7.out) | ((with_reducible refine gate_dst (N := 8) rfl ?_); refine bx (N := 8) (cs := #[.int .i64 now]) (t := 2) ?_; intro gb8 hg wx3 hbox hb; have G8 := asd (by rw [hg]; exact HB.out.size : w.heap.size ≤ gb8); have N8_6 := asd (by rw [hg]; exact Nat.ne_of_gt (blk_lt B6.out) : gb8 ≠ gb6); have N8_7 := asd (by rw [hg]; exact Nat.ne_of_gt (blk_lt B7.out) : gb8 ≠ gb7); replace HB := asd (below_step HB.out hb); replace B6 := asd (blk_below B6.out hb); replace B7 := asd (blk_below B7.out hb); have B8 := asd hbox; clear hb hbox hg hb6 hb7; have hb6 := ca5 B6; have hb7 := facts14 B7.out; have hb8 := ca1 B8) | ((with_reducible refine gate_dst (N := 9) rfl ?_); refine bx (N := 9) (cs := #[.int .i64 began]) (t := 2) ?_; intro gb9 hg wx4 hbox hb; have G9 := asd (by rw [hg]; exact HB.out.size : w.heap.size ≤ gb9); have N9_6 := asd (by rw [hg]; exact Nat.ne_of_gt (blk_lt B6.out) : gb9 ≠ gb6); have N9_7 := asd (by rw [hg]; exact Nat.ne_of_gt (blk_lt B7.out) : gb9 ≠ gb7); have N9_8 := asd (by rw [hg]; exact Nat.ne_of_gt (blk_lt B8.out) : gb9 ≠ gb8); replace HB := asd (below_step HB.out hb); replace B6 := asd (blk_below B6.out hb); replace B7 := asd (blk_below B7.out hb); replace B8 := asd (blk_below B8.out hb); have B9 := asd hbox; clear hb hbox hg hb6 hb7 hb8; have hb6 := ca5 B6; have hb7 := facts14 B7.out; have hb8 := ca1 B8) | ((with_reducible refine gate_dst (N := 10) rfl ?_); refine bx (N := 10) (cs := #[.slice Ab lb.length cb]) (t := 33) ?_; intro gb10 hg wx5 hbox hb; have G10 := asd (by rw [hg]; exact HB.out.size : w.heap.size ≤ gb10); have N10_6 := asd (by rw [hg]; exact Nat.ne_of_gt (blk_lt B6.out) : gb10 ≠ gb6); have N10_7 := asd (by rw [hg]; exact Nat.ne_of_gt (blk_lt B7.out) : gb10 ≠ gb7); have N10_8 := asd (by rw [hg]; exact Nat.ne_of_gt (blk_lt B8.out) : gb10 ≠ gb8); have N10_9 := asd (by rw [hg]; exact Nat.ne_of_gt (blk_lt B9.out) : gb10 ≠ gb9); replace HB := asd (below_step HB.out hb); replace B6 := asd (blk_below B6.out hb); replace B7 := asd (blk_below B7.out hb); replace B8 := asd (blk_below B8.out hb); replace B9 := asd (blk_below B9.out hb); have B10 := asd hbox; clear hb hbox hg hb6 hb7 hb8; have hb6 := ca5 B6; have hb7 := facts14 B7.out; have hb8 := ca1 B8) | ((with_reducible refine gate_dst (N := 11) rfl ?_); refine bx (N := 11) (cs := #[.bool bad]) (t := 4) ?_; intro gb11 hg wx6 hbox hb; have G11 := asd (by rw [hg]; exact HB.out.size : w.heap.size ≤ gb11); have N11_6 := asd (by rw [hg]; exact Nat.ne_of_gt (blk_lt B6.out) : gb11 ≠ gb6); have N11_7 := asd (by rw [hg]; exact Nat.ne_of_gt (blk_lt B7.out) : gb11 ≠ gb7); have N11_8 := asd (by rw [hg]; exact Nat.ne_of_gt (blk_lt B8.out) : gb11 ≠ gb8); have N11_9 := asd (by rw [hg]; exact Nat.ne_of_gt (blk_lt B9.out) : gb11 ≠ gb9); have N11_10 := asd (by rw [hg]; exact Nat.ne_of_gt (blk_lt B10.out) : gb11 ≠ gb10); replace HB := asd (below_step HB.out hb); replace B6 := asd (blk_below B6.out hb); replace B7 := asd (blk_below B7.out hb); replace B8 := asd (blk_below B8.out hb); replace B9 := asd (blk_below B9.out hb); replace B10 := asd (blk_below B10.out hb); have B11 := asd hbox; clear hb hbox hg hb6 hb7 hb8; have hb6 := ca5 B6; have hb7 := facts14 B7.out; have hb8 := ca1 B8) | ((with_reducible refine gate_dst (N := 12) rfl ?_); refine bx (N := 12) (cs := #[.int .i64 0, .int .i64 0, .int .u64 0, .int .i64 0, .int .i64 0, .int .i64 0, .int .i64 0, .int .i64 0, .int .u16 0, .int .i64 0, .int .i64 0, .slice none 0 0, .bool false, .int .i64 0]) (t := 32) ?_; intro gb12 hg wx7 hbox hb; have G12 := asd (by rw [hg]; exact HB.out.size : w.heap.size ≤ gb12); have N12_6 := asd (by rw [hg]; exact Nat.ne_of_gt (blk_lt B6.out) : gb12 ≠ gb6); have N12_7 := asd (by rw [hg]; exact Nat.ne_of_gt (blk_lt B7.out) : gb12 ≠ gb7); have N12_8 := asd (by rw [hg]; exact Nat.ne_of_gt (blk_lt B8.out) : gb12 ≠ gb8); have N12_9 := asd (by rw [hg]; exact Nat.ne_of_gt (blk_lt B9.out) : gb12 ≠ gb9); have N12_10 := asd (by rw [hg]; exact Nat.ne_of_gt (blk_lt B10.out) : gb12 ≠ gb10); have N12_11 := asd (by rw [hg]; exact Nat.ne_of_gt (blk_lt B11.out) : gb12 ≠ gb11); replace HB := asd (below_step HB.out hb); replace B6 := asd (blk_below B6.out hb); replace B7 := asd (blk_below B7.out hb); replace B8 := asd (blk_below B8.out hb); replace B9 := asd (blk_below B9.out hb); replace B10 := asd (blk_below B10.out hb); replace B11 := asd (blk_below B11.out hb); have B12 := asd hbox; clear hb hbox hg hb6 hb7 hb8; have hb6 := ca5 B6; have hb7 := facts14 B7.out; have hb8 := ca1 B8) | ((with_reducible refine gate_callee (f := 36) rfl ?_); refine gL (some 19) Tryz.func36 #[.agg #[.int .i64 m0, .int .i64 m1, .int .i64 m2, .int .i64 m3, .int .i64 m4], .agg #[.int .i64 n_id, .int .i64 n_ph, .int .u64 n_sl, .int .i64 n_st, .int .i64 n_op, .int .i64 n_od, .int .i64 n_orr, .int .i64 n_co, .int .u16 n_me, .int .i64 n_tg, .int .i64 n_tb, .slice A l.length c, .bool n_se, .int .i64 n_ve], .int .i64 now] ?_; (with_reducible refine (node_begin.calls k m0 m1 m2 m3 m4 n_id n_ph n_sl n_st n_op n_od n_orr n_co n_me n_tg n_tb n_ve n_se A c l now e_ w _ HB (Kd.C_below HR.out HB.out) HC.out HLN.out HA.out).mono ?_); rintro e wx8 ⟨g, dv, rfl, hs, hgs, hds, hb⟩; refine ⟨_, rfl, ?_⟩; have N6_g := asd (fun e => absurd (blk_lt B6.out) (by rw [e]; omega) : gb6 ≠ g); have N7_g := asd (fun e => absurd (blk_lt B7.out) (by rw [e]; omega) : gb7 ≠ g); have N8_g := asd (fun e => absurd (blk_lt B8.out) (by rw [e]; omega) : gb8 ≠ g); have N9_g := asd (fun e => absurd (blk_lt B9.out) (by rw [e]; omega) : gb9 ≠ g); have N10_g := asd (fun e => absurd (blk_lt B10.out) (by rw [e]; omega) : gb10 ≠ g); have N11_g := asd (fun e => absurd (blk_lt B11.out) (by rw [e]; omega) : gb11 ≠ g); have N12_g := asd (fun e => absurd (blk_lt B12.out) (by rw [e]; omega) : gb12 ≠ g); replace HB := asd (below_step HB.out hb); replace B6 := asd (blk_below B6.out hb); replace B7 := asd (blk_below B7.out hb); replace B8 := asd (blk_below B8.out hb); replace B9 := asd (blk_below B9.out hb); replace B10 := asd (blk_below B10.out hb); replace B11 := asd (blk_below B11.out hb); replace B12 := asd (blk_below B12.out hb); have H := asd hs; clear hs hgs hds hb hb6 hb7 hb8) | ((with_reducible refine gate_dst (N := 15) rfl ?_); refine bx (N := 15) (cs := #[.pointer none]) (t := 74) ?_; intro gb15 hg wx9 hbox hb; have G15 := asd (by rw [hg]; exact HB.out.size : w.heap.size ≤ gb15); have N15_6 := asd (by rw [hg]; exact Nat.ne_of_gt (blk_lt B6.out) : gb15 ≠ gb6); have N15_7 := asd (by rw [hg]; exact Nat.ne_of_gt (blk_lt B7.out) : gb15 ≠ gb7); have N15_8 := asd (by rw [hg]; exact Nat.ne_of_gt (blk_lt B8.out) : gb15 ≠ gb8); have N15_9 := asd (by rw [hg]; exact Nat.ne_of_gt (blk_lt B9.out) : gb15 ≠ gb9); have N15_10 := asd (by rw [hg]; exact Nat.ne_of_gt (blk_lt B10.out) : gb15 ≠ gb10); have N15_11 := asd (by rw [hg]; exact Nat.ne_of_gt (blk_lt B11.out) : gb15 ≠ gb11); have N15_12 := asd (by rw [hg]; exact Nat.ne_of_gt (blk_lt B12.out) : gb15 ≠ gb12); have N15_g := asd (by rw [hg]; exact Nat.ne_of_gt (blk_lt H.out.b) : gb15 ≠ g); replace HB := asd (below_step HB.out hb); replace B6 := asd (blk_below B6.out hb); replace B7 := asd (blk_below B7.out hb); replace B8 := asd (blk_below B8.out hb); replace B9 := asd (blk_below B9.out hb); replace B10 := asd (blk_below B10.out hb); replace B11 := asd (blk_below B11.out hb); replace B12 := asd (blk_below B12.out hb); replace H := asd (H.out.below hb); have B15 := asd hbox; clear hb hbox hg; have hb15 := ca1 B15; have hb8 := ca1 B8; have hb9 := ca1 B9; have hc20 : wx9.cell? ⟨g, 20, none⟩ = some (.int .i64 e_) := (by have q := H.out.c20; (try simp only [Rs.fls] at q); exact q); have hf20 := H.out.fz 20; have hne8 : gb8 ≠ gb15 := N15_8.out.symm; have hne9 : gb9 ≠ gb15 := N15_9.out.symm; have hneg : g ≠ gb15 := N15_g.out.symm; have hneg2 : gb15 ≠ g := N15_g.out))
 by_cases c1 : began < 0
 ·have c1a : decide (began < 0) = true := decide_eq_true c1
  rw [if_pos (Or.inl c1)] at h
  obtain ⟨s2, hs2⟩ : ∃ s2 : Rs, s2 = { { (⟨n_id, n_ph, n_sl, n_st, n_op, n_od, n_orr, n_co, n_me, n_tg, n_tb, l, n_se, n_ve, m0, m1, m2, m3, m4, [], 0⟩ : Rs) with er := e_ } with er := 1 } := ⟨_, rfl⟩
  have h : nodeTold { { (⟨n_id, n_ph, n_sl, n_st, n_op, n_od, n_orr, n_co, n_me, n_tg, n_tb, l, n_se, n_ve, m0, m1, m2, m3, m4, [], 0⟩ : Rs) with er := e_ } with er := 1 } s2 = (r1, r2, r3, r4, r5, r6, r7, r8, r9, r10, r11, r12, r13, r14, r15, r16) := by rw [hs2]; exact Option.some.inj h
  have HN := asd (show ({ { (⟨n_id, n_ph, n_sl, n_st, n_op, n_od, n_orr, n_co, n_me, n_tg, n_tb, l, n_se, n_ve, m0, m1, m2, m3, m4, [], 0⟩ : Rs) with er := e_ } with er := 1 } : Rs).er ≠ 0 → s2 = { { (⟨n_id, n_ph, n_sl, n_st, n_op, n_od, n_orr, n_co, n_me, n_tg, n_tb, l, n_se, n_ve, m0, m1, m2, m3, m4, [], 0⟩ : Rs) with er := e_ } with er := 1 } from fun hn => hs2)
  have HE := asd h
  clear h hs2
  go_wp2_with (first | ((with_reducible refine gate_callee (f := 37) rfl ?_); refine gL (some 32) Tryz.func37 #[.pointer (some ⟨g, 0, none⟩), .func (.func 38) #[] #[.pointer (some ⟨gb10, 0, none⟩), .pointer (some ⟨gb11, 0, none⟩), .pointer (some ⟨gb15, 0, none⟩), .pointer (some ⟨gb8, 0, none⟩), .pointer (some ⟨gb9, 0, none⟩)]] ?_; have q_ := ((Wr.refl gb15 wx9).set 0 (.pointer (some ⟨g, 0, none⟩))); replace B6 := asd (q_.blk B6.out N15_6.out.symm); replace B7 := asd (q_.blk B7.out N15_7.out.symm); replace B8 := asd (q_.blk B8.out N15_8.out.symm); replace B9 := asd (q_.blk B9.out N15_9.out.symm); replace B10 := asd (q_.blk B10.out N15_10.out.symm); replace B11 := asd (q_.blk B11.out N15_11.out.symm); replace B12 := asd (q_.blk B12.out N15_12.out.symm); replace HB := asd (HB.out.trans (q_.be _ G15.out)); replace H := asd (q_.run B15.out (by decide) (by decide) (by decide) (Nat.le_trans W0.out.size G15.out) H.out); replace B15 := asd (show (World.heap _)[gb15]? = some (Obj.cells #[.pointer (some ⟨g, 0, none⟩)] 74 (0, 0)) from (blk_put (cs := #[.pointer none]) B15.out 0 (.pointer (some ⟨g, 0, none⟩)) rfl)); clear q_; have q_ := (Wr.refl g (wx9.setCell ⟨gb15, 0, none⟩ (.pointer (some ⟨g, 0, none⟩)))).set 20 (.int .i64 1); replace B6 := asd (q_.blk B6.out N6_g.out); replace B7 := asd (q_.blk B7.out N7_g.out); replace B8 := asd (q_.blk B8.out N8_g.out); replace B9 := asd (q_.blk B9.out N9_g.out); replace B10 := asd (q_.blk B10.out N10_g.out); replace B11 := asd (q_.blk B11.out N11_g.out); replace B12 := asd (q_.blk B12.out N12_g.out); replace B15 := asd (q_.blk B15.out N15_g.out); replace HB := asd (HB.out.trans (q_.be _ H.out.ge)); replace H := asd (H.out.s20 1); clear q_; refine (node_do.calls 38 Tryz.f38 #[.pointer (some ⟨gb10, 0, none⟩), .pointer (some ⟨gb11, 0, none⟩), .pointer (some ⟨gb15, 0, none⟩), .pointer (some ⟨gb8, 0, none⟩), .pointer (some ⟨gb9, 0, none⟩)] Tryz.func38 (by kernel_rfl) rfl g { { (⟨n_id, n_ph, n_sl, n_st, n_op, n_od, n_orr, n_co, n_me, n_tg, n_tb, l, n_se, n_ve, m0, m1, m2, m3, m4, [], 0⟩ : Rs) with er := e_ } with er := 1 } s2 dv (.slice none 0 0) w _ H.out HLN.out HN.out (fun c_ _ _ => absurd (show (1 : Int) = 0 from c_) (by decide))).mono ?_; rintro e wx10 hD; obtain ⟨sr, hsr, nv, av2, rfl, hnv, hav, hbl, hkr⟩ := hD.one; refine ⟨_, rfl, ?_⟩; have SR := hsr; have nB12 := asd (hkr.blk B12.out N12_g.out (Kd.R_ne H.out.d B12.out (by decide)) (by simp [Value.ownBlock])); clear H HB B6 B7 B8 B9 B10 B11 B12 B15; have B12 := nB12; have HB := asd hbl; have RN := asd hnv; have RA := asd hav; clear nB12 hD hsr hnv hav hbl hkr; obtain ⟨An, cn, ed⟩ := Kd.R_slice RN.out; subst ed; clear hb15 hb8 hb9 hc20 hf20; have hb12 := facts14 B12.out))
  have q_ := (((((((((((((((Wr.refl gb12 wx10).set 0 (.int .i64 sr.id)).set 1 (.int .i64 sr.ph)).set 2 (.int .u64 sr.sl)).set 3 (.int .i64 sr.st)).set 4 (.int .i64 sr.op)).set 5 (.int .i64 sr.od)).set 6 (.int .i64 sr.orr)).set 7 (.int .i64 sr.co)).set 8 (.int .u16 sr.me)).set 9 (.int .i64 sr.tg)).set 10 (.int .i64 sr.tb)).set 11 (.slice An sr.ds.length cn)).set 12 (.bool sr.se)).set 13 (.int .i64 sr.ve))
  replace HB := asd (HB.out.trans (q_.be _ G12.out))
  replace RN := asd (q_.row B12.out (by decide) RN.out)
  replace RA := asd (q_.row B12.out (by decide) RA.out)
  replace B12 := asd (blk14 (.int .i64 sr.id) (.int .i64 sr.ph) (.int .u64 sr.sl) (.int .i64 sr.st) (.int .i64 sr.op) (.int .i64 sr.od) (.int .i64 sr.orr) (.int .i64 sr.co) (.int .u16 sr.me) (.int .i64 sr.tg) (.int .i64 sr.tb) (.slice An sr.ds.length cn) (.bool sr.se) (.int .i64 sr.ve) B12.out)
  clear q_
  have E : nodeTold { { (⟨n_id, n_ph, n_sl, n_st, n_op, n_od, n_orr, n_co, n_me, n_tg, n_tb, l, n_se, n_ve, m0, m1, m2, m3, m4, [], 0⟩ : Rs) with er := e_ } with er := 1 } s2 = (r1, r2, r3, r4, r5, r6, r7, r8, r9, r10, r11, r12, r13, r14, r15, r16) := HE.out
  unfold nodeTold at E
  simp only [← SR.out, Prod.mk.injEq] at E
  obtain ⟨rfl, rfl, rfl, rfl, rfl, rfl, rfl, rfl, rfl, rfl, rfl, rfl, rfl, rfl, rfl, rfl⟩ := E
  refine bodyPost_ret (results_ctt rfl _ _ gb12 32 #[.int .i64 sr.id, .int .i64 sr.ph, .int .u64 sr.sl, .int .i64 sr.st, .int .i64 sr.op, .int .i64 sr.od, .int .i64 sr.orr, .int .i64 sr.co, .int .u16 sr.me, .int .i64 sr.tg, .int .i64 sr.tb, .slice An sr.ds.length cn, .bool sr.se, .int .i64 sr.ve] (0, 0) _ rfl B12.out Tryz.underlying32 rfl (by kernel_rfl)) rfl ?_
  exact ⟨_, _, rfl, RN.out, RA.out, HB.out⟩
 ·have c1a : decide (began < 0) = false := decide_eq_false c1
  by_cases c2 : now < began
  ·have c2a : decide (now < began) = true := decide_eq_true c2
   rw [if_pos (Or.inr c2)] at h
   obtain ⟨s2, hs2⟩ : ∃ s2 : Rs, s2 = { { (⟨n_id, n_ph, n_sl, n_st, n_op, n_od, n_orr, n_co, n_me, n_tg, n_tb, l, n_se, n_ve, m0, m1, m2, m3, m4, [], 0⟩ : Rs) with er := e_ } with er := 1 } := ⟨_, rfl⟩
   have h : nodeTold { { (⟨n_id, n_ph, n_sl, n_st, n_op, n_od, n_orr, n_co, n_me, n_tg, n_tb, l, n_se, n_ve, m0, m1, m2, m3, m4, [], 0⟩ : Rs) with er := e_ } with er := 1 } s2 = (r1, r2, r3, r4, r5, r6, r7, r8, r9, r10, r11, r12, r13, r14, r15, r16) := by rw [hs2]; exact Option.some.inj h
   have HN := asd (show ({ { (⟨n_id, n_ph, n_sl, n_st, n_op, n_od, n_orr, n_co, n_me, n_tg, n_tb, l, n_se, n_ve, m0, m1, m2, m3, m4, [], 0⟩ : Rs) with er := e_ } with er := 1 } : Rs).er ≠ 0 → s2 = { { (⟨n_id, n_ph, n_sl, n_st, n_op, n_od, n_orr, n_co, n_me, n_tg, n_tb, l, n_se, n_ve, m0, m1, m2, m3, m4, [], 0⟩ : Rs) with er := e_ } with er := 1 } from fun hn => hs2)
   have HE := asd h
   clear h hs2
   go_wp2_with (first | ((with_reducible refine gate_callee (f := 37) rfl ?_); refine gL (some 32) Tryz.func37 #[.pointer (some ⟨g, 0, none⟩), .func (.func 38) #[] #[.pointer (some ⟨gb10, 0, none⟩), .pointer (some ⟨gb11, 0, none⟩), .pointer (some ⟨gb15, 0, none⟩), .pointer (some ⟨gb8, 0, none⟩), .pointer (some ⟨gb9, 0, none⟩)]] ?_; have q_ := ((Wr.refl gb15 wx9).set 0 (.pointer (some ⟨g, 0, none⟩))); replace B6 := asd (q_.blk B6.out N15_6.out.symm); replace B7 := asd (q_.blk B7.out N15_7.out.symm); replace B8 := asd (q_.blk B8.out N15_8.out.symm); replace B9 := asd (q_.blk B9.out N15_9.out.symm); replace B10 := asd (q_.blk B10.out N15_10.out.symm); replace B11 := asd (q_.blk B11.out N15_11.out.symm); replace B12 := asd (q_.blk B12.out N15_12.out.symm); replace HB := asd (HB.out.trans (q_.be _ G15.out)); replace H := asd (q_.run B15.out (by decide) (by decide) (by decide) (Nat.le_trans W0.out.size G15.out) H.out); replace B15 := asd (show (World.heap _)[gb15]? = some (Obj.cells #[.pointer (some ⟨g, 0, none⟩)] 74 (0, 0)) from (blk_put (cs := #[.pointer none]) B15.out 0 (.pointer (some ⟨g, 0, none⟩)) rfl)); clear q_; have q_ := (Wr.refl g (wx9.setCell ⟨gb15, 0, none⟩ (.pointer (some ⟨g, 0, none⟩)))).set 20 (.int .i64 1); replace B6 := asd (q_.blk B6.out N6_g.out); replace B7 := asd (q_.blk B7.out N7_g.out); replace B8 := asd (q_.blk B8.out N8_g.out); replace B9 := asd (q_.blk B9.out N9_g.out); replace B10 := asd (q_.blk B10.out N10_g.out); replace B11 := asd (q_.blk B11.out N11_g.out); replace B12 := asd (q_.blk B12.out N12_g.out); replace B15 := asd (q_.blk B15.out N15_g.out); replace HB := asd (HB.out.trans (q_.be _ H.out.ge)); replace H := asd (H.out.s20 1); clear q_; refine (node_do.calls 38 Tryz.f38 #[.pointer (some ⟨gb10, 0, none⟩), .pointer (some ⟨gb11, 0, none⟩), .pointer (some ⟨gb15, 0, none⟩), .pointer (some ⟨gb8, 0, none⟩), .pointer (some ⟨gb9, 0, none⟩)] Tryz.func38 (by kernel_rfl) rfl g { { (⟨n_id, n_ph, n_sl, n_st, n_op, n_od, n_orr, n_co, n_me, n_tg, n_tb, l, n_se, n_ve, m0, m1, m2, m3, m4, [], 0⟩ : Rs) with er := e_ } with er := 1 } s2 dv (.slice none 0 0) w _ H.out HLN.out HN.out (fun c_ _ _ => absurd (show (1 : Int) = 0 from c_) (by decide))).mono ?_; rintro e wx10 hD; obtain ⟨sr, hsr, nv, av2, rfl, hnv, hav, hbl, hkr⟩ := hD.one; refine ⟨_, rfl, ?_⟩; have SR := hsr; have nB12 := asd (hkr.blk B12.out N12_g.out (Kd.R_ne H.out.d B12.out (by decide)) (by simp [Value.ownBlock])); clear H HB B6 B7 B8 B9 B10 B11 B12 B15; have B12 := nB12; have HB := asd hbl; have RN := asd hnv; have RA := asd hav; clear nB12 hD hsr hnv hav hbl hkr; obtain ⟨An, cn, ed⟩ := Kd.R_slice RN.out; subst ed; clear hb15 hb8 hb9 hc20 hf20; have hb12 := facts14 B12.out))
   have q_ := (((((((((((((((Wr.refl gb12 wx10).set 0 (.int .i64 sr.id)).set 1 (.int .i64 sr.ph)).set 2 (.int .u64 sr.sl)).set 3 (.int .i64 sr.st)).set 4 (.int .i64 sr.op)).set 5 (.int .i64 sr.od)).set 6 (.int .i64 sr.orr)).set 7 (.int .i64 sr.co)).set 8 (.int .u16 sr.me)).set 9 (.int .i64 sr.tg)).set 10 (.int .i64 sr.tb)).set 11 (.slice An sr.ds.length cn)).set 12 (.bool sr.se)).set 13 (.int .i64 sr.ve))
   replace HB := asd (HB.out.trans (q_.be _ G12.out))
   replace RN := asd (q_.row B12.out (by decide) RN.out)
   replace RA := asd (q_.row B12.out (by decide) RA.out)
   replace B12 := asd (blk14 (.int .i64 sr.id) (.int .i64 sr.ph) (.int .u64 sr.sl) (.int .i64 sr.st) (.int .i64 sr.op) (.int .i64 sr.od) (.int .i64 sr.orr) (.int .i64 sr.co) (.int .u16 sr.me) (.int .i64 sr.tg) (.int .i64 sr.tb) (.slice An sr.ds.length cn) (.bool sr.se) (.int .i64 sr.ve) B12.out)
   clear q_
   have E : nodeTold { { (⟨n_id, n_ph, n_sl, n_st, n_op, n_od, n_orr, n_co, n_me, n_tg, n_tb, l, n_se, n_ve, m0, m1, m2, m3, m4, [], 0⟩ : Rs) with er := e_ } with er := 1 } s2 = (r1, r2, r3, r4, r5, r6, r7, r8, r9, r10, r11, r12, r13, r14, r15, r16) := HE.out
   unfold nodeTold at E
   simp only [← SR.out, Prod.mk.injEq] at E
   obtain ⟨rfl, rfl, rfl, rfl, rfl, rfl, rfl, rfl, rfl, rfl, rfl, rfl, rfl, rfl, rfl, rfl⟩ := E
   refine bodyPost_ret (results_ctt rfl _ _ gb12 32 #[.int .i64 sr.id, .int .i64 sr.ph, .int .u64 sr.sl, .int .i64 sr.st, .int .i64 sr.op, .int .i64 sr.od, .int .i64 sr.orr, .int .i64 sr.co, .int .u16 sr.me, .int .i64 sr.tg, .int .i64 sr.tb, .slice An sr.ds.length cn, .bool sr.se, .int .i64 sr.ve] (0, 0) _ rfl B12.out Tryz.underlying32 rfl (by kernel_rfl)) rfl ?_
   exact ⟨_, _, rfl, RN.out, RA.out, HB.out⟩
  ·have c2a : decide (now < began) = false := decide_eq_false c2
   rw [if_neg (fun q => q.elim c1 c2)] at h
   obtain ⟨s2, A2, h⟩ := Option.bind_eq_some_iff.mp h
   have h := Option.some.inj h
   have HN := asd (show ({ (⟨n_id, n_ph, n_sl, n_st, n_op, n_od, n_orr, n_co, n_me, n_tg, n_tb, l, n_se, n_ve, m0, m1, m2, m3, m4, [], 0⟩ : Rs) with er := e_ } : Rs).er ≠ 0 → s2 = { (⟨n_id, n_ph, n_sl, n_st, n_op, n_od, n_orr, n_co, n_me, n_tg, n_tb, l, n_se, n_ve, m0, m1, m2, m3, m4, [], 0⟩ : Rs) with er := e_ } from fun hn => by rw [if_neg hn] at A2; exact (Option.some.inj A2).symm)
   have HF := asd (show ({ (⟨n_id, n_ph, n_sl, n_st, n_op, n_od, n_orr, n_co, n_me, n_tg, n_tb, l, n_se, n_ve, m0, m1, m2, m3, m4, [], 0⟩ : Rs) with er := e_ } : Rs).er = 0 → node_hears.f k { (⟨n_id, n_ph, n_sl, n_st, n_op, n_od, n_orr, n_co, n_me, n_tg, n_tb, l, n_se, n_ve, m0, m1, m2, m3, m4, [], 0⟩ : Rs) with er := e_ } now began lb bad = some s2 from fun hn => by rw [if_pos hn] at A2; exact A2)
   have HE := asd h
   clear h A2
   go_wp2_with (first | ((with_reducible refine gate_callee (f := 37) rfl ?_); refine gL (some 32) Tryz.func37 #[.pointer (some ⟨g, 0, none⟩), .func (.func 38) #[] #[.pointer (some ⟨gb10, 0, none⟩), .pointer (some ⟨gb11, 0, none⟩), .pointer (some ⟨gb15, 0, none⟩), .pointer (some ⟨gb8, 0, none⟩), .pointer (some ⟨gb9, 0, none⟩)]] ?_; have q_ := ((Wr.refl gb15 wx9).set 0 (.pointer (some ⟨g, 0, none⟩))); replace B6 := asd (q_.blk B6.out N15_6.out.symm); replace B7 := asd (q_.blk B7.out N15_7.out.symm); replace B8 := asd (q_.blk B8.out N15_8.out.symm); replace B9 := asd (q_.blk B9.out N15_9.out.symm); replace B10 := asd (q_.blk B10.out N15_10.out.symm); replace B11 := asd (q_.blk B11.out N15_11.out.symm); replace B12 := asd (q_.blk B12.out N15_12.out.symm); replace HB := asd (HB.out.trans (q_.be _ G15.out)); replace H := asd (q_.run B15.out (by decide) (by decide) (by decide) (Nat.le_trans W0.out.size G15.out) H.out); replace B15 := asd (show (World.heap _)[gb15]? = some (Obj.cells #[.pointer (some ⟨g, 0, none⟩)] 74 (0, 0)) from (blk_put (cs := #[.pointer none]) B15.out 0 (.pointer (some ⟨g, 0, none⟩)) rfl)); clear q_; refine (node_do.calls 38 Tryz.f38 #[.pointer (some ⟨gb10, 0, none⟩), .pointer (some ⟨gb11, 0, none⟩), .pointer (some ⟨gb15, 0, none⟩), .pointer (some ⟨gb8, 0, none⟩), .pointer (some ⟨gb9, 0, none⟩)] Tryz.func38 (by kernel_rfl) rfl g { (⟨n_id, n_ph, n_sl, n_st, n_op, n_od, n_orr, n_co, n_me, n_tg, n_tb, l, n_se, n_ve, m0, m1, m2, m3, m4, [], 0⟩ : Rs) with er := e_ } s2 dv (.slice none 0 0) w _ H.out HLN.out HN.out (fun c_ w1 hb1 => (node_hears.calls k gb10 gb11 gb15 gb8 gb9 g _ s2 dv (.slice none 0 0) now began Ab cb lb bad w w1 (H.out.below hb1) (blk_below B10.out hb1) (blk_below B11.out hb1) (blk_below B15.out hb1) (blk_below B8.out hb1) (blk_below B9.out hb1) (Kd.C_below HRb.out (below_step HB.out hb1)) HCb.out (HF.out c_)).mono (fun e w2 hq => ⟨hq.1, _, _, hq.2.1.choose_spec.choose_spec, hq.2.2⟩))).mono ?_; rintro e wx10 hD; obtain ⟨sr, hsr, nv, av2, rfl, hnv, hav, hbl, hkr⟩ := hD.one; refine ⟨_, rfl, ?_⟩; have SR := hsr; have nB12 := asd (hkr.blk B12.out N12_g.out (Kd.R_ne H.out.d B12.out (by decide)) (by simp [Value.ownBlock])); clear H HB B6 B7 B8 B9 B10 B11 B12 B15; have B12 := nB12; have HB := asd hbl; have RN := asd hnv; have RA := asd hav; clear nB12 hD hsr hnv hav hbl hkr; obtain ⟨An, cn, ed⟩ := Kd.R_slice RN.out; subst ed; clear hb15 hb8 hb9 hc20 hf20; have hb12 := facts14 B12.out))
   have q_ := (((((((((((((((Wr.refl gb12 wx10).set 0 (.int .i64 sr.id)).set 1 (.int .i64 sr.ph)).set 2 (.int .u64 sr.sl)).set 3 (.int .i64 sr.st)).set 4 (.int .i64 sr.op)).set 5 (.int .i64 sr.od)).set 6 (.int .i64 sr.orr)).set 7 (.int .i64 sr.co)).set 8 (.int .u16 sr.me)).set 9 (.int .i64 sr.tg)).set 10 (.int .i64 sr.tb)).set 11 (.slice An sr.ds.length cn)).set 12 (.bool sr.se)).set 13 (.int .i64 sr.ve))
   replace HB := asd (HB.out.trans (q_.be _ G12.out))
   replace RN := asd (q_.row B12.out (by decide) RN.out)
   replace RA := asd (q_.row B12.out (by decide) RA.out)
   replace B12 := asd (blk14 (.int .i64 sr.id) (.int .i64 sr.ph) (.int .u64 sr.sl) (.int .i64 sr.st) (.int .i64 sr.op) (.int .i64 sr.od) (.int .i64 sr.orr) (.int .i64 sr.co) (.int .u16 sr.me) (.int .i64 sr.tg) (.int .i64 sr.tb) (.slice An sr.ds.length cn) (.bool sr.se) (.int .i64 sr.ve) B12.out)
   clear q_
   have E : nodeTold { (⟨n_id, n_ph, n_sl, n_st, n_op, n_od, n_orr, n_co, n_me, n_tg, n_tb, l, n_se, n_ve, m0, m1, m2, m3, m4, [], 0⟩ : Rs) with er := e_ } s2 = (r1, r2, r3, r4, r5, r6, r7, r8, r9, r10, r11, r12, r13, r14, r15, r16) := HE.out
   unfold nodeTold at E
   simp only [← SR.out, Prod.mk.injEq] at E
   obtain ⟨rfl, rfl, rfl, rfl, rfl, rfl, rfl, rfl, rfl, rfl, rfl, rfl, rfl, rfl, rfl, rfl⟩ := E
   refine bodyPost_ret (results_ctt rfl _ _ gb12 32 #[.int .i64 sr.id, .int .i64 sr.ph, .int .u64 sr.sl, .int .i64 sr.st, .int .i64 sr.op, .int .i64 sr.od, .int .i64 sr.orr, .int .i64 sr.co, .int .u16 sr.me, .int .i64 sr.tg, .int .i64 sr.tb, .slice An sr.ds.length cn, .bool sr.se, .int .i64 sr.ve] (0, 0) _ rfl B12.out Tryz.underlying32 rfl (by kernel_rfl)) rfl ?_
   exact ⟨_, _, rfl, RN.out, RA.out, HB.out⟩



/-! ### slices_Grow_byte_byte: function 93 -/
theorem append_zeros_raw {P : Program} {ops : Array Oper} {rest : List Oper} {o : Oper} {a : Act} {Q : Exit → Act → World → Prop} {W w1 : World} {v v1 : Value} {kx : IntKind} {n : Int} (hgd : o.guard = none) (s x : Operand) (t ti : TypeId)
  (ho : o.op = .call { callee := .builtin .append, args := #[s, x], argTypes := #[t, ti] }) (hs : a.eval s = v) (hx : a.eval x = .int kx n) (hr1 : (Builtin.append_ #[t, ti] o.type #[v, .int kx n]).run P W = .ok v1 w1)
  (h : wpList P ops Q rest (a.put o.dst v1) w1) : wpList P ops Q (o :: rest) a W := by
 refine wpList_plain hgd fun K hK => ?_
 unfold Oper.wp execOp
 simp only [ho, resolve, invoke, builtin, Sem.run_bind, Sem.run_pure, Result.andThen_ok, List.map_toArray, List.map_cons, List.map_nil, hs, hx, hr1]
 exact hK _ _ h
theorem cut_cap {P : Program} (t e : TypeId) (kh : IntKind) {i : TypeInfo} (ht : P.underlying t = some (.slice e)) (hi : P.info? e = some i) (A : Option Addr) (n c : Nat) (j : Int) (h0 : 0 ≤ j) (hm : j ≤ c) :
  ∀ W : World, (Instr.slice t (.slice A n c) none (some (.int kh j)) none).run P W = .ok (.slice A j.toNat c) W := by
 intro W
 have hel : P.elem t = e := by simp [Program.elem, ht]
 have hu : P.underlying t = some (.slice (P.elem t)) := by rw [hel]; exact ht
 have ha : (A.map fun x => x.add 0) = A := by cases A <;> simp [Addr.add]
 rw [run_slice_h W t A n c hu kh j h0 (by omega), hel]
 simp [sizeOf, typeInfo, hi, sliced, Result.andThen, ha]
/-- Room for more. -/
def slices_Grow_byte_byte.f (l0 : List Int) (a1 : Int) : Option (List Int) := if 0 ≤ a1 then (if (l0.length : Int) + a1 < 17592186044416 then some l0 else none) else none
set_option maxHeartbeats 8000000 in
set_option maxRecDepth 100000 in
theorem slices_Grow_byte_byte.calls (P0_ : Nat → Prop) (u9000_ : Value) (l0 : List Int) (a1 : Int) (r : List Int) (w0 w : World) (hB : Below w0.heap.size w0 w) (ho0 : Kd.R (Kd.int .u8) 5 w w0.heap.size P0_ u9000_ l0) (h : slices_Grow_byte_byte.f l0 a1 = some r) :
  Calls Tryz.prog 93 #[u9000_, .int .i64 a1] w fun e w' => ∃ v0_ : Value, e = .returned (v0_) ∧ Kd.R (Kd.int .u8) 5 w' w0.heap.size (fun k_ => (P0_ k_ ∨ w.heap.size ≤ k_)) v0_ r ∧ Below w0.heap.size w0 w' ∧ Kept w w' (fun k_ => P0_ k_) := by
 unfold slices_Grow_byte_byte.f at h
 by_cases ha : 0 ≤ a1
 case neg =>
  rw [if_neg ha] at h
  exact absurd h (by simp)
 rw [if_pos ha] at h
 by_cases hl : (l0.length : Int) + a1 < 17592186044416
 case neg =>
  rw [if_neg hl] at h
  exact absurd h (by simp)
 rw [if_pos hl] at h
 obtain rfl := Option.some.inj h
 have hu := Tryz.underlying33
 have b0 : decide (a1 < 0) = false := decide_eq_false (by omega)
 have hR := ho0
 obtain ⟨hok, inner, hown, hr⟩ := ho0
 have hbase := below_size hB
 obtain ⟨i0, hi, hzz⟩ := Option.map_eq_some_iff.1 info5
 simp only [Prod.mk.injEq] at hzz
 obtain ⟨hz0, hz1, hz2⟩ := hzz
 have hti : Tryz.prog.underlying 3 = some (.int .i64) := by kernel_rfl
 have zc : ∀ m : Nat, ∀ u ∈ (Builtin.zeroCells (Value.int .u8 0).cells m).toList, u.oneCell' = true := fun m => by
  have hM : (Kd.int .u8).M w w0.heap.size (fun _ => False) (0 : Int) (Value.int .u8 0).cells.toList := rfl
  exact Kd.reps_one (Kd.reps_zeros (R := (Kd.int .u8).M w w0.heap.size (fun _ => False)) (z := Value.int .u8 0) (size := 1) (z0 := (0 : Int)) rfl (by decide) hM m) (by decide) (fun _ _ hp => (Kd.int .u8).K_one (w := w) ((Kd.int .u8).K_of_M hp))
 obtain ⟨hlen, hor⟩ := hown
 have main : ∀ (A : Option Addr) (cap : Nat) (full : List Value), u9000_ = .slice A l0.length cap → l0.length ≤ cap → cap ≤ maxLen → w.ownsRow w0.heap.size 5 1 (.slice A cap cap) cap full → full.take l0.length = inner → (∀ k, (Value.slice A cap cap).ownBlock = some k → P0_ k ∧ w0.heap.size ≤ k) →
   Calls Tryz.prog 93 #[u9000_, .int .i64 a1] w fun e w' => ∃ v0_ : Value, e = .returned (v0_) ∧ Kd.R (Kd.int .u8) 5 w' w0.heap.size (fun k_ => (P0_ k_ ∨ w.heap.size ≤ k_)) v0_ l0 ∧ Below w0.heap.size w0 w' ∧ Kept w w' (fun k_ => P0_ k_) := by
  intro A cap full eu hnc hcm hfull htake hblk
  subst eu
  have e1 : IntKind.i64.wrap ((cap : Int) - (l0.length : Int)) = (cap : Int) - (l0.length : Int) := by
   rw [IntKind.wrap_i64]
   simp only [maxLen] at hcm
   omega
  by_cases c : 0 < a1 - ((cap : Int) - (l0.length : Int))
  ·obtain ⟨m, hm⟩ : ∃ m : Nat, a1 - ((cap : Int) - (l0.length : Int)) = (m : Int) := ⟨(a1 - ((cap : Int) - (l0.length : Int))).toNat, by omega⟩
   have e2 : IntKind.i64.wrap (a1 - ((cap : Int) - (l0.length : Int))) = (m : Int) := by
    rw [IntKind.wrap_i64]
    simp only [maxLen] at hcm
    omega
   have b1 : decide (0 < (m : Int)) = true := decide_eq_true (by omega)
   obtain ⟨v1, w1, hrun, ⟨hl1, ⟨rfl, hn1⟩ | ⟨g1, cap1, cur1, rfl, hg1, hh1, hnc1, hcm1, hcs1, htk1⟩⟩, hgr, hat⟩ := run_append_zeros (P := Tryz.prog) w w0.heap.size 33 3 33 5 i0 (.int .u8 0) 1 1 hu hti hi hz0 hz1 hz2 rfl (by decide) (by decide) (.slice A cap cap) cap full hfull .i64 m (zc m) (by omega) hbase
   ·omega
   have sl0 : ∀ W : World, (Instr.slice 33 (.slice A l0.length cap) none (some (.int .i64 (cap : Int))) none).run Tryz.prog W = .ok (.slice A cap cap) W := by
    have q := cut_cap (P := Tryz.prog) 33 5 .i64 hu hi A l0.length cap (cap : Int) (by omega) (by omega)
    simpa only [Int.toNat_natCast] using q
   have sl1 : ∀ W : World, (Instr.slice 33 (.slice (some ⟨g1, 0, none⟩) (cap + m) cap1) none (some (.int .i64 (l0.length : Int))) none).run Tryz.prog W = .ok (.slice (some ⟨g1, 0, none⟩) l0.length cap1) W := by
    have q := cut_cap (P := Tryz.prog) 33 5 .i64 hu hi (some ⟨g1, 0, none⟩) (cap + m) cap1 (l0.length : Int) (by omega) (by omega)
    simpa only [Int.toNat_natCast] using q
   go_enter Tryz.func93, Tryz.ntmps93
   go_wp2_with ((with_reducible refine gate_builtin (b := .append) (xs := #[.tmp 20, .tmp 21]) rfl ?_); at_builtin; refine append_zeros_raw rfl (.tmp 20) (.tmp 21) 33 3 rfl rfl rfl hrun ?_)
   go_ret
   refine ⟨_, rfl, ⟨fun k hk => ?_, inner, ⟨hlen, .inr ⟨g1, cap1, cur1, rfl, hg1, hh1, by omega, hcm1, hcs1, ?_⟩⟩, hr⟩, hB.grown hgr hbase (fun k e_ => (hblk k e_).2), Kept.of_grown hgr (Kept.refl _ _) (fun k e_ => .inl (hblk k e_).1)⟩
   ·have h3 : g1 = k := by simpa [Value.ownBlock] using hk
    subst h3
    rcases hat with hat | hat
    ·exact .inl (hblk g1 (by rw [← hat]; rfl)).1
    ·have h4 : g1 = w.heap.size := by simpa [Value.ownBlock] using hat
     exact .inr (Nat.le_of_eq h4.symm)
   ·have h2 : (cur1.toList.take ((cap + m) * 1)).take l0.length = inner := by
     rw [htk1, List.take_append_of_le_length (by rw [hfull.1]; omega)]
     exact htake
    rw [List.take_take] at h2
    rw [← h2]
    congr 1
    show l0.length * 1 = _
    omega
  ·have e2 : IntKind.i64.wrap (a1 - ((cap : Int) - (l0.length : Int))) = a1 - ((cap : Int) - (l0.length : Int)) := by
    rw [IntKind.wrap_i64]
    simp only [maxLen] at hcm
    omega
   have b1 : decide (0 < a1 - ((cap : Int) - (l0.length : Int))) = false := decide_eq_false c
   go_enter Tryz.func93, Tryz.ntmps93
   go_wp2
   go_ret
   exact ⟨_, rfl, Kd.R_mono hR (fun k_ hk => (.inl hk)), hB, Kept.refl _ _⟩
 rcases hor with ⟨rfl, hn⟩ | ⟨g, cap, cur, rfl, hg, hheap, hnc, hcm, hcs, htk⟩
 ·exact main none 0 [] (by rw [hn]) (by omega) (by decide) ⟨rfl, .inl ⟨rfl, rfl⟩⟩ (by
   have : inner = [] := List.eq_nil_of_length_eq_zero (by rw [hlen, hn]; rfl)
   rw [this]; exact List.take_nil) (fun k hk => by simp [Value.ownBlock] at hk)
 ·refine main (some ⟨g, 0, none⟩) cap cur.toList rfl hnc hcm ⟨by rw [Array.length_toList, hcs]; rfl, .inr ⟨g, cap, cur, rfl, hg, hheap, Nat.le_refl _, hcm, hcs, ?_⟩⟩ ?_ (fun k hk => ?_)
  ·exact List.take_of_length_le (by rw [Array.length_toList, hcs]; exact Nat.le_refl _)
  ·have : l0.length * 1 = l0.length := Nat.mul_one _
   rw [← this]
   exact htk
  ·have : g = k := by simpa [Value.ownBlock] using hk
   subst this
   exact ⟨hok g rfl, hg⟩

/-! ### wire_Fixed: function 49 -/
mutual
def wire_Fixed.j0 : Nat → List Int → Int → Int → Bool → Option (List Int × Int)
 | 0, _, _, _, _ => none
 | k + 1, x0, x1, x2, x19 => if x19 = true then (some (([] : List Int), 1)) else ((slices_Clone_byte_byte.f x0).bind fun t624 => ((slices_Grow_byte_byte.f t624 x1).bind fun t627 => (wire_Fixed.l0 k x2 t627 (wrap64 (8 * x1)))))
def wire_Fixed.l0 : Nat → Int → List Int → Int → Option (List Int × Int)
 | 0, _, _, _ => none
 | k + 1, x2, x8, x9 => if x9 > 0 then (if 0 ≤ (wrap64 (x9 - 8)) then (if x8.length < 140737488355328 then (wire_Fixed.l0 k x2 (x8 ++ [(shr .u64 x2 (wrap64 (x9 - 8))) % 256]) (wrap64 (x9 - 8))) else (none)) else (none)) else (some (x8, 0))
end
def wire_Fixed.f (k : Nat) (l0 : List Int) (a1 : Int) (a2 : Int) : Option (List Int × Int) := (wire_wide.f a1).bind fun t622 => (if t622 = true then ((bits_Len64.f k a2).bind fun t623 => (wire_Fixed.j0 k l0 a1 a2 (decide (t623 > (wrap64 (8 * a1)))))) else (wire_Fixed.j0 k l0 a1 a2 true))
set_option maxHeartbeats 8000000 in
set_option maxRecDepth 100000 in
theorem wire_Fixed.calls (k : Nat) (A0 : Option Addr) (c0 : Nat) (l0 : List Int) (a1 : Int) (a2 : Int) (r1 : List Int) (r2 : Int) (w : World) (hr0 : Kd.C (Kd.int .u8) w A0 l0.length l0) (hc0 : l0.length ≤ c0) (h : wire_Fixed.f k l0 a1 a2 = some (r1, r2)) :
  Calls Tryz.prog 49 #[.slice A0 l0.length c0, .int .i64 a1, .int .u64 a2] w fun e w' => ∃ v0_ : Value, e = .returned (.tuple #[v0_, .int .i64 r2]) ∧ Kd.R (Kd.int .u8) 5 w' w.heap.size (fun _ => True) v0_ r1 ∧ Below w.heap.size w w' := by
 have HR0 := asd hr0
 have HC0 := asd hc0
 clear hr0 hc0
 have HB := asd (Below.refl w.heap.size w)
 have H : ((wire_wide.f a1).bind fun t622 => (if t622 = true then ((bits_Len64.f k a2).bind fun t623 => (wire_Fixed.j0 k l0 a1 a2 (decide (t623 > (wrap64 (8 * a1)))))) else (wire_Fixed.j0 k l0 a1 a2 true))) = some (r1, r2) := h
 clear h
 have HC4 := asd H
 clear H
 go_enter Tryz.func49, Tryz.ntmps49
 go_upto_region 1 with (fail)
 go_cut [19] (fun v19 wc => ∃ (kq : Nat) (x19_3 : Bool), v19 = .bool x19_3 ∧ Aside0 (wire_Fixed.j0 kq l0 a1 a2 x19_3 = some (r1, r2)) ∧ Aside0 (kq ≤ k) ∧ Aside0 (Below w.heap.size w wc))
 case first =>
  have H := HC4.out
  clear HC4
  replace H := Option.bind_eq_some_iff.mp H
  obtain ⟨t622, A50, H⟩ := H
  replace H : (if t622 = true then ((bits_Len64.f k a2).bind fun t623 => (wire_Fixed.j0 k l0 a1 a2 (decide (t623 > (wrap64 (8 * a1)))))) else (wire_Fixed.j0 k l0 a1 a2 true)) = some (r1, r2) := H
  have A5 := asd A50
  clear A50
  by_cases c6 : t622 = true
  ·subst c6
   have H1 : ((bits_Len64.f k a2).bind fun t623 => (wire_Fixed.j0 k l0 a1 a2 (decide (t623 > (wrap64 (8 * a1)))))) = some (r1, r2) := by rw [if_pos rfl] at H; exact H
   clear H
   have H := H1
   clear H1
   replace H := Option.bind_eq_some_iff.mp H
   obtain ⟨t623, A70, H⟩ := H
   replace H : (wire_Fixed.j0 k l0 a1 a2 (decide (t623 > (wrap64 (8 * a1))))) = some (r1, r2) := H
   have A7 := asd A70
   clear A70
   have H' := asd H
   clear H
   go_wp2_with (first | ((with_reducible refine gate_callee (f := 91) rfl ?_); refine gL (some 11) Tryz.func91 #[.int .i64 a1] ?_; (with_reducible refine (wire_wide.calls a1 true _ A5.out).mono ?_); rintro e w' ⟨rfl, ⟨nd, rfl⟩⟩; refine ⟨_, rfl, ?_⟩) | (go_at_call 92; (with_reducible refine (bits_Len64.calls k a2 t623 _ A7.out).mono ?_); rintro e w' ⟨rfl, ⟨nd, rfl⟩⟩))
   go_meet
   case rel => exact ⟨_, (decide (t623 > (wrap64 (8 * a1)))), (by first | rfl | (simp; done) | (simp [*]; done)), H', ⟨by first | omega | exact Nat.le_refl _⟩, ⟨bse HB⟩⟩
  ·replace c6 := Bool.eq_false_iff.mpr c6
   subst c6
   have H1 : (wire_Fixed.j0 k l0 a1 a2 true) = some (r1, r2) := by rw [if_neg (show ¬ (false = true) by decide)] at H; exact H
   clear H
   have H := H1
   clear H1
   have H' := asd H
   clear H
   go_wp2_with (first | ((with_reducible refine gate_callee (f := 91) rfl ?_); refine gL (some 11) Tryz.func91 #[.int .i64 a1] ?_; (with_reducible refine (wire_wide.calls a1 false _ A5.out).mono ?_); rintro e w' ⟨rfl, ⟨nd, rfl⟩⟩; refine ⟨_, rfl, ?_⟩))
   go_meet
   case rel => exact ⟨_, (true), (by first | rfl | (simp; done) | (simp [*]; done)), H', ⟨by first | omega | exact Nat.le_refl _⟩, ⟨bse HB⟩⟩
 case rest =>
  clear HC4
  try clear p2
  try clear c4
  try clear c6
  try clear p6
  obtain ⟨kq, x19_3, rfl, HA, HJ3, HB⟩ := hcut
  cases kq with
  | zero => exact absurd HA.out (by simp [wire_Fixed.j0])
  | succ kj3 =>
   have H := HA.out
   clear HA
   simp only [wire_Fixed.j0] at H
   by_cases c8 : x19_3 = true
   ·subst c8
    have H1 : (some (([] : List Int), 1)) = some (r1, r2) := by rw [if_pos rfl] at H; exact H
    clear H
    have H := H1
    clear H1
    simp only [Option.some.injEq, Prod.mk.injEq] at H
    obtain ⟨rfl, rfl⟩ := H
    go_wp2
    go_ret2
    exact ⟨_, by first | rfl | (simp [errW_none, errW_some] <;> rfl) | (simp [*, errW_none, errW_some] <;> rfl), by first | exact Kd.R_nil _ _ _ _ _ | exact Kd.N_nil _ _ _ _ _ | exact Kd.V_nil _ _ _ _ _ | exact Kd.Q_nil _ _ _ _ _ | exact Kd.S_nil _ _ _ _ _, bse HB⟩
   ·replace c8 := Bool.eq_false_iff.mpr c8
    subst c8
    have H1 : ((slices_Clone_byte_byte.f l0).bind fun t624 => ((slices_Grow_byte_byte.f t624 a1).bind fun t627 => (wire_Fixed.l0 kj3 a2 t627 (wrap64 (8 * a1))))) = some (r1, r2) := by rw [if_neg (show ¬ (false = true) by decide)] at H; exact H
    clear H
    have H := H1
    clear H1
    replace H := Option.bind_eq_some_iff.mp H
    obtain ⟨t624, A90, H⟩ := H
    replace H : ((slices_Grow_byte_byte.f t624 a1).bind fun t627 => (wire_Fixed.l0 kj3 a2 t627 (wrap64 (8 * a1)))) = some (r1, r2) := H
    have A9 := asd A90
    clear A90
    replace H := Option.bind_eq_some_iff.mp H
    obtain ⟨t627, A100, H⟩ := H
    replace H : (wire_Fixed.l0 kj3 a2 t627 (wrap64 (8 * a1))) = some (r1, r2) := H
    have A10 := asd A100
    clear A100
    have H' := asd H
    clear H
    go_wp2_with (first | ((with_reducible refine gate_callee (f := 94) rfl ?_); refine gL (some 21) Tryz.func94 #[.slice A0 l0.length c0] ?_; (with_reducible refine (slices_Clone_byte_byte.calls _ _ l0 t624 _ ?side1 ?side2 A9.out).mono ?_); (case side1 => exact cb HR0 HB); (case side2 => exact HC0.out); rintro e w11 ⟨v625, rfl, ho0, hb⟩; refine ⟨_, rfl, ?_⟩; have HO626 := rl ho0 HB; replace HB := bs HB hb; (try clear hb); (try clear ho0); obtain ⟨Ao12, co12, eo12⟩ := Kd.R_slice HO626.out; subst eo12) | ((with_reducible refine gate_callee (f := 93) rfl ?_); refine gL (some 23) Tryz.func93 #[.slice Ao12 t624.length co12, .int .i64 a1] ?_; (with_reducible refine (slices_Grow_byte_byte.calls (fun k_ => some k_ = (.slice Ao12 t624.length co12 : Value).ownBlock) (.slice Ao12 t624.length co12) t624 a1 t627 w _ ?side1 ?side2 A10.out).mono ?_); (case side1 => repeat (first | (with_reducible first | exact HB.out | apply below_alloc | apply pw_below_drewN | apply below_drew1) | exact HB.out)); (case side2 => exact Kd.R_tight rfl HO626.out); rintro e w13 ⟨v628, rfl, ho0, hb, hkp⟩; refine ⟨_, rfl, ?_⟩; have n0_ := asd (Kd.R_mono (ok' := fun k_ => True) ho0 (fun k_ hk_ => trivial)); have n1_ := asd (hb); clear HB HO626; have HO629 := n0_; have HB := n1_; clear n0_ n1_; (try clear hb); (try clear hkp); (try clear ho0)))
    go_loopg [8, 9] kj3 (fun kq v8 v9 w' => ∃ (x8_2 : List Int) (x9_2 : Int), v9 = .int .i64 x9_2 ∧ Aside0 (wire_Fixed.l0 kq a2 x8_2 x9_2 = some (r1, r2)) ∧ Aside0 (kq ≤ kj3) ∧ Aside0 (Kd.R (Kd.int .u8) 5 w' w.heap.size (fun _ => True) v8 x8_2) ∧ Aside0 (Below w.heap.size w w'))
    case atStart => exact ⟨(t627), (wrap64 (8 * a1)), (by first | rfl | (simp; done) | (simp [*]; done)), H', ⟨Nat.le_refl _⟩, re HO629, ⟨bse HB⟩⟩
    case round =>
     clear H'
     try clear p2
     try clear c4
     try clear c6
     try clear p6
     try clear c8
     try clear c9
     try clear p2
     try clear p6
     obtain ⟨x8_2, x9_2, rfl, HA, HK2, HO_8, HB⟩ := hrel
     cases gk with
     | zero => exact absurd HA.out (by simp [wire_Fixed.l0])
     | succ k2 =>
      have H := HA.out
      clear HA
      simp only [wire_Fixed.l0] at H
      by_cases c14 : x9_2 > 0
      ·rw [if_pos c14] at H
       have c14b0 : decide (0 < x9_2) = true := decide_eq_true c14
       clear c14
       obtain ⟨ji15, hji15⟩ : ∃ j_ : Int, (wrap64 (x9_2 - 8)) = j_ := ⟨_, rfl⟩
       replace H : (if 0 ≤ (ji15) then (if x8_2.length < 140737488355328 then (wire_Fixed.l0 k2 a2 (x8_2 ++ [(shr .u64 a2 (ji15)) % 256]) ji15) else (none)) else (none)) = some (r1, r2) := by first | (rw [hji15] at H; exact H) | (simp only [hji15] at H ⊢; exact H)
       have hji15w : (IntKind.i64.wrap (x9_2 - 8)) = ji15 := (i64_w _).trans hji15
       by_cases c16 : 0 ≤ (ji15)
       ·rw [if_pos c16] at H
        have c16b0 := eq_true c16
        have c16b1 : decide (0 ≤ (ji15)) = true := decide_eq_true c16
        clear c16
        obtain ⟨ji17, hji17⟩ : ∃ j_ : Int, (shr .u64 a2 (ji15)) = j_ := ⟨_, rfl⟩
        replace H : (if x8_2.length < 140737488355328 then (wire_Fixed.l0 k2 a2 (x8_2 ++ [(ji17) % 256]) ji15) else (none)) = some (r1, r2) := by first | (rw [hji17] at H; exact H) | (simp only [hji17] at H ⊢; exact H)
        have hji17_ : (a2 / 2 ^ min (ji15).toNat 64) = ji17 := hji17
        have hji17z : (ji15) ≤ 64 → (a2 / 2 ^ (ji15).toNat) = ji17 := shr_small hji17
        by_cases c18 : x8_2.length < 140737488355328
        ·rw [if_pos c18] at H
         have LMc18 := asd c18
         clear c18
         obtain ⟨y630, hy630⟩ : ∃ y_ : List Int, y_ = (x8_2 ++ [(ji17) % 256]) := ⟨_, rfl⟩
         replace H : (wire_Fixed.l0 k2 a2 y630 ji15) = some (r1, r2) := by first | (rw [hy630]; with_reducible exact H) | (have H2_ := (Option.bind_some _ _).symm.trans H; rw [hy630]; with_reducible exact H2_) | (have H2_ := (Option.bind_some _ _).symm.trans H; with_reducible exact H2_) | with_reducible exact H | (rw [hy630]; exact H) | exact H
         have Ny630 := asd hy630
         clear hy630
         have H' := asd H
         clear H
         go_wp2_with (first | ((with_reducible refine gate_builtin (b := .append) (xs := #[.tmp 30, .tmp 36]) rfl ?_); at_builtin; refine Kd.R_append (Kd.int .u8) (w0 := w) w.heap.size rfl (.tmp 30) (.tmp 36) 33 5 (.int .u8 0) 1 rfl Tryz.underlying33 info5 rfl (by decide) (by omega) u8 x8_2 ((ji17) % 256) [.int .u8 ((ji17) % 256)] (fun _ => True) (fun _ => False) rfl rfl ?aP (fun _ hk => hk.elim) ?aF ?aO ?aB ?aS ?aL ?_; (case aP => exact rfl); (case aB => exact (bse HB)); (case aF => exact (fun _ _ => trivial)); (case aO => exact (re HO_8).out); (case aS => exact (below_size (bse HB))); (case aL => have := LMc18.out; omega); intro v631 w19 ho hb hg hat; rw [← Ny630.out] at ho; have n0_ := asd (hb); have n1_ := asd (ho); clear HB HO_8; have HB := n0_; have HO632 := n1_; clear n0_ n1_ ho hb hg hat))
         go_roundg k2
         case measure => have := HJ3.out; have := HK2.out; omega
         case rel => exact ⟨(y630), (ji15), (by first | rfl | (simp; done) | (simp only [← hji15] <;> (first | rfl | simp)) | (simp [*]; done)), H', ⟨by have := HJ3.out; have := HK2.out; omega⟩, re HO632, ⟨bse HB⟩⟩
        ·rw [if_neg c18] at H
         exact absurd H (by simp)
       ·rw [if_neg c16] at H
        exact absurd H (by simp)
      ·rw [if_neg c14] at H
       have c14b0 : decide (0 < x9_2) = false := decide_eq_false c14
       clear c14
       simp only [Option.some.injEq, Prod.mk.injEq] at H
       obtain ⟨rfl, rfl⟩ := H
       go_wp2
       go_ret2
       exact ⟨_, by first | rfl | (simp [errW_none, errW_some] <;> rfl) | (simp [*, errW_none, errW_some] <;> rfl), by (with_reducible repeat (first | apply Kd.R_alloc | apply Kd.R_drewN | apply Kd.R_drew)); exact HO_8.out, bse HB⟩


/-! ### wire_put: function 95 -/
def wire_put.l0 : Nat → List Int → Int → Int → Option (List Int)
 | 0, _, _, _ => none
 | k + 1, x0, x1, x5 => if x5 > 0 then (if 0 ≤ (wrap64 (7 * x5)) then (if x0.length < 140737488355328 then (wire_put.l0 k (x0 ++ [Go.bits .or .u8 128 ((shr .u64 x1 (wrap64 (7 * x5))) % 256)]) x1 (wrap64 (x5 - 1))) else (none)) else (none)) else (if x0.length < 140737488355328 then (some (x0 ++ [Go.bits .and .u8 ((x1) % 256) 127])) else (none))
def wire_put.f (k : Nat) (l0 : List Int) (a1 : Int) : Option (List Int) := (bits_Len64.f k a1).bind fun t633 => (wire_put.l0 k l0 a1 (wrap64 ((mx 1 (wrap64 (Int.tdiv (wrap64 (t633 + 6)) 7))) - 1)))
set_option maxHeartbeats 8000000 in
set_option maxRecDepth 100000 in
theorem wire_put.calls (k : Nat) (P0_ : Nat → Prop) (u9000_ : Value) (l0 : List Int) (a1 : Int) (r : List Int) (w0 w : World) (hB : Below w0.heap.size w0 w) (ho0 : Kd.R (Kd.int .u8) 5 w w0.heap.size P0_ u9000_ l0) (h : wire_put.f k l0 a1 = some r) :
  Calls Tryz.prog 95 #[u9000_, .int .u64 a1] w fun e w' => ∃ v0_ : Value, e = .returned (v0_) ∧ Kd.R (Kd.int .u8) 5 w' w0.heap.size (fun k_ => (P0_ k_ ∨ w.heap.size ≤ k_)) v0_ r ∧ Below w0.heap.size w0 w' ∧ Kept w w' (fun k_ => P0_ k_) := by
 have HO0 := asd (show Kd.R (Kd.int .u8) 5 w w0.heap.size (fun k_ => (P0_ k_ ∨ w.heap.size ≤ k_)) u9000_ l0 from Kd.R_mono ho0 (fun k_ hk => (.inl hk)))
 have HK := asd (Kept.refl w (fun k_ => P0_ k_))
 have HW0 := asd hB.size
 have HB := asd hB
 clear hB
 have H : ((bits_Len64.f k a1).bind fun t633 => (wire_put.l0 k l0 a1 (wrap64 ((mx 1 (wrap64 (Int.tdiv (wrap64 (t633 + 6)) 7))) - 1)))) = some r := h
 clear h
 replace H := Option.bind_eq_some_iff.mp H
 obtain ⟨t633, A30, H⟩ := H
 replace H : (wire_put.l0 k l0 a1 (wrap64 ((mx 1 (wrap64 (Int.tdiv (wrap64 (t633 + 6)) 7))) - 1))) = some r := H
 have A3 := asd A30
 clear A30
 obtain ⟨ji4, hji4⟩ : ∃ j_ : Int, (mx 1 (wrap64 (Int.tdiv (wrap64 (t633 + 6)) 7))) = j_ := ⟨_, rfl⟩
 replace H : (wire_put.l0 k l0 a1 (wrap64 ((ji4) - 1))) = some r := by first | (rw [hji4] at H; exact H) | (simp only [hji4] at H ⊢; exact H)
 (try rw [hji4] at A3)
 (try (have hji4l : 1 ≤ ji4 := by (rw [← hji4]; unfold mx; (repeat' split) <;> omega)))
 (try (have hji4m : 0 ≤ ji4 := by omega))
 have hji4_ : (if 1 < (wrap64 (Int.tdiv (wrap64 (t633 + 6)) 7)) then (wrap64 (Int.tdiv (wrap64 (t633 + 6)) 7)) else 1) = ji4 := hji4
 have H' := asd H
 clear H
 go_enter Tryz.func95, Tryz.ntmps95
 go_wp2_with (first | ((with_reducible refine gate_callee (f := 92) rfl ?_); refine gL (some 7) Tryz.func92 #[.int .u64 a1] ?_; (with_reducible refine (bits_Len64.calls k a1 t633 _ A3.out).mono ?_); rintro e w' ⟨rfl, ⟨nd, rfl⟩⟩; refine ⟨_, rfl, ?_⟩))
 go_loopg [0, 5] k (fun kq v0 v5 w' => ∃ (x0_1 : List Int) (x5_1 : Int), v5 = .int .i64 x5_1 ∧ Aside0 (wire_put.l0 kq x0_1 a1 x5_1 = some r) ∧ Aside0 (kq ≤ k) ∧ Aside0 (Kd.R (Kd.int .u8) 5 w' w0.heap.size (fun k_ => (P0_ k_ ∨ w.heap.size ≤ k_)) v0 x0_1) ∧ Aside0 (Kept w w' (fun k_ => P0_ k_)) ∧ Aside0 (Below w0.heap.size w0 w'))
 case atStart => exact ⟨(l0), (wrap64 ((ji4) - 1)), (by first | rfl | (simp; done) | (simp only [← hji4] <;> (first | rfl | simp)) | (simp [*]; done)), H', ⟨Nat.le_refl _⟩, re HO0, ⟨by repeat (first | (with_reducible first | exact HK.out | apply Kept.alloc | apply Kept.drewN | apply Kept.drew) | exact HK.out)⟩, ⟨bse HB⟩⟩
 case round =>
  clear H'
  try clear p2
  obtain ⟨x0_1, x5_1, rfl, HA, HK1, HO_0, HK, HB⟩ := hrel
  cases gk with
  | zero => exact absurd HA.out (by simp [wire_put.l0])
  | succ k1 =>
   have H := HA.out
   clear HA
   simp only [wire_put.l0] at H
   by_cases c5 : x5_1 > 0
   ·rw [if_pos c5] at H
    have c5b0 : decide (0 < x5_1) = true := decide_eq_true c5
    clear c5
    obtain ⟨ji6, hji6⟩ : ∃ j_ : Int, (wrap64 (7 * x5_1)) = j_ := ⟨_, rfl⟩
    replace H : (if 0 ≤ (ji6) then (if x0_1.length < 140737488355328 then (wire_put.l0 k1 (x0_1 ++ [Go.bits .or .u8 128 ((shr .u64 a1 (ji6)) % 256)]) a1 (wrap64 (x5_1 - 1))) else (none)) else (none)) = some r := by first | (rw [hji6] at H; exact H) | (simp only [hji6] at H ⊢; exact H)
    have hji6w : (IntKind.i64.wrap (7 * x5_1)) = ji6 := (i64_w _).trans hji6
    by_cases c7 : 0 ≤ (ji6)
    ·rw [if_pos c7] at H
     have c7b0 := eq_true c7
     have c7b1 : decide (0 ≤ (ji6)) = true := decide_eq_true c7
     clear c7
     obtain ⟨ji8, hji8⟩ : ∃ j_ : Int, (shr .u64 a1 (ji6)) = j_ := ⟨_, rfl⟩
     replace H : (if x0_1.length < 140737488355328 then (wire_put.l0 k1 (x0_1 ++ [Go.bits .or .u8 128 ((ji8) % 256)]) a1 (wrap64 (x5_1 - 1))) else (none)) = some r := by first | (rw [hji8] at H; exact H) | (simp only [hji8] at H ⊢; exact H)
     have hji8_ : (a1 / 2 ^ min (ji6).toNat 64) = ji8 := hji8
     have hji8z : (ji6) ≤ 64 → (a1 / 2 ^ (ji6).toNat) = ji8 := shr_small hji8
     by_cases c9 : x0_1.length < 140737488355328
     ·rw [if_pos c9] at H
      have LMc9 := asd c9
      clear c9
      obtain ⟨y634, hy634⟩ : ∃ y_ : List Int, y_ = (x0_1 ++ [Go.bits .or .u8 128 ((ji8) % 256)]) := ⟨_, rfl⟩
      replace H : (wire_put.l0 k1 y634 a1 (wrap64 (x5_1 - 1))) = some r := by first | (rw [hy634]; with_reducible exact H) | (have H2_ := (Option.bind_some _ _).symm.trans H; rw [hy634]; with_reducible exact H2_) | (have H2_ := (Option.bind_some _ _).symm.trans H; with_reducible exact H2_) | with_reducible exact H | (rw [hy634]; exact H) | exact H
      have Ny634 := asd hy634
      clear hy634
      have H' := asd H
      clear H
      go_wp2_with (first | ((with_reducible refine gate_builtin (b := .append) (xs := #[.tmp 17, .tmp 24]) rfl ?_); at_builtin; refine Kd.R_append (Kd.int .u8) (w0 := w0) w0.heap.size rfl (.tmp 17) (.tmp 24) 33 5 (.int .u8 0) 1 rfl Tryz.underlying33 info5 rfl (by decide) (by omega) u0 x0_1 (Go.bits .or .u8 128 ((ji8) % 256)) [.int .u8 (Go.bits .or .u8 128 ((ji8) % 256))] (fun k_ => (P0_ k_ ∨ w.heap.size ≤ k_)) (fun _ => False) rfl rfl ?aP (fun _ hk => hk.elim) ?aF ?aO ?aB ?aS ?aL ?_; (case aP => exact rfl); (case aB => exact (bse HB)); (case aF => exact (fun k_ hk => (.inr (Nat.le_trans (by first | exact HK.out.1 | exact (show Kept w _ (fun k_ => P0_ k_) from by repeat (first | (with_reducible first | exact HK.out | apply Kept.alloc | apply Kept.drewN | apply Kept.drew) | exact HK.out)).1) hk)))); (case aO => exact (re HO_0).out); (case aS => exact (below_size (bse HB))); (case aL => have := LMc9.out; omega); intro v635 w10 ho hb hg hat; rw [← Ny634.out] at ho; have n0_ := asd (hb); have n1_ := asd (Kept.of_grown (S := (fun k_ => P0_ k_)) hg (by repeat (first | (with_reducible first | exact HK.out | apply Kept.alloc | apply Kept.drewN | apply Kept.drew) | exact HK.out)) (fun k_ e_ => (HO_0.out.1 k_ e_))); have n2_ := asd (ho); clear HB HK HO_0; have HB := n0_; have HK := n1_; have HO636 := n2_; clear n0_ n1_ n2_ ho hb hg hat))
      go_roundg k1
      case measure => have := HK1.out; omega
      case rel => exact ⟨(y634), (wrap64 (x5_1 - 1)), (by first | rfl | (simp; done) | (simp [*]; done)), H', ⟨by have := HK1.out; omega⟩, re HO636, ⟨by repeat (first | (with_reducible first | exact HK.out | apply Kept.alloc | apply Kept.drewN | apply Kept.drew) | exact HK.out)⟩, ⟨bse HB⟩⟩
     ·rw [if_neg c9] at H
      exact absurd H (by simp)
    ·rw [if_neg c7] at H
     exact absurd H (by simp)
   ·rw [if_neg c5] at H
    have c5b0 : decide (0 < x5_1) = false := decide_eq_false c5
    clear c5
    by_cases c11 : x0_1.length < 140737488355328
    ·rw [if_pos c11] at H
     have LMc11 := asd c11
     clear c11
     obtain ⟨y637, hy637⟩ : ∃ y_ : List Int, y_ = (x0_1 ++ [Go.bits .and .u8 ((a1) % 256) 127]) := ⟨_, rfl⟩
     replace H : (some y637) = some r := by first | (rw [hy637]; with_reducible exact H) | (have H2_ := (Option.bind_some _ _).symm.trans H; rw [hy637]; with_reducible exact H2_) | (have H2_ := (Option.bind_some _ _).symm.trans H; with_reducible exact H2_) | with_reducible exact H | (rw [hy637]; exact H) | exact H
     have Ny637 := asd hy637
     clear hy637
     obtain rfl := Option.some.inj H
     go_wp2_with (first | ((with_reducible refine gate_builtin (b := .append) (xs := #[.tmp 26, .tmp 30]) rfl ?_); at_builtin; refine Kd.R_append (Kd.int .u8) (w0 := w0) w0.heap.size rfl (.tmp 26) (.tmp 30) 33 5 (.int .u8 0) 1 rfl Tryz.underlying33 info5 rfl (by decide) (by omega) u0 x0_1 (Go.bits .and .u8 ((a1) % 256) 127) [.int .u8 (Go.bits .and .u8 ((a1) % 256) 127)] (fun k_ => (P0_ k_ ∨ w.heap.size ≤ k_)) (fun _ => False) rfl rfl ?aP (fun _ hk => hk.elim) ?aF ?aO ?aB ?aS ?aL ?_; (case aP => exact rfl); (case aB => exact (bse HB)); (case aF => exact (fun k_ hk => (.inr (Nat.le_trans (by first | exact HK.out.1 | exact (show Kept w _ (fun k_ => P0_ k_) from by repeat (first | (with_reducible first | exact HK.out | apply Kept.alloc | apply Kept.drewN | apply Kept.drew) | exact HK.out)).1) hk)))); (case aO => exact (re HO_0).out); (case aS => exact (below_size (bse HB))); (case aL => have := LMc11.out; omega); intro v638 w12 ho hb hg hat; rw [← Ny637.out] at ho; have n0_ := asd (hb); have n1_ := asd (Kept.of_grown (S := (fun k_ => P0_ k_)) hg (by repeat (first | (with_reducible first | exact HK.out | apply Kept.alloc | apply Kept.drewN | apply Kept.drew) | exact HK.out)) (fun k_ e_ => (HO_0.out.1 k_ e_))); have n2_ := asd (ho); clear HB HK HO_0; have HB := n0_; have HK := n1_; have HO639 := n2_; clear n0_ n1_ n2_ ho hb hg hat))
     go_ret
     exact ⟨_, by first | rfl | (simp [errW_none, errW_some] <;> rfl) | (simp only [← hji4]; first | rfl | (simp [errW_none, errW_some] <;> rfl)) | (simp [*, errW_none, errW_some] <;> rfl), by (with_reducible repeat (first | apply Kd.R_alloc | apply Kd.R_drewN | apply Kd.R_drew)); exact HO639.out, by repeat (first | (with_reducible first | exact HB.out | apply below_alloc | apply pw_below_drewN | apply below_drew1) | exact HB.out), by repeat (first | (with_reducible first | exact HK.out | apply Kept.alloc | apply Kept.drewN | apply Kept.drew) | exact HK.out)⟩
    ·rw [if_neg c11] at H
     exact absurd H (by simp)

/-! ### wire_Vary: function 50 -/
def wire_Vary.l0 : Nat → List Int → List Int → Int → Int → Option (List Int)
 | 0, _, _, _, _ => none
 | k + 1, x5, x10, x11, x12 => if x12 < x11 then (if 0 ≤ x12 then (if x12 < (x10.length : Int) then ((wire_put.f k x5 (rd x10 x12)).bind fun t644 => (wire_Vary.l0 k t644 x10 x11 (wrap64 (x12 + 1)))) else (none)) else (none)) else (some x5)
def wire_Vary.f (k : Nat) (l0 : List Int) (l1 : List Int) : Option (List Int) := (slices_Clone_byte_byte.f l0).bind fun t640 => (wire_Vary.l0 k t640 l1 (l1.length : Int) 0)
set_option maxHeartbeats 8000000 in
set_option maxRecDepth 100000 in
theorem wire_Vary.calls (k : Nat) (A0 : Option Addr) (c0 : Nat) (l0 : List Int) (A1 : Option Addr) (c1 : Nat) (l1 : List Int) (r : List Int) (w : World) (hr0 : Kd.C (Kd.int .u8) w A0 l0.length l0) (hc0 : l0.length ≤ c0) (hr1 : Kd.C (Kd.int .u64) w A1 l1.length l1) (hc1 : l1.length ≤ c1) (h : wire_Vary.f k l0 l1 = some r) :
  Calls Tryz.prog 50 #[.slice A0 l0.length c0, .slice A1 l1.length c1] w fun e w' => ∃ v0_ : Value, e = .returned (v0_) ∧ Kd.R (Kd.int .u8) 5 w' w.heap.size (fun _ => True) v0_ r ∧ Below w.heap.size w w' := by
 have HR0 := asd hr0
 have HC0 := asd hc0
 clear hr0 hc0
 have HR1 := asd hr1
 have HC1 := asd hc1
 clear hr1 hc1
 have HB := asd (Below.refl w.heap.size w)
 have H : ((slices_Clone_byte_byte.f l0).bind fun t640 => (wire_Vary.l0 k t640 l1 (l1.length : Int) 0)) = some r := h
 clear h
 replace H := Option.bind_eq_some_iff.mp H
 obtain ⟨t640, A30, H⟩ := H
 replace H : (wire_Vary.l0 k t640 l1 (l1.length : Int) 0) = some r := H
 have A3 := asd A30
 clear A30
 have H' := asd H
 clear H
 go_enter Tryz.func50, Tryz.ntmps50
 go_wp2_with (first | ((with_reducible refine gate_callee (f := 94) rfl ?_); refine gL (some 9) Tryz.func94 #[.slice A0 l0.length c0] ?_; (with_reducible refine (slices_Clone_byte_byte.calls _ _ l0 t640 _ ?side1 ?side2 A3.out).mono ?_); (case side1 => repeat (first | exact HR0.out | (with_reducible refine Kd.C_alloc ?_ _) | (with_reducible refine Kd.C_drewN ?_ _) | (with_reducible refine Kd.C_drew ?_))); (case side2 => exact HC0.out); rintro e w4 ⟨v641, rfl, ho0, hb⟩; refine ⟨_, rfl, ?_⟩; have HO642 := rl ho0 HB; replace HB := bs HB hb; (try clear hb); (try clear ho0)))
 go_loopg [5, 12] k (fun kq v5 v12 w' => ∃ (x5_1 : List Int) (x12_1 : Int), v12 = .int .i64 x12_1 ∧ Aside0 (wire_Vary.l0 kq x5_1 l1 (l1.length : Int) x12_1 = some r) ∧ Aside0 (kq ≤ k) ∧ Aside0 (Kd.R (Kd.int .u8) 5 w' w.heap.size (fun _ => True) v5 x5_1) ∧ Aside0 (Below w.heap.size w w'))
 case atStart => exact ⟨(t640), (0), (by first | rfl | (simp; done) | (simp [*]; done)), H', ⟨Nat.le_refl _⟩, re HO642, ⟨bse HB⟩⟩
 case round =>
  clear H'
  try clear c1
  try clear p2
  obtain ⟨x5_1, x12_1, rfl, HA, HK1, HO_5, HB⟩ := hrel
  cases gk with
  | zero => exact absurd HA.out (by simp [wire_Vary.l0])
  | succ k1 =>
   have H := HA.out
   clear HA
   simp only [wire_Vary.l0] at H
   by_cases c5 : x12_1 < (l1.length : Int)
   ·rw [if_pos c5] at H
    have c5b0 : decide (x12_1 < (l1.length : Int)) = true := decide_eq_true c5
    clear c5
    by_cases c6 : 0 ≤ x12_1
    ·rw [if_pos c6] at H
     have c6b0 : decide (0 ≤ x12_1) = true := decide_eq_true c6
     clear c6
     by_cases c7 : x12_1 < (l1.length : Int)
     ·rw [if_pos c7] at H
      have c7b0 : decide (x12_1 < (l1.length : Int)) = true := decide_eq_true c7
      clear c7
      replace H := Option.bind_eq_some_iff.mp H
      obtain ⟨t644, A80, H⟩ := H
      replace H : (wire_Vary.l0 k1 t644 l1 (l1.length : Int) (wrap64 (x12_1 + 1))) = some r := H
      have A8 := asd A80
      clear A80
      have H' := asd H
      clear H
      have p643 : 0 ≤ (x12_1 : Int) := of_decide_eq_true (by first | (with_reducible assumption) | assumption)
      have q643 : x12_1 < (l1.length : Int) := of_decide_eq_true (by first | (with_reducible assumption) | assumption)
      obtain ⟨ad643, e643, hx643_0⟩ := Kd.at_int HR1.out x12_1 p643 q643
      cases e643
      replace hx643_0 := (HB.out.cell (World.block_lt_of_cell? w _ hx643_0)).trans hx643_0
      replace p643 := eq_true p643
      replace q643 := eq_true q643
      obtain ⟨Ao9, co9, eo9⟩ := Kd.R_slice HO_5.out
      subst eo9
      go_wp2_with (first | ((with_reducible refine gate_callee (f := 95) rfl ?_); refine gL (some 18) Tryz.func95 #[.slice Ao9 x5_1.length co9, .int .u64 (rd l1 x12_1)] ?_; (with_reducible refine (wire_put.calls k1 (fun k_ => some k_ = (.slice Ao9 x5_1.length co9 : Value).ownBlock) (.slice Ao9 x5_1.length co9) x5_1 (rd l1 x12_1) t644 w _ ?side1 ?side2 A8.out).mono ?_); (case side1 => repeat (first | (with_reducible first | exact HB.out | apply below_alloc | apply pw_below_drewN | apply below_drew1) | exact HB.out)); (case side2 => exact Kd.R_tight rfl HO_5.out); rintro e w10 ⟨v645, rfl, ho0, hb, hkp⟩; refine ⟨_, rfl, ?_⟩; have n0_ := asd (Kd.R_mono (ok' := fun k_ => True) ho0 (fun k_ hk_ => trivial)); have n1_ := asd (hb); clear HB HO_5; have HO646 := n0_; have HB := n1_; clear n0_ n1_; (try clear hb); (try clear hkp); (try clear ho0)))
      go_roundg k1
      case measure => have := HK1.out; omega
      case rel => exact ⟨(t644), (wrap64 (x12_1 + 1)), (by first | rfl | (simp; done) | (simp [*]; done)), H', ⟨by have := HK1.out; omega⟩, re HO646, ⟨bse HB⟩⟩
     ·rw [if_neg c7] at H
      exact absurd H (by simp)
    ·rw [if_neg c6] at H
     exact absurd H (by simp)
   ·rw [if_neg c5] at H
    have c5b0 : decide (x12_1 < (l1.length : Int)) = false := decide_eq_false c5
    clear c5
    obtain rfl := Option.some.inj H
    go_wp2
    go_ret
    exact ⟨_, by first | rfl | (simp [errW_none, errW_some] <;> rfl) | (simp [*, errW_none, errW_some] <;> rfl), by (with_reducible repeat (first | apply Kd.R_alloc | apply Kd.R_drewN | apply Kd.R_drew)); exact HO_5.out, bse HB⟩

-- NOT PRINTED: function 96 (crc_seal)

/-! ### crc_seal_at_crc_tail24: function 96 -/
def crc_seal_at_crc_tail24.f (l0 : List Int)  : Option (List Int × Int) := if (l0.length : Int) > 1048576 then (some (([] : List Int), 6)) else ((slices_Clone_byte_byte.f l0).bind fun t647 => ((crc_tail24.f l0).bind fun t650 => (if t647.length + t650.length < 140737488355328 then (some ((t647 ++ t650), 0)) else (none))))
set_option maxHeartbeats 8000000 in
set_option maxRecDepth 100000 in
theorem crc_seal_at_crc_tail24.calls (A0 : Option Addr) (c0 : Nat) (l0 : List Int)  (r1 : List Int) (r2 : Int) (w : World) (hr0 : Kd.C (Kd.int .u8) w A0 l0.length l0) (hc0 : l0.length ≤ c0) (h : crc_seal_at_crc_tail24.f l0 = some (r1, r2)) :
  Calls Tryz.prog 96 #[.slice A0 l0.length c0, .func (.func 90) #[] #[]] w fun e w' => ∃ v0_ : Value, e = .returned (.tuple #[v0_, .int .i64 r2]) ∧ Kd.R (Kd.int .u8) 5 w' w.heap.size (fun _ => True) v0_ r1 ∧ Below w.heap.size w w' := by
 have HR0 := asd hr0
 have HC0 := asd hc0
 clear hr0 hc0
 have HB := asd (Below.refl w.heap.size w)
 have H : (if (l0.length : Int) > 1048576 then (some (([] : List Int), 6)) else ((slices_Clone_byte_byte.f l0).bind fun t647 => ((crc_tail24.f l0).bind fun t650 => (if t647.length + t650.length < 140737488355328 then (some ((t647 ++ t650), 0)) else (none))))) = some (r1, r2) := h
 clear h
 by_cases c3 : (l0.length : Int) > 1048576
 ·rw [if_pos c3] at H
  have c3b0 : decide (1048576 < (l0.length : Int)) = true := decide_eq_true c3
  have c3b1 : decide (1048576 < l0.length) = true := decide_eq_true (by omega)
  clear c3
  simp only [Option.some.injEq, Prod.mk.injEq] at H
  obtain ⟨rfl, rfl⟩ := H
  go_enter Tryz.func96, Tryz.ntmps96
  go_wp2
  go_ret2
  exact ⟨_, by first | rfl | (simp [errW_none, errW_some] <;> rfl) | (simp [*, errW_none, errW_some] <;> rfl), by first | exact Kd.R_nil _ _ _ _ _ | exact Kd.N_nil _ _ _ _ _ | exact Kd.V_nil _ _ _ _ _ | exact Kd.Q_nil _ _ _ _ _ | exact Kd.S_nil _ _ _ _ _, bse HB⟩
 ·rw [if_neg c3] at H
  have c3b0 : decide (1048576 < (l0.length : Int)) = false := decide_eq_false c3
  have c3b1 : decide (1048576 < l0.length) = false := decide_eq_false (by omega)
  clear c3
  replace H := Option.bind_eq_some_iff.mp H
  obtain ⟨t647, A40, H⟩ := H
  replace H : ((crc_tail24.f l0).bind fun t650 => (if t647.length + t650.length < 140737488355328 then (some ((t647 ++ t650), 0)) else (none))) = some (r1, r2) := H
  have A4 := asd A40
  clear A40
  replace H := Option.bind_eq_some_iff.mp H
  obtain ⟨t650, A50, H⟩ := H
  replace H : (if t647.length + t650.length < 140737488355328 then (some ((t647 ++ t650), 0)) else (none)) = some (r1, r2) := H
  have A5 := asd A50
  clear A50
  by_cases c6 : t647.length + t650.length < 140737488355328
  ·rw [if_pos c6] at H
   have LMc6 := asd c6
   clear c6
   obtain ⟨y653, hy653⟩ : ∃ y_ : List Int, y_ = (t647 ++ t650) := ⟨_, rfl⟩
   replace H : (some (y653, 0)) = some (r1, r2) := by first | (rw [hy653]; with_reducible exact H) | (have H2_ := (Option.bind_some _ _).symm.trans H; rw [hy653]; with_reducible exact H2_) | (have H2_ := (Option.bind_some _ _).symm.trans H; with_reducible exact H2_) | with_reducible exact H | (rw [hy653]; exact H) | exact H
   have Ny653 := asd hy653
   clear hy653
   simp only [Option.some.injEq, Prod.mk.injEq] at H
   obtain ⟨rfl, rfl⟩ := H
   go_enter Tryz.func96, Tryz.ntmps96
   go_wp2_with (first | ((with_reducible refine gate_callee (f := 94) rfl ?_); refine gL (some 10) Tryz.func94 #[.slice A0 l0.length c0] ?_; (with_reducible refine (slices_Clone_byte_byte.calls _ _ l0 t647 _ ?side1 ?side2 A4.out).mono ?_); (case side1 => repeat (first | exact HR0.out | (with_reducible refine Kd.C_alloc ?_ _) | (with_reducible refine Kd.C_drewN ?_ _) | (with_reducible refine Kd.C_drew ?_))); (case side2 => exact HC0.out); rintro e w7 ⟨v648, rfl, ho0, hb⟩; refine ⟨_, rfl, ?_⟩; have HO649 := rl ho0 HB; replace HB := bs HB hb; (try clear hb); (try clear ho0)) | ((with_reducible refine gate_via (t := 11) rfl ?_); refine goesT_ (some 13) rfl rfl Tryz.func90 (by kernel_rfl) rfl #[.slice A0 l0.length c0] rfl (by first | rfl | (simp; done) | (go_simp; done)) (by (try simp only [List.map_toArray, List.map_cons, List.map_nil]); first | done | rfl | (simp only [List.length_drop, List.length_take]; first | rfl | (rw [Nat.min_eq_left (Int.toNat_le.2 (of_decide_eq_true (by assumption)))]; rfl))) ?_; (with_reducible refine (crc_tail24.calls _ _ l0 t650 _ ?side1 ?side2 A5.out).mono ?_); (case side1 => exact cb HR0 HB); (case side2 => exact HC0.out); rintro e w8 ⟨v651, rfl, ho0, hb⟩; refine ⟨_, rfl, ?_⟩; have HO652 := asd (Kd.R_lower (Kd.R_new' ho0 (Kd.R_lt (re HO649).out)) (below_size (bse HB))); replace HO649 := asd (Kd.R_elder' (re HO649).out (Kd.R_base ho0) hb); replace HB := bs HB hb; (try clear hb); (try clear ho0); obtain ⟨Ao10, co10, eo10⟩ := Kd.R_slice HO652.out; subst eo10) | ((with_reducible refine gate_builtin (b := .append) (xs := #[.tmp 10, .tmp 13]) rfl ?_); at_builtin; refine Kd.R_append_rows (Kd.int .u8) (w0 := w) w.heap.size rfl (.tmp 10) (.tmp 13) 33 5 (.int .u8 0) 1 rfl Tryz.underlying33 info5 rfl (by decide) (by omega) v648 t647 t650 _ _ _ (fun k_ => some k_ ≠ (.slice Ao10 t650.length co10 : Value).ownBlock) (fun _ => False) rfl rfl ?aO ?aR (fun _ _ h => h) (fun _ h => h.elim) ?aF ?aB ?aS ?aL ?_; (case aR => exact cr (Kd.R_reads' HO652.out).2.2); (case aB => exact (bse HB)); (case aF => exact (fun k_ hk => Kd.fresh' (Kd.R_lt (re HO652).out) k_ hk)); (case aO => exact (by (with_reducible repeat (first | apply Kd.R_alloc | apply Kd.R_drewN | apply Kd.R_drew)); exact Kd.R_mono HO649.out (fun _ hk => hk.2))); (case aS => exact (below_size (bse HB))); (case aL => have := LMc6.out; omega); intro v654 w9 ho hb hg hat; rw [← Ny653.out] at ho; have n0_ := asd (Kd.R_after (ok := (fun _ => True)) (re HO652).out hg hat); have n1_ := asd (hb); have n2_ := asd (ho); clear HO652 HB HO649; have HO652 := n0_; have HB := n1_; have HO655 := n2_; clear n0_ n1_ n2_ ho hb hg hat))
   go_ret2
   exact ⟨_, by first | rfl | (simp [errW_none, errW_some] <;> rfl) | (simp [*, errW_none, errW_some] <;> rfl), by (with_reducible repeat (first | apply Kd.R_alloc | apply Kd.R_drewN | apply Kd.R_drew)); exact Kd.R_mono HO655.out (fun _ hk => trivial), bse HB⟩
  ·rw [if_neg c6] at H
   exact absurd H (by simp)

/-! ### crc_Seal24: function 51 -/
def crc_Seal24.f (l0 : List Int) : Option (List Int × Int) := (crc_seal_at_crc_tail24.f l0).bind fun bt656 => (some (bt656.1, bt656.2))
set_option maxHeartbeats 8000000 in
set_option maxRecDepth 100000 in
theorem crc_Seal24.calls (A0 : Option Addr) (c0 : Nat) (l0 : List Int) (r1 : List Int) (r2 : Int) (w : World) (hr0 : Kd.C (Kd.int .u8) w A0 l0.length l0) (hc0 : l0.length ≤ c0) (h : crc_Seal24.f l0 = some (r1, r2)) :
  Calls Tryz.prog 51 #[.slice A0 l0.length c0] w fun e w' => ∃ v0_ : Value, e = .returned (.tuple #[v0_, .int .i64 r2]) ∧ Kd.R (Kd.int .u8) 5 w' w.heap.size (fun _ => True) v0_ r1 ∧ Below w.heap.size w w' := by
 have HR0 := asd hr0
 have HC0 := asd hc0
 clear hr0 hc0
 have HB := asd (Below.refl w.heap.size w)
 have H : ((crc_seal_at_crc_tail24.f l0).bind fun bt656 => (some (bt656.1, bt656.2))) = some (r1, r2) := h
 clear h
 replace H := Option.bind_eq_some_iff.mp H
 obtain ⟨⟨t656, t659⟩, A20, H⟩ := H
 replace H : (some (t656, t659)) = some (r1, r2) := H
 have A2 := asd A20
 clear A20
 simp only [Option.some.injEq, Prod.mk.injEq] at H
 obtain ⟨rfl, rfl⟩ := H
 go_enter Tryz.func51, Tryz.ntmps51
 go_wp2_with (first | ((with_reducible refine gate_callee (f := 96) rfl ?_); refine gL (some 5) Tryz.func96 #[.slice A0 l0.length c0, .func (.func 90) #[] #[]] ?_; (with_reducible refine (crc_seal_at_crc_tail24.calls _ _ l0  t656 t659 _ ?side1 ?side2 A2.out).mono ?_); (case side1 => repeat (first | exact HR0.out | (with_reducible refine Kd.C_alloc ?_ _) | (with_reducible refine Kd.C_drewN ?_ _) | (with_reducible refine Kd.C_drew ?_))); (case side2 => exact HC0.out); rintro e w3 ⟨v657, rfl, ho0, hb⟩; refine ⟨_, rfl, ?_⟩; have HO658 := rl ho0 HB; replace HB := bs HB hb; (try clear hb); (try clear ho0)))
 go_ret2
 exact ⟨_, by first | rfl | (simp [errW_none, errW_some] <;> rfl) | (simp [*, errW_none, errW_some] <;> rfl), by (with_reducible repeat (first | apply Kd.R_alloc | apply Kd.R_drewN | apply Kd.R_drew)); exact HO658.out, bse HB⟩

end Go.Proofs.YtcofclkgfandfaaGreat.Print
