-- PRINTED by print.py (a twelfth state) out of the translation. Not trusted: Lean checks it.
import Derived.Test.YtcofclkgfandfaaGreatSq
import Derived.Test.YtcofclkgfandfaaGreatPrint0
import Derived.Test.YtcofclkgfandfaaGreatPrint11
import Derived.Test.YtcofclkgfandfaaGreatPrint12
import Derived.Test.YtcofclkgfandfaaGreatPrint13
import Derived.Test.YtcofclkgfandfaaGreatPrint24
import Derived.Test.YtcofclkgfandfaaGreatPrint32
import Derived.Test.YtcofclkgfandfaaGreatPrint36
namespace Go.Proofs.YtcofclkgfandfaaGreat.Print
set_option maxHeartbeats 8000000
set_option maxRecDepth 100000
open Go.RowKit Go.Proofs.YtcofclkgfandfaaGreatW.PrintWords Go.Proofs.YtcofclkgfandfaaGreatW.PrintLast Go.Proofs.YtcofclkgfandfaaGreatW.PrintMore Go.Proofs.YtcofclkgfandfaaGreatX
attribute [local go_sem] str_lss str_geq max2_int min2_int max_two min_two max_three min_three max_four min_four   -- for this text's walks alone
set_option linter.unusedVariables false
set_option linter.unusedSimpArgs false

/-! ### node_Hear: function 10 -/
/-- What is heard. -/
def node_hears.f (k : Nat) (s : Rs) (now began : Int) (l : List Int) (bad : Bool) : Option Rs :=
 (frame_Read.f k l).bind fun r => if bad = true then some s else if r.2.2.2.2 = 0 then (if r.2.1 = s.id then some s else
  if s.ph = 1 then node_joins.f k s now began r.1 r.2.1 r.2.2.1 r.2.2.2.1 else
  if s.ph = 2 then (medl_Owner.f s.m0 s.m1 s.m2 s.m3 s.m4 s.sl).bind fun o => if o.1 = s.id then some (s.fl o.2) else if s.ve = 0 then (if s.st ≤ began then (if s.ac.length ≤ 1000000 ∧ s.ds.length ≤ 1000000 then node_judges.f k (s.fl o.2) began r.1 r.2.1 r.2.2.1 r.2.2.2.1 else none) else some (s.fl o.2)) else some (s.fl o.2)
  else some s) else some s
theorem node_hears.calls (k b10 b11 b15 b8 b9 g : Nat) (s s2 : Rs) (dv av : Value) (now began : Int) (Ab : Option Addr) (cb : Nat) (l : List Int) (bad : Bool) (w0 w : World) (h : RSt w0 w g s dv av) (h10 : w.heap[b10]? = some (.cells #[.slice Ab l.length cb] 33 (0, 0))) (h11 : w.heap[b11]? = some (.cells #[.bool bad] 4 (0, 0))) (h15 : w.heap[b15]? = some (.cells #[.pointer (some ⟨g, 0, none⟩)] 74 (0, 0))) (h8 : w.heap[b8]? = some (.cells #[.int .i64 now] 2 (0, 0))) (h9 : w.heap[b9]? = some (.cells #[.int .i64 began] 2 (0, 0))) (hr : Kd.C (Kd.int .u8) w Ab l.length l) (hc : l.length ≤ cb) (hf : node_hears.f k s now began l bad = some s2) :
  Calls Tryz.prog 38 #[.pointer (some ⟨b10, 0, none⟩), .pointer (some ⟨b11, 0, none⟩), .pointer (some ⟨b15, 0, none⟩), .pointer (some ⟨b8, 0, none⟩), .pointer (some ⟨b9, 0, none⟩)] w fun e w' => e = .returned (.tuple #[]) ∧ (∃ dv' av', RSt w0 w' g s2 dv' av') ∧ Kr w w' g dv av := by
 unfold node_hears.f at hf
 obtain ⟨⟨r1, r2, r3, r4, r5⟩, A1, hf⟩ := Option.bind_eq_some_iff.mp hf
 have HA := asd A1
 have HR := asd hr
 have HC := asd hc
 have W0 := asd h.bel
 have H := asd h
 have K := asd (Kr.refl w g dv av)
 have AD := asd (At.refl w.heap.size dv)
 have AA := asd (At.refl w.heap.size av)
 have B10 := asd h10
 have N10_g := asd (blk_ne h10 h.b (by decide) : b10 ≠ g)
 have B11 := asd h11
 have N11_g := asd (blk_ne h11 h.b (by decide) : b11 ≠ g)
 have B15 := asd h15
 have N15_g := asd (blk_ne h15 h.b (by decide) : b15 ≠ g)
 have B8 := asd h8
 have N8_g := asd (blk_ne h8 h.b (by decide) : b8 ≠ g)
 have B9 := asd h9
 have N9_g := asd (blk_ne h9 h.b (by decide) : b9 ≠ g)
 dsimp only at hf
 have HF := asd hf
 have hb10 := ca1 B10
 clear h h10 h11 h15 h8 h9 hr hc A1 hf
 go_enter Tryz.func38, Tryz.ntmps38
 go_wp2_with (first | ((with_reducible refine gate_callee (f := 12) rfl ?_); refine gC (some 9) Tryz.func12 (frame_Read.calls k Ab cb l r1 r2 r3 r4 r5 _ HR.out HC.out HA.out) ?_; rintro e wx1 ⟨rfl, hb⟩; refine ⟨_, rfl, ?_⟩; replace B10 := asd (blk_below B10.out hb); replace B11 := asd (blk_below B11.out hb); replace B15 := asd (blk_below B15.out hb); replace B8 := asd (blk_below B8.out hb); replace B9 := asd (blk_below B9.out hb); replace H := asd (H.out.below hb); replace K := asd (K.out.step hb); clear hb hb10) | (refine bG 5 #[.int .i64 0, .int .i64 0, .int .u64 0, .int .u16 0] 43 ?_; intro gb5 hg wx2 B5 hb; have G5 := asd (by rw [hg]; exact K.out.1 : w.heap.size ≤ gb5); have N5_g := asd (by rw [hg]; exact Nat.ne_of_gt (blk_lt H.out.b) : gb5 ≠ g); replace B10 := asd (blk_below B10.out hb); replace B11 := asd (blk_below B11.out hb); replace B15 := asd (blk_below B15.out hb); replace B8 := asd (blk_below B8.out hb); replace B9 := asd (blk_below B9.out hb); replace H := asd (H.out.below hb); replace K := asd (K.out.step hb); clear hb hg; have hb5 := ca4 B5))
 have q_ := (((((Wr.refl gb5 wx2).set 0 (.int .i64 r1)).set 1 (.int .i64 r2)).set 2 (.int .u64 r3)).set 3 (.int .u16 r4))
 replace B10 := asd (q_.blk B10.out (blk_ne B10.out B5.out (by decide)))
 replace B11 := asd (q_.blk B11.out (blk_ne B11.out B5.out (by decide)))
 replace B15 := asd (q_.blk B15.out (blk_ne B15.out B5.out (by decide)))
 replace B8 := asd (q_.blk B8.out (blk_ne B8.out B5.out (by decide)))
 replace B9 := asd (q_.blk B9.out (blk_ne B9.out B5.out (by decide)))
 replace H := asd (q_.run B5.out (by decide) (by decide) (by decide) (Nat.le_trans W0.out.size G5.out) H.out)
 replace B5 := asd (show (World.heap _)[gb5]? = some (Obj.cells #[.int .i64 r1, .int .i64 r2, .int .u64 r3, .int .u16 r4] 43 (0, 0)) from (blk_put (cs := #[.int .i64 r1, .int .i64 r2, .int .u64 r3, .int .u16 0]) (blk_put (cs := #[.int .i64 r1, .int .i64 r2, .int .u64 0, .int .u16 0]) (blk_put (cs := #[.int .i64 r1, .int .i64 0, .int .u64 0, .int .u16 0]) (blk_put (cs := #[.int .i64 0, .int .i64 0, .int .u64 0, .int .u16 0]) B5.out 0 (.int .i64 r1) rfl) 1 (.int .i64 r2) rfl) 2 (.int .u64 r3) rfl) 3 (.int .u16 r4) rfl))
 replace K := asd (K.out.wrNew q_ G5.out)
 clear q_
 generalize ((((wx2.setCell ⟨gb5, 0, none⟩ (.int .i64 r1)).setCell ⟨gb5, 1, none⟩ (.int .i64 r2)).setCell ⟨gb5, 2, none⟩ (.int .u64 r3)).setCell ⟨gb5, 3, none⟩ (.int .u16 r4)) = wy0 at B10 B11 B15 B8 B9 B5 H K ⊢
 have hb11 := ca1 B11
 have hb15 := ca1 B15
 have hb5 := ca4 B5
 have hc0 : wy0.cell? ⟨g, 0, none⟩ = some (.int .i64 (s).id) := (by have q := H.out.c0; (try simp only [Rs.fls] at q); exact q)
 have hf0 := H.out.fz 0
 cases bad with
 | true =>
  have hf := HF.out
  rw [if_pos rfl] at hf
  obtain rfl := Option.some.inj hf
  clear HF hf
  go_region
  replace B10 := asd (blk_drew B10.out)
  replace B11 := asd (blk_drew B11.out)
  replace B15 := asd (blk_drew B15.out)
  replace B8 := asd (blk_drew B8.out)
  replace B9 := asd (blk_drew B9.out)
  replace B5 := asd (blk_drew B5.out)
  replace H := asd (H.out.drew)
  replace K := asd (K.out.drew)
  clear hb11 hb15 hb5 hc0 hf0
  generalize (wy0).drew = wd3 at B10 B11 B15 B8 B9 B5 H K ⊢
  go_wp2
  first | go_end0 | go_ret | ((try simp only [Exit.inBlock, Exit.then]); refine bodyPost_ret (results_none rfl _ _ _) rfl ?_)
  exact ⟨rfl, ⟨_, _, H.out⟩, K.out⟩
 | false =>
  by_cases c5 : r5 = 0
  ·have c5a : (r5 != 0) = false := bne_eq_false_iff_eq.mpr c5
   by_cases c6 : r2 = s.id
   ·have c6a : (r2 == s.id) = true := beq_iff_eq.mpr c6
    have hf := HF.out
    rw [if_neg (by decide), if_pos c5, if_pos c6] at hf
    obtain rfl := Option.some.inj hf
    clear HF hf
    go_region
    replace B10 := asd (blk_drew B10.out)
    replace B11 := asd (blk_drew B11.out)
    replace B15 := asd (blk_drew B15.out)
    replace B8 := asd (blk_drew B8.out)
    replace B9 := asd (blk_drew B9.out)
    replace B5 := asd (blk_drew B5.out)
    replace H := asd (H.out.drew)
    replace K := asd (K.out.drew)
    clear hb11 hb15 hb5 hc0 hf0
    generalize (wy0).drew = wd3 at B10 B11 B15 B8 B9 B5 H K ⊢
    go_wp2
    first | go_end0 | go_ret | ((try simp only [Exit.inBlock, Exit.then]); refine bodyPost_ret (results_none rfl _ _ _) rfl ?_)
    exact ⟨rfl, ⟨_, _, H.out⟩, K.out⟩
   have c6a : (r2 == s.id) = false := beq_eq_false_iff_ne.mpr c6
   have hf := HF.out
   rw [if_neg (by decide), if_pos c5, if_neg c6] at hf
   clear HF
   go_region
   replace B10 := asd (blk_drew B10.out)
   replace B11 := asd (blk_drew B11.out)
   replace B15 := asd (blk_drew B15.out)
   replace B8 := asd (blk_drew B8.out)
   replace B9 := asd (blk_drew B9.out)
   replace B5 := asd (blk_drew B5.out)
   replace H := asd (H.out.drew)
   replace K := asd (K.out.drew)
   clear hb11 hb15 hb5 hc0 hf0
   generalize (wy0).drew = wd3 at B10 B11 B15 B8 B9 B5 H K ⊢
   by_cases c1 : s.ph = 1
   ·have c1a : (s.ph == 1) = true := beq_iff_eq.mpr c1
    rw [if_pos c1] at hf
    have HF := asd hf
    clear hf
    have hb15 := ca1 B15
    have hb8 := ca1 B8
    have hb9 := ca1 B9
    have hb5 := ca4 B5
    have hc1 : wd3.cell? ⟨g, 1, none⟩ = some (.int .i64 (s).ph) := (by have q := H.out.c1; (try simp only [Rs.fls] at q); exact q)
    have hf1 := H.out.fz 1
    go_wp2_with (first | ((with_reducible refine gate_callee (f := 39) rfl ?_); refine gC (some 39) Tryz.func39 (node_joins.calls k g s s2 dv av now began r1 r2 r3 r4 w0 _ H.out HF.out) ?_; rintro e wx4 ⟨rfl, ⟨dv2, av2, hs⟩, hk⟩; refine ⟨_, rfl, ?_⟩; have HS := asd hs; have HK := asd (K.out.trans AD.out AA.out hk); clear hs hk))
    first | go_end0 | go_ret | ((try simp only [Exit.inBlock, Exit.then]); refine bodyPost_ret (results_none rfl _ _ _) rfl ?_)
    exact ⟨rfl, ⟨_, _, HS.out⟩, HK.out⟩
   have c1a : (s.ph == 1) = false := beq_eq_false_iff_ne.mpr c1
   rw [if_neg c1] at hf
   have hb15 := ca1 B15
   have hc1 : wd3.cell? ⟨g, 1, none⟩ = some (.int .i64 (s).ph) := (by have q := H.out.c1; (try simp only [Rs.fls] at q); exact q)
   have hf1 := H.out.fz 1
   by_cases c2 : s.ph = 2
   ·have c2a : (s.ph == 2) = true := beq_iff_eq.mpr c2
    rw [if_pos c2] at hf
    obtain ⟨⟨on, oe⟩, A7, hf⟩ := Option.bind_eq_some_iff.mp hf
    have HO := asd A7
    dsimp only at hf
    have HF := asd hf
    clear A7 hf
    go_wp2
    by_cases c7 : on = s.id
    ·have c7a : (on != s.id) = false := bne_eq_false_iff_eq.mpr c7
     have hf := HF.out
     rw [if_pos c7] at hf
     obtain rfl := Option.some.inj hf
     clear HF hf
     refine start_ (n := 34) (S := fun w' => w'.cell? ⟨b15, 0, none⟩ = some (.pointer (some ⟨g, 0, none⟩)) ∧ w'.cell? ⟨b9, 0, none⟩ = some (.int .i64 began) ∧ w'.cell? ⟨g, 0, none⟩ = some (.int .i64 s.id) ∧ w'.cell? ⟨g, 1, none⟩ = some (.int .i64 s.ph) ∧ w'.cell? ⟨g, 3, none⟩ = some (.int .i64 s.st) ∧ w'.cell? ⟨g, 13, none⟩ = some (.int .i64 s.ve)) (ds := []) (fb 34 0) (by kernel_rfl) rfl rfl ⟨(blk_cell B15.out 0).trans rfl, (blk_cell B9.out 0).trans rfl, H.out.c0, H.out.c1, H.out.c3, H.out.c13⟩ (fun hHeld => ?_)
     clear hb15 hc1 hf1
     replace B10 := asd (blk_drew B10.out)
     replace B11 := asd (blk_drew B11.out)
     replace B15 := asd (blk_drew B15.out)
     replace B8 := asd (blk_drew B8.out)
     replace B9 := asd (blk_drew B9.out)
     replace B5 := asd (blk_drew B5.out)
     replace H := asd (H.out.drew)
     replace K := asd (K.out.drew)
     generalize (wd3).drew = wd4 at B10 B11 B15 B8 B9 B5 H K hHeld ⊢
     refine ti 0 41 34 1 hHeld ?_
     refine pi 1 42 34 3 ?_
     refine pi 2 43 34 7 ?_
     refine pi 3 44 34 15 ?_
     refine ti 4 45 34 31 hHeld ?_
     refine pi 5 46 34 63 ?_
     refine pi 6 47 34 127 ?_
     refine ti 7 48 34 255 hHeld ?_
     refine ti 9 50 34 767 hHeld ?_
     refine pi 10 51 34 1791 ?_
     refine pi 11 52 34 3839 ?_
     refine pi 12 53 34 7935 ?_
     refine ti 13 54 34 16127 hHeld ?_
     refine one_ (i := 8) (N := some 49) (fb 34 16383) rfl rfl (by kernel_rfl) (by decide) (fun K_ hK_ => ?_)
     refine goesV_ Tryz.func40 (by kernel_rfl) rfl #[.pointer (some ⟨g, 0, none⟩)] (by rfl) rfl rfl (by first | rfl | (simp; done) | (go_simp; done)) (by (try simp only [List.map_toArray, List.map_cons, List.map_nil]); first | done | rfl) ?_
     with_reducible refine (node_owner.calls g s dv av on oe w0 _ H.out HO.out).mono ?_
     rintro e wx5 ⟨rfl, hs, hk⟩
     refine ⟨_, rfl, ?_⟩
     replace K := asd (K.out.thenG hk)
     replace H := asd (hs)
     replace B10 := asd (hk.blk B10.out N10_g.out (by simp [Value.ownBlock]) (by simp [Value.ownBlock]))
     replace B11 := asd (hk.blk B11.out N11_g.out (by simp [Value.ownBlock]) (by simp [Value.ownBlock]))
     replace B15 := asd (hk.blk B15.out N15_g.out (by simp [Value.ownBlock]) (by simp [Value.ownBlock]))
     replace B8 := asd (hk.blk B8.out N8_g.out (by simp [Value.ownBlock]) (by simp [Value.ownBlock]))
     replace B9 := asd (hk.blk B9.out N9_g.out (by simp [Value.ownBlock]) (by simp [Value.ownBlock]))
     replace B5 := asd (hk.blk B5.out N5_g.out (by simp [Value.ownBlock]) (by simp [Value.ownBlock]))
     clear hs hk
     refine hK_.out _ _ ⟨(blk_cell B15.out 0).trans rfl, (blk_cell B9.out 0).trans rfl, (by have q := H.out.c0; simp only [Rs.fls] at q; exact q), (by have q := H.out.c1; simp only [Rs.fls] at q; exact q), (by have q := H.out.c3; simp only [Rs.fls] at q; exact q), (by have q := H.out.c13; simp only [Rs.fls] at q; exact q)⟩ (fun hHeld => ?_)
     clear hK_ K_
     refine pi 14 55 34 32767 ?_
     refine pi 15 56 34 65535 ?_
     refine pi 16 57 34 131071 ?_
     refine pw (i := 17) (N := some 58) (fb 34 262143) ?_
     refine pw (i := 18) (N := some 59) (fb 34 524287) ?_
     refine pw (i := 19) (N := some 60) (fb 34 1048575) ?_
     refine pw (i := 20) (N := some 61) (fb 34 2097151) ?_
     refine pw (i := 21) (N := some 62) (fb 34 4194303) ?_
     refine pw (i := 22) (N := some 63) (fb 34 8388607) ?_
     refine pi 23 64 34 16777215 ?_
     refine pi 24 65 34 33554431 ?_
     refine pw (i := 25) (N := some 66) (fb 34 67108863) ?_
     refine pw (i := 26) (N := some 67) (fb 34 134217727) ?_
     refine pw (i := 27) (N := some 68) (fb 34 268435455) ?_
     refine pw (i := 28) (N := some 69) (fb 34 536870911) ?_
     refine pw (i := 29) (N := some 70) (fb 34 1073741823) ?_
     refine pw (i := 30) (N := some 71) (fb 34 2147483647) ?_
     refine pw (i := 31) (N := some 72) (fb 34 4294967295) ?_
     refine pi 32 73 34 8589934591 ?_
     refine pi 33 40 34 17179869183 ?_
     refine done_ (by kernel_rfl) ?_
     go_wp2
     first | go_end0 | go_ret | ((try simp only [Exit.inBlock, Exit.then]); refine bodyPost_ret (results_none rfl _ _ _) rfl ?_)
     exact ⟨rfl, ⟨_, _, H.out⟩, K.out⟩
    have c7a : (on != s.id) = true := bne_iff_ne.mpr c7
    have hf := HF.out
    rw [if_neg c7] at hf
    clear HF
    by_cases c8 : s.ve = 0
    ·have c8a : (s.ve == 0) = true := beq_iff_eq.mpr c8
     rw [if_pos c8] at hf
     by_cases c9 : s.st ≤ began
     ·have c9a : decide (s.st ≤ began) = true := decide_eq_true c9
      rw [if_pos c9] at hf
      by_cases c10 : s.ac.length ≤ 1000000 ∧ s.ds.length ≤ 1000000
      ·rw [if_pos c10] at hf
       have hlen := asd c10.1
       have hlend := asd c10.2
       have HF := asd hf
       clear hf c10
       refine start_ (n := 34) (S := fun w' => w'.cell? ⟨b15, 0, none⟩ = some (.pointer (some ⟨g, 0, none⟩)) ∧ w'.cell? ⟨b9, 0, none⟩ = some (.int .i64 began) ∧ w'.cell? ⟨g, 0, none⟩ = some (.int .i64 s.id) ∧ w'.cell? ⟨g, 1, none⟩ = some (.int .i64 s.ph) ∧ w'.cell? ⟨g, 3, none⟩ = some (.int .i64 s.st) ∧ w'.cell? ⟨g, 13, none⟩ = some (.int .i64 s.ve)) (ds := []) (fb 34 0) (by kernel_rfl) rfl rfl ⟨(blk_cell B15.out 0).trans rfl, (blk_cell B9.out 0).trans rfl, H.out.c0, H.out.c1, H.out.c3, H.out.c13⟩ (fun hHeld => ?_)
       clear hb15 hc1 hf1
       replace B10 := asd (blk_drew B10.out)
       replace B11 := asd (blk_drew B11.out)
       replace B15 := asd (blk_drew B15.out)
       replace B8 := asd (blk_drew B8.out)
       replace B9 := asd (blk_drew B9.out)
       replace B5 := asd (blk_drew B5.out)
       replace H := asd (H.out.drew)
       replace K := asd (K.out.drew)
       generalize (wd3).drew = wd4 at B10 B11 B15 B8 B9 B5 H K hHeld ⊢
       refine ti 0 41 34 1 hHeld ?_
       refine pi 1 42 34 3 ?_
       refine pi 2 43 34 7 ?_
       refine pi 3 44 34 15 ?_
       refine ti 4 45 34 31 hHeld ?_
       refine pi 5 46 34 63 ?_
       refine pi 6 47 34 127 ?_
       refine ti 7 48 34 255 hHeld ?_
       refine ti 9 50 34 767 hHeld ?_
       refine pi 10 51 34 1791 ?_
       refine pi 11 52 34 3839 ?_
       refine pi 12 53 34 7935 ?_
       refine ti 13 54 34 16127 hHeld ?_
       refine one_ (i := 8) (N := some 49) (fb 34 16383) rfl rfl (by kernel_rfl) (by decide) (fun K_ hK_ => ?_)
       refine goesV_ Tryz.func40 (by kernel_rfl) rfl #[.pointer (some ⟨g, 0, none⟩)] (by rfl) rfl rfl (by first | rfl | (simp; done) | (go_simp; done)) (by (try simp only [List.map_toArray, List.map_cons, List.map_nil]); first | done | rfl) ?_
       with_reducible refine (node_owner.calls g s dv av on oe w0 _ H.out HO.out).mono ?_
       rintro e wx5 ⟨rfl, hs, hk⟩
       refine ⟨_, rfl, ?_⟩
       replace K := asd (K.out.thenG hk)
       replace H := asd (hs)
       replace B10 := asd (hk.blk B10.out N10_g.out (by simp [Value.ownBlock]) (by simp [Value.ownBlock]))
       replace B11 := asd (hk.blk B11.out N11_g.out (by simp [Value.ownBlock]) (by simp [Value.ownBlock]))
       replace B15 := asd (hk.blk B15.out N15_g.out (by simp [Value.ownBlock]) (by simp [Value.ownBlock]))
       replace B8 := asd (hk.blk B8.out N8_g.out (by simp [Value.ownBlock]) (by simp [Value.ownBlock]))
       replace B9 := asd (hk.blk B9.out N9_g.out (by simp [Value.ownBlock]) (by simp [Value.ownBlock]))
       replace B5 := asd (hk.blk B5.out N5_g.out (by simp [Value.ownBlock]) (by simp [Value.ownBlock]))
       clear hs hk
       refine hK_.out _ _ ⟨(blk_cell B15.out 0).trans rfl, (blk_cell B9.out 0).trans rfl, (by have q := H.out.c0; simp only [Rs.fls] at q; exact q), (by have q := H.out.c1; simp only [Rs.fls] at q; exact q), (by have q := H.out.c3; simp only [Rs.fls] at q; exact q), (by have q := H.out.c13; simp only [Rs.fls] at q; exact q)⟩ (fun hHeld => ?_)
       clear hK_ K_
       refine pi 14 55 34 32767 ?_
       refine pi 15 56 34 65535 ?_
       refine pi 16 57 34 131071 ?_
       refine ti 17 58 34 262143 hHeld ?_
       refine pi 18 59 34 524287 ?_
       refine pi 19 60 34 1048575 ?_
       refine pi 20 61 34 2097151 ?_
       refine ti 21 62 34 4194303 hHeld ?_
       refine pi 22 63 34 8388607 ?_
       refine pi 23 64 34 16777215 ?_
       refine pi 24 65 34 33554431 ?_
       refine ti 25 66 34 67108863 hHeld ?_
       refine ti 26 67 34 134217727 hHeld ?_
       refine pi 27 68 34 268435455 ?_
       refine pi 28 69 34 536870911 ?_
       refine pi 29 70 34 1073741823 ?_
       refine ti 30 71 34 2147483647 hHeld ?_
       refine pi 31 72 34 4294967295 ?_
       refine pi 32 73 34 8589934591 ?_
       refine pi 33 40 34 17179869183 ?_
       refine done_ (by kernel_rfl) ?_
       have hb15 := ca1 B15
       have hb9 := ca1 B9
       have hb5 := ca4 B5
       go_wp2_with (first | ((with_reducible refine gate_callee (f := 41) rfl ?_); refine gC (some 77) Tryz.func41 (node_judges.calls k g (s.fl oe) s2 dv av began r1 r2 r3 r4 w0 _ H.out (by rw [Rs.fl_ac]; exact hlen.out) (by rw [Rs.fl_ds]; exact hlend.out) HF.out) ?_; rintro e wj ⟨rfl, ⟨dv2, av2, hs, hat1, hat2⟩, hk⟩; refine ⟨_, rfl, ?_⟩; have HS := asd hs; have HK := asd (K.out.trans AD.out AA.out hk); clear hs hk hat1 hat2))
       first | go_end0 | go_ret | ((try simp only [Exit.inBlock, Exit.then]); refine bodyPost_ret (results_none rfl _ _ _) rfl ?_)
       exact ⟨rfl, ⟨_, _, HS.out⟩, HK.out⟩
      rw [if_neg c10] at hf
      exact nomatch hf
     have c9a : decide (s.st ≤ began) = false := decide_eq_false c9
     rw [if_neg c9] at hf
     obtain rfl := Option.some.inj hf
     clear hf
     refine start_ (n := 34) (S := fun w' => w'.cell? ⟨b15, 0, none⟩ = some (.pointer (some ⟨g, 0, none⟩)) ∧ w'.cell? ⟨b9, 0, none⟩ = some (.int .i64 began) ∧ w'.cell? ⟨g, 0, none⟩ = some (.int .i64 s.id) ∧ w'.cell? ⟨g, 1, none⟩ = some (.int .i64 s.ph) ∧ w'.cell? ⟨g, 3, none⟩ = some (.int .i64 s.st) ∧ w'.cell? ⟨g, 13, none⟩ = some (.int .i64 s.ve)) (ds := []) (fb 34 0) (by kernel_rfl) rfl rfl ⟨(blk_cell B15.out 0).trans rfl, (blk_cell B9.out 0).trans rfl, H.out.c0, H.out.c1, H.out.c3, H.out.c13⟩ (fun hHeld => ?_)
     clear hb15 hc1 hf1
     replace B10 := asd (blk_drew B10.out)
     replace B11 := asd (blk_drew B11.out)
     replace B15 := asd (blk_drew B15.out)
     replace B8 := asd (blk_drew B8.out)
     replace B9 := asd (blk_drew B9.out)
     replace B5 := asd (blk_drew B5.out)
     replace H := asd (H.out.drew)
     replace K := asd (K.out.drew)
     generalize (wd3).drew = wd4 at B10 B11 B15 B8 B9 B5 H K hHeld ⊢
     refine ti 0 41 34 1 hHeld ?_
     refine pi 1 42 34 3 ?_
     refine pi 2 43 34 7 ?_
     refine pi 3 44 34 15 ?_
     refine ti 4 45 34 31 hHeld ?_
     refine pi 5 46 34 63 ?_
     refine pi 6 47 34 127 ?_
     refine ti 7 48 34 255 hHeld ?_
     refine ti 9 50 34 767 hHeld ?_
     refine pi 10 51 34 1791 ?_
     refine pi 11 52 34 3839 ?_
     refine pi 12 53 34 7935 ?_
     refine ti 13 54 34 16127 hHeld ?_
     refine one_ (i := 8) (N := some 49) (fb 34 16383) rfl rfl (by kernel_rfl) (by decide) (fun K_ hK_ => ?_)
     refine goesV_ Tryz.func40 (by kernel_rfl) rfl #[.pointer (some ⟨g, 0, none⟩)] (by rfl) rfl rfl (by first | rfl | (simp; done) | (go_simp; done)) (by (try simp only [List.map_toArray, List.map_cons, List.map_nil]); first | done | rfl) ?_
     with_reducible refine (node_owner.calls g s dv av on oe w0 _ H.out HO.out).mono ?_
     rintro e wx5 ⟨rfl, hs, hk⟩
     refine ⟨_, rfl, ?_⟩
     replace K := asd (K.out.thenG hk)
     replace H := asd (hs)
     replace B10 := asd (hk.blk B10.out N10_g.out (by simp [Value.ownBlock]) (by simp [Value.ownBlock]))
     replace B11 := asd (hk.blk B11.out N11_g.out (by simp [Value.ownBlock]) (by simp [Value.ownBlock]))
     replace B15 := asd (hk.blk B15.out N15_g.out (by simp [Value.ownBlock]) (by simp [Value.ownBlock]))
     replace B8 := asd (hk.blk B8.out N8_g.out (by simp [Value.ownBlock]) (by simp [Value.ownBlock]))
     replace B9 := asd (hk.blk B9.out N9_g.out (by simp [Value.ownBlock]) (by simp [Value.ownBlock]))
     replace B5 := asd (hk.blk B5.out N5_g.out (by simp [Value.ownBlock]) (by simp [Value.ownBlock]))
     clear hs hk
     refine hK_.out _ _ ⟨(blk_cell B15.out 0).trans rfl, (blk_cell B9.out 0).trans rfl, (by have q := H.out.c0; simp only [Rs.fls] at q; exact q), (by have q := H.out.c1; simp only [Rs.fls] at q; exact q), (by have q := H.out.c3; simp only [Rs.fls] at q; exact q), (by have q := H.out.c13; simp only [Rs.fls] at q; exact q)⟩ (fun hHeld => ?_)
     clear hK_ K_
     refine pi 14 55 34 32767 ?_
     refine pi 15 56 34 65535 ?_
     refine pi 16 57 34 131071 ?_
     refine ti 17 58 34 262143 hHeld ?_
     refine pi 18 59 34 524287 ?_
     refine pi 19 60 34 1048575 ?_
     refine pi 20 61 34 2097151 ?_
     refine ti 21 62 34 4194303 hHeld ?_
     refine pi 22 63 34 8388607 ?_
     refine pi 23 64 34 16777215 ?_
     refine pi 24 65 34 33554431 ?_
     refine ti 25 66 34 67108863 hHeld ?_
     refine ti 26 67 34 134217727 hHeld ?_
     refine pi 27 68 34 268435455 ?_
     refine pi 28 69 34 536870911 ?_
     refine pi 29 70 34 1073741823 ?_
     refine ti 30 71 34 2147483647 hHeld ?_
     refine pi 31 72 34 4294967295 ?_
     refine pi 32 73 34 8589934591 ?_
     refine pi 33 40 34 17179869183 ?_
     refine done_ (by kernel_rfl) ?_
     go_wp2
     first | go_end0 | go_ret | ((try simp only [Exit.inBlock, Exit.then]); refine bodyPost_ret (results_none rfl _ _ _) rfl ?_)
     exact ⟨rfl, ⟨_, _, H.out⟩, K.out⟩
    have c8a : (s.ve == 0) = false := beq_eq_false_iff_ne.mpr c8
    rw [if_neg c8] at hf
    obtain rfl := Option.some.inj hf
    clear hf
    refine start_ (n := 34) (S := fun w' => w'.cell? ⟨b15, 0, none⟩ = some (.pointer (some ⟨g, 0, none⟩)) ∧ w'.cell? ⟨b9, 0, none⟩ = some (.int .i64 began) ∧ w'.cell? ⟨g, 0, none⟩ = some (.int .i64 s.id) ∧ w'.cell? ⟨g, 1, none⟩ = some (.int .i64 s.ph) ∧ w'.cell? ⟨g, 3, none⟩ = some (.int .i64 s.st) ∧ w'.cell? ⟨g, 13, none⟩ = some (.int .i64 s.ve)) (ds := []) (fb 34 0) (by kernel_rfl) rfl rfl ⟨(blk_cell B15.out 0).trans rfl, (blk_cell B9.out 0).trans rfl, H.out.c0, H.out.c1, H.out.c3, H.out.c13⟩ (fun hHeld => ?_)
    clear hb15 hc1 hf1
    replace B10 := asd (blk_drew B10.out)
    replace B11 := asd (blk_drew B11.out)
    replace B15 := asd (blk_drew B15.out)
    replace B8 := asd (blk_drew B8.out)
    replace B9 := asd (blk_drew B9.out)
    replace B5 := asd (blk_drew B5.out)
    replace H := asd (H.out.drew)
    replace K := asd (K.out.drew)
    generalize (wd3).drew = wd4 at B10 B11 B15 B8 B9 B5 H K hHeld ⊢
    refine ti 0 41 34 1 hHeld ?_
    refine pi 1 42 34 3 ?_
    refine pi 2 43 34 7 ?_
    refine pi 3 44 34 15 ?_
    refine ti 4 45 34 31 hHeld ?_
    refine pi 5 46 34 63 ?_
    refine pi 6 47 34 127 ?_
    refine ti 7 48 34 255 hHeld ?_
    refine ti 9 50 34 767 hHeld ?_
    refine pi 10 51 34 1791 ?_
    refine pi 11 52 34 3839 ?_
    refine pi 12 53 34 7935 ?_
    refine ti 13 54 34 16127 hHeld ?_
    refine one_ (i := 8) (N := some 49) (fb 34 16383) rfl rfl (by kernel_rfl) (by decide) (fun K_ hK_ => ?_)
    refine goesV_ Tryz.func40 (by kernel_rfl) rfl #[.pointer (some ⟨g, 0, none⟩)] (by rfl) rfl rfl (by first | rfl | (simp; done) | (go_simp; done)) (by (try simp only [List.map_toArray, List.map_cons, List.map_nil]); first | done | rfl) ?_
    with_reducible refine (node_owner.calls g s dv av on oe w0 _ H.out HO.out).mono ?_
    rintro e wx5 ⟨rfl, hs, hk⟩
    refine ⟨_, rfl, ?_⟩
    replace K := asd (K.out.thenG hk)
    replace H := asd (hs)
    replace B10 := asd (hk.blk B10.out N10_g.out (by simp [Value.ownBlock]) (by simp [Value.ownBlock]))
    replace B11 := asd (hk.blk B11.out N11_g.out (by simp [Value.ownBlock]) (by simp [Value.ownBlock]))
    replace B15 := asd (hk.blk B15.out N15_g.out (by simp [Value.ownBlock]) (by simp [Value.ownBlock]))
    replace B8 := asd (hk.blk B8.out N8_g.out (by simp [Value.ownBlock]) (by simp [Value.ownBlock]))
    replace B9 := asd (hk.blk B9.out N9_g.out (by simp [Value.ownBlock]) (by simp [Value.ownBlock]))
    replace B5 := asd (hk.blk B5.out N5_g.out (by simp [Value.ownBlock]) (by simp [Value.ownBlock]))
    clear hs hk
    refine hK_.out _ _ ⟨(blk_cell B15.out 0).trans rfl, (blk_cell B9.out 0).trans rfl, (by have q := H.out.c0; simp only [Rs.fls] at q; exact q), (by have q := H.out.c1; simp only [Rs.fls] at q; exact q), (by have q := H.out.c3; simp only [Rs.fls] at q; exact q), (by have q := H.out.c13; simp only [Rs.fls] at q; exact q)⟩ (fun hHeld => ?_)
    clear hK_ K_
    refine pi 14 55 34 32767 ?_
    refine pi 15 56 34 65535 ?_
    refine pi 16 57 34 131071 ?_
    refine ti 17 58 34 262143 hHeld ?_
    refine pi 18 59 34 524287 ?_
    refine pi 19 60 34 1048575 ?_
    refine pi 20 61 34 2097151 ?_
    refine ti 21 62 34 4194303 hHeld ?_
    refine pi 22 63 34 8388607 ?_
    refine pi 23 64 34 16777215 ?_
    refine pi 24 65 34 33554431 ?_
    refine pw (i := 25) (N := some 66) (fb 34 67108863) ?_
    refine pw (i := 26) (N := some 67) (fb 34 134217727) ?_
    refine pw (i := 27) (N := some 68) (fb 34 268435455) ?_
    refine pw (i := 28) (N := some 69) (fb 34 536870911) ?_
    refine pw (i := 29) (N := some 70) (fb 34 1073741823) ?_
    refine pw (i := 30) (N := some 71) (fb 34 2147483647) ?_
    refine pw (i := 31) (N := some 72) (fb 34 4294967295) ?_
    refine pi 32 73 34 8589934591 ?_
    refine pi 33 40 34 17179869183 ?_
    refine done_ (by kernel_rfl) ?_
    go_wp2
    first | go_end0 | go_ret | ((try simp only [Exit.inBlock, Exit.then]); refine bodyPost_ret (results_none rfl _ _ _) rfl ?_)
    exact ⟨rfl, ⟨_, _, H.out⟩, K.out⟩
   have c2a : (s.ph == 2) = false := beq_eq_false_iff_ne.mpr c2
   rw [if_neg c2] at hf
   obtain rfl := Option.some.inj hf
   clear hf
   go_wp2
   go_region
   replace B10 := asd (blk_drew B10.out)
   replace B11 := asd (blk_drew B11.out)
   replace B15 := asd (blk_drew B15.out)
   replace B8 := asd (blk_drew B8.out)
   replace B9 := asd (blk_drew B9.out)
   replace B5 := asd (blk_drew B5.out)
   replace H := asd (H.out.drew)
   replace K := asd (K.out.drew)
   clear hb15 hc1 hf1
   generalize (wd3).drew = wd4 at B10 B11 B15 B8 B9 B5 H K ⊢
   go_wp2
   first | go_end0 | go_ret | ((try simp only [Exit.inBlock, Exit.then]); refine bodyPost_ret (results_none rfl _ _ _) rfl ?_)
   exact ⟨rfl, ⟨_, _, H.out⟩, K.out⟩
  have c5a : (r5 != 0) = true := bne_iff_ne.mpr c5
  have hf := HF.out
  rw [if_neg (by decide), if_neg c5] at hf
  obtain rfl := Option.some.inj hf
  clear HF hf
  go_region
  replace B10 := asd (blk_drew B10.out)
  replace B11 := asd (blk_drew B11.out)
  replace B15 := asd (blk_drew B15.out)
  replace B8 := asd (blk_drew B8.out)
  replace B9 := asd (blk_drew B9.out)
  replace B5 := asd (blk_drew B5.out)
  replace H := asd (H.out.drew)
  replace K := asd (K.out.drew)
  clear hb11 hb15 hb5 hc0 hf0
  generalize (wy0).drew = wd3 at B10 B11 B15 B8 B9 B5 H K ⊢
  go_wp2
  first | go_end0 | go_ret | ((try simp only [Exit.inBlock, Exit.then]); refine bodyPost_ret (results_none rfl _ _ _) rfl ?_)
  exact ⟨rfl, ⟨_, _, H.out⟩, K.out⟩

/-- A node hears. -/
def node_Hear.f (k : Nat) (m0 m1 m2 m3 m4 n_id n_ph n_sl n_st n_op n_od n_orr n_co n_me n_tg n_tb : Int) (l : List Int) (n_se : Bool) (n_ve now began : Int) (lb : List Int) (bad : Bool) : Option (Int × Int × Int × Int × Int × Int × Int × Int × Int × Int × Int × List Int × Bool × Int × List S66 × Int) := (node_begin.f k m0 m1 m2 m3 m4 n_id n_ph n_sl n_st n_op n_od n_orr n_co n_me n_tg n_tb n_ve n_se l now).bind fun e_ =>
 if began < 0 ∨ now < began then some (nodeTold { { (⟨n_id, n_ph, n_sl, n_st, n_op, n_od, n_orr, n_co, n_me, n_tg, n_tb, l, n_se, n_ve, m0, m1, m2, m3, m4, [], 0⟩ : Rs) with er := e_ } with er := 1 } { { (⟨n_id, n_ph, n_sl, n_st, n_op, n_od, n_orr, n_co, n_me, n_tg, n_tb, l, n_se, n_ve, m0, m1, m2, m3, m4, [], 0⟩ : Rs) with er := e_ } with er := 1 }) else
 (if e_ = 0 then node_hears.f k { (⟨n_id, n_ph, n_sl, n_st, n_op, n_od, n_orr, n_co, n_me, n_tg, n_tb, l, n_se, n_ve, m0, m1, m2, m3, m4, [], 0⟩ : Rs) with er := e_ } now began lb bad else some { (⟨n_id, n_ph, n_sl, n_st, n_op, n_od, n_orr, n_co, n_me, n_tg, n_tb, l, n_se, n_ve, m0, m1, m2, m3, m4, [], 0⟩ : Rs) with er := e_ }).bind fun s2 => some (nodeTold { (⟨n_id, n_ph, n_sl, n_st, n_op, n_od, n_orr, n_co, n_me, n_tg, n_tb, l, n_se, n_ve, m0, m1, m2, m3, m4, [], 0⟩ : Rs) with er := e_ } s2)
theorem node_Hear.calls (k : Nat) (m0 m1 m2 m3 m4 n_id n_ph n_sl n_st n_op n_od n_orr n_co n_me n_tg n_tb : Int) (A : Option Addr) (c : Nat) (l : List Int) (n_se : Bool) (n_ve now began : Int) (Ab : Option Addr) (cb : Nat) (lb : List Int) (bad : Bool) (r1 r2 r3 r4 r5 r6 r7 r8 r9 r10 r11 : Int) (r12 : List Int) (r13 : Bool) (r14 : Int) (r15 : List S66) (r16 : Int) (w : World) (hr : Kd.C (Kd.int .i64) w A l.length l) (hc : l.length ≤ c) (hrb : Kd.C (Kd.int .u8) w Ab lb.length lb) (hcb : lb.length ≤ cb) (h : node_Hear.f k m0 m1 m2 m3 m4 n_id n_ph n_sl n_st n_op n_od n_orr n_co n_me n_tg n_tb l n_se n_ve now began lb bad = some (r1, r2, r3, r4, r5, r6, r7, r8, r9, r10, r11, r12, r13, r14, r15, r16)) :
  Calls Tryz.prog 10 #[.agg #[.int .i64 m0, .int .i64 m1, .int .i64 m2, .int .i64 m3, .int .i64 m4], .agg #[.int .i64 n_id, .int .i64 n_ph, .int .u64 n_sl, .int .i64 n_st, .int .i64 n_op, .int .i64 n_od, .int .i64 n_orr, .int .i64 n_co, .int .u16 n_me, .int .i64 n_tg, .int .i64 n_tb, .slice A l.length c, .bool n_se, .int .i64 n_ve], .int .i64 now, .int .i64 began, .slice Ab lb.length cb, .bool bad] w fun e w' => ∃ v11_ v14_ : Value, e = .returned (.tuple #[.agg #[.int .i64 r1, .int .i64 r2, .int .u64 r3, .int .i64 r4, .int .i64 r5, .int .i64 r6, .int .i64 r7, .int .i64 r8, .int .u16 r9, .int .i64 r10, .int .i64 r11, v11_, .bool r13, .int .i64 r14], v14_, .int .i64 r16]) ∧ Kd.R (Kd.int .i64) 2 w' w.heap.size (fun _ => True) v11_ r12 ∧ Kd.R k66 66 w' w.heap.size (fun _ => True) v14_ r15 ∧ Below w.heap.size w w' := by
 unfold node_Hear.f at h
 obtain ⟨e_, A1, h⟩ := Option.bind_eq_some_iff.mp h
 have HA := asd A1
 have HR := asd hr
 have HC := asd hc
 have HRb := asd hrb
 have HCb := asd hcb
 have HLN := asd (show l.length < 17592186044416 from node_begin_len A1)
 have HB := asd (Below.refl w.heap.size w)
 have W0 := asd (Below.refl w.heap.size w)
 have hmf : ∀ fn first cap w, (Instr.makeFunc fn first cap).run Tryz.prog w = .ok (.func fn first cap) w := fun _ _ _ _ => rfl
 clear hr hc hrb hcb A1
 go_enter Tryz.func10, Tryz.ntmps10
 go_upto_region 2 with (first | (refine bG 6 #[.int .i64 m0, .int .i64 m1, .int .i64 m2, .int .i64 m3, .int .i64 m4] 23 ?_; intro gb6 hg wx1 B6 hb; have G6 := asd (by rw [hg]; exact HB.out.size : w.heap.size ≤ gb6); replace HB := asd (below_step HB.out hb); clear hb hg; have hb6 := ca5 B6) | (refine bG 7 #[.int .i64 n_id, .int .i64 n_ph, .int .u64 n_sl, .int .i64 n_st, .int .i64 n_op, .int .i64 n_od, .int .i64 n_orr, .int .i64 n_co, .int .u16 n_me, .int .i64 n_tg, .int .i64 n_tb, .slice A l.length c, .bool n_se, .int .i64 n_ve] 32 ?_; intro gb7 hg wx2 B7 hb; have G7 := asd (by rw [hg]; exact HB.out.size : w.heap.size ≤ gb7); have N7_6 := asd (by rw [hg]; exact Nat.ne_of_gt (blk_lt B6.out) : gb7 ≠ gb6); replace HB := asd (below_step HB.out hb); replace B6 := asd (blk_below B6.out hb); clear hb hg hb6; have hb6 := ca5 B6; have hb7 := facts14 B7.out) | (refine bG 8 #[.int .i64 now] 2 ?_; intro gb8 hg wx3 B8 hb; have G8 := asd (by rw [hg]; exact HB.out.size : w.heap.size ≤ gb8); have N8_6 := asd (by rw [hg]; exact Nat.ne_of_gt (blk_lt B6.out) : gb8 ≠ gb6); have N8_7 := asd (by rw [hg]; exact Nat.ne_of_gt (blk_lt B7.out) : gb8 ≠ gb7); replace HB := asd (below_step HB.out hb); replace B6 := asd (blk_below B6.out hb); replace B7 := asd (blk_below B7.out hb); clear hb hg hb6 hb7; have hb6 := ca5 B6; have hb7 := facts14 B7.out; have hb8 := ca1 B8) | (refine bG 9 #[.int .i64 began] 2 ?_; intro gb9 hg wx4 B9 hb; have G9 := asd (by rw [hg]; exact HB.out.size : w.heap.size ≤ gb9); have N9_6 := asd (by rw [hg]; exact Nat.ne_of_gt (blk_lt B6.out) : gb9 ≠ gb6); have N9_7 := asd (by rw [hg]; exact Nat.ne_of_gt (blk_lt B7.out) : gb9 ≠ gb7); have N9_8 := asd (by rw [hg]; exact Nat.ne_of_gt (blk_lt B8.out) : gb9 ≠ gb8); replace HB := asd (below_step HB.out hb); replace B6 := asd (blk_below B6.out hb); replace B7 := asd (blk_below B7.out hb); replace B8 := asd (blk_below B8.out hb); clear hb hg hb6 hb7 hb8; have hb6 := ca5 B6; have hb7 := facts14 B7.out; have hb8 := ca1 B8) | (refine bG 10 #[.slice Ab lb.length cb] 33 ?_; intro gb10 hg wx5 B10 hb; have G10 := asd (by rw [hg]; exact HB.out.size : w.heap.size ≤ gb10); have N10_6 := asd (by rw [hg]; exact Nat.ne_of_gt (blk_lt B6.out) : gb10 ≠ gb6); have N10_7 := asd (by rw [hg]; exact Nat.ne_of_gt (blk_lt B7.out) : gb10 ≠ gb7); have N10_8 := asd (by rw [hg]; exact Nat.ne_of_gt (blk_lt B8.out) : gb10 ≠ gb8); have N10_9 := asd (by rw [hg]; exact Nat.ne_of_gt (blk_lt B9.out) : gb10 ≠ gb9); replace HB := asd (below_step HB.out hb); replace B6 := asd (blk_below B6.out hb); replace B7 := asd (blk_below B7.out hb); replace B8 := asd (blk_below B8.out hb); replace B9 := asd (blk_below B9.out hb); clear hb hg hb6 hb7 hb8; have hb6 := ca5 B6; have hb7 := facts14 B7.out; have hb8 := ca1 B8) | (refine bG 11 #[.bool bad] 4 ?_; intro gb11 hg wx6 B11 hb; have G11 := asd (by rw [hg]; exact HB.out.size : w.heap.size ≤ gb11); have N11_6 := asd (by rw [hg]; exact Nat.ne_of_gt (blk_lt B6.out) : gb11 ≠ gb6); have N11_7 := asd (by rw [hg]; exact Nat.ne_of_gt (blk_lt B7.out) : gb11 ≠ gb7); have N11_8 := asd (by rw [hg]; exact Nat.ne_of_gt (blk_lt B8.out) : gb11 ≠ gb8); have N11_9 := asd (by rw [hg]; exact Nat.ne_of_gt (blk_lt B9.out) : gb11 ≠ gb9); have N11_10 := asd (by rw [hg]; exact Nat.ne_of_gt (blk_lt B10.out) : gb11 ≠ gb10); replace HB := asd (below_step HB.out hb); replace B6 := asd (blk_below B6.out hb); replace B7 := asd (blk_below B7.out hb); replace B8 := asd (blk_below B8.out hb); replace B9 := asd (blk_below B9.out hb); replace B10 := asd (blk_below B10.out hb); clear hb hg hb6 hb7 hb8; have hb6 := ca5 B6; have hb7 := facts14 B7.out; have hb8 := ca1 B8) | (refine bG 12 #[.int .i64 0, .int .i64 0, .int .u64 0, .int .i64 0, .int .i64 0, .int .i64 0, .int .i64 0, .int .i64 0, .int .u16 0, .int .i64 0, .int .i64 0, .slice none 0 0, .bool false, .int .i64 0] 32 ?_; intro gb12 hg wx7 B12 hb; have G12 := asd (by rw [hg]; exact HB.out.size : w.heap.size ≤ gb12); have N12_6 := asd (by rw [hg]; exact Nat.ne_of_gt (blk_lt B6.out) : gb12 ≠ gb6); have N12_7 := asd (by rw [hg]; exact Nat.ne_of_gt (blk_lt B7.out) : gb12 ≠ gb7); have N12_8 := asd (by rw [hg]; exact Nat.ne_of_gt (blk_lt B8.out) : gb12 ≠ gb8); have N12_9 := asd (by rw [hg]; exact Nat.ne_of_gt (blk_lt B9.out) : gb12 ≠ gb9); have N12_10 := asd (by rw [hg]; exact Nat.ne_of_gt (blk_lt B10.out) : gb12 ≠ gb10); have N12_11 := asd (by rw [hg]; exact Nat.ne_of_gt (blk_lt B11.out) : gb12 ≠ gb11); replace HB := asd (below_step HB.out hb); replace B6 := asd (blk_below B6.out hb); replace B7 := asd (blk_below B7.out hb); replace B8 := asd (blk_below B8.out hb); replace B9 := asd (blk_below B9.out hb); replace B10 := asd (blk_below B10.out hb); replace B11 := asd (blk_below B11.out hb); clear hb hg hb6 hb7 hb8; have hb6 := ca5 B6; have hb7 := facts14 B7.out; have hb8 := ca1 B8) | ((with_reducible refine gate_callee (f := 36) rfl ?_); refine gC (some 19) Tryz.func36 (node_begin.calls k m0 m1 m2 m3 m4 n_id n_ph n_sl n_st n_op n_od n_orr n_co n_me n_tg n_tb n_ve n_se A c l now e_ w _ HB (Kd.C_below HR.out HB.out) HC.out HLN.out HA.out) ?_; rintro e wx8 ⟨g, dv, rfl, hs, hgs, hds, hb⟩; refine ⟨_, rfl, ?_⟩; have N6_g := asd (fun e => absurd (blk_lt B6.out) (by rw [e]; omega) : gb6 ≠ g); have N7_g := asd (fun e => absurd (blk_lt B7.out) (by rw [e]; omega) : gb7 ≠ g); have N8_g := asd (fun e => absurd (blk_lt B8.out) (by rw [e]; omega) : gb8 ≠ g); have N9_g := asd (fun e => absurd (blk_lt B9.out) (by rw [e]; omega) : gb9 ≠ g); have N10_g := asd (fun e => absurd (blk_lt B10.out) (by rw [e]; omega) : gb10 ≠ g); have N11_g := asd (fun e => absurd (blk_lt B11.out) (by rw [e]; omega) : gb11 ≠ g); have N12_g := asd (fun e => absurd (blk_lt B12.out) (by rw [e]; omega) : gb12 ≠ g); replace HB := asd (below_step HB.out hb); replace B6 := asd (blk_below B6.out hb); replace B7 := asd (blk_below B7.out hb); replace B8 := asd (blk_below B8.out hb); replace B9 := asd (blk_below B9.out hb); replace B10 := asd (blk_below B10.out hb); replace B11 := asd (blk_below B11.out hb); replace B12 := asd (blk_below B12.out hb); have H := asd hs; clear hs hgs hds hb hb6 hb7 hb8) | (refine bG 15 #[.pointer none] 74 ?_; intro gb15 hg wx9 B15 hb; have G15 := asd (by rw [hg]; exact HB.out.size : w.heap.size ≤ gb15); have N15_6 := asd (by rw [hg]; exact Nat.ne_of_gt (blk_lt B6.out) : gb15 ≠ gb6); have N15_7 := asd (by rw [hg]; exact Nat.ne_of_gt (blk_lt B7.out) : gb15 ≠ gb7); have N15_8 := asd (by rw [hg]; exact Nat.ne_of_gt (blk_lt B8.out) : gb15 ≠ gb8); have N15_9 := asd (by rw [hg]; exact Nat.ne_of_gt (blk_lt B9.out) : gb15 ≠ gb9); have N15_10 := asd (by rw [hg]; exact Nat.ne_of_gt (blk_lt B10.out) : gb15 ≠ gb10); have N15_11 := asd (by rw [hg]; exact Nat.ne_of_gt (blk_lt B11.out) : gb15 ≠ gb11); have N15_12 := asd (by rw [hg]; exact Nat.ne_of_gt (blk_lt B12.out) : gb15 ≠ gb12); have N15_g := asd (by rw [hg]; exact Nat.ne_of_gt (blk_lt H.out.b) : gb15 ≠ g); replace HB := asd (below_step HB.out hb); replace B6 := asd (blk_below B6.out hb); replace B7 := asd (blk_below B7.out hb); replace B8 := asd (blk_below B8.out hb); replace B9 := asd (blk_below B9.out hb); replace B10 := asd (blk_below B10.out hb); replace B11 := asd (blk_below B11.out hb); replace B12 := asd (blk_below B12.out hb); replace H := asd (H.out.below hb); clear hb hg; have hb15 := ca1 B15; have hb8 := ca1 B8; have hb9 := ca1 B9; have hc20 : wx9.cell? ⟨g, 20, none⟩ = some (.int .i64 e_) := (by have q := H.out.c20; (try simp only [Rs.fls] at q); exact q); have hf20 := H.out.fz 20; have hne8 : gb8 ≠ gb15 := N15_8.out.symm; have hne9 : gb9 ≠ gb15 := N15_9.out.symm; have hneg : g ≠ gb15 := N15_g.out.symm; have hneg2 : gb15 ≠ g := N15_g.out))
 by_cases c1 : began < 0
 ·have c1a : decide (began < 0) = true := decide_eq_true c1
  rw [if_pos (Or.inl c1)] at h
  obtain ⟨s2, hs2⟩ : ∃ s2 : Rs, s2 = { { (⟨n_id, n_ph, n_sl, n_st, n_op, n_od, n_orr, n_co, n_me, n_tg, n_tb, l, n_se, n_ve, m0, m1, m2, m3, m4, [], 0⟩ : Rs) with er := e_ } with er := 1 } := ⟨_, rfl⟩
  have h : nodeTold { { (⟨n_id, n_ph, n_sl, n_st, n_op, n_od, n_orr, n_co, n_me, n_tg, n_tb, l, n_se, n_ve, m0, m1, m2, m3, m4, [], 0⟩ : Rs) with er := e_ } with er := 1 } s2 = (r1, r2, r3, r4, r5, r6, r7, r8, r9, r10, r11, r12, r13, r14, r15, r16) := by rw [hs2]; exact Option.some.inj h
  have HN := asd (show ({ { (⟨n_id, n_ph, n_sl, n_st, n_op, n_od, n_orr, n_co, n_me, n_tg, n_tb, l, n_se, n_ve, m0, m1, m2, m3, m4, [], 0⟩ : Rs) with er := e_ } with er := 1 } : Rs).er ≠ 0 → s2 = { { (⟨n_id, n_ph, n_sl, n_st, n_op, n_od, n_orr, n_co, n_me, n_tg, n_tb, l, n_se, n_ve, m0, m1, m2, m3, m4, [], 0⟩ : Rs) with er := e_ } with er := 1 } from fun hn => hs2)
  have HE := asd h
  clear h hs2
  go_wp2_with (first | ((with_reducible refine gate_callee (f := 37) rfl ?_); refine gL (some 32) Tryz.func37 #[.pointer (some ⟨g, 0, none⟩), .func (.func 38) #[] #[.pointer (some ⟨gb10, 0, none⟩), .pointer (some ⟨gb11, 0, none⟩), .pointer (some ⟨gb15, 0, none⟩), .pointer (some ⟨gb8, 0, none⟩), .pointer (some ⟨gb9, 0, none⟩)]] ?_; have q_ := ((Wr.refl gb15 wx9).set 0 (.pointer (some ⟨g, 0, none⟩))); replace B6 := asd (q_.blk B6.out N15_6.out.symm); replace B7 := asd (q_.blk B7.out N15_7.out.symm); replace B8 := asd (q_.blk B8.out N15_8.out.symm); replace B9 := asd (q_.blk B9.out N15_9.out.symm); replace B10 := asd (q_.blk B10.out N15_10.out.symm); replace B11 := asd (q_.blk B11.out N15_11.out.symm); replace B12 := asd (q_.blk B12.out N15_12.out.symm); replace HB := asd (HB.out.trans (q_.be _ G15.out)); replace H := asd (q_.run B15.out (by decide) (by decide) (by decide) (Nat.le_trans W0.out.size G15.out) H.out); replace B15 := asd (show (World.heap _)[gb15]? = some (Obj.cells #[.pointer (some ⟨g, 0, none⟩)] 74 (0, 0)) from (blk_put (cs := #[.pointer none]) B15.out 0 (.pointer (some ⟨g, 0, none⟩)) rfl)); clear q_; have q_ := (Wr.refl g (wx9.setCell ⟨gb15, 0, none⟩ (.pointer (some ⟨g, 0, none⟩)))).set 20 (.int .i64 1); replace B6 := asd (q_.blk B6.out N6_g.out); replace B7 := asd (q_.blk B7.out N7_g.out); replace B8 := asd (q_.blk B8.out N8_g.out); replace B9 := asd (q_.blk B9.out N9_g.out); replace B10 := asd (q_.blk B10.out N10_g.out); replace B11 := asd (q_.blk B11.out N11_g.out); replace B12 := asd (q_.blk B12.out N12_g.out); replace B15 := asd (q_.blk B15.out N15_g.out); replace HB := asd (HB.out.trans (q_.be _ H.out.ge)); replace H := asd (H.out.s20 1); clear q_; refine (node_do.calls 38 Tryz.f38 #[.pointer (some ⟨gb10, 0, none⟩), .pointer (some ⟨gb11, 0, none⟩), .pointer (some ⟨gb15, 0, none⟩), .pointer (some ⟨gb8, 0, none⟩), .pointer (some ⟨gb9, 0, none⟩)] Tryz.func38 (by kernel_rfl) rfl g { { (⟨n_id, n_ph, n_sl, n_st, n_op, n_od, n_orr, n_co, n_me, n_tg, n_tb, l, n_se, n_ve, m0, m1, m2, m3, m4, [], 0⟩ : Rs) with er := e_ } with er := 1 } s2 dv (.slice none 0 0) w _ H.out HLN.out HN.out (fun c_ _ _ => absurd (show (1 : Int) = 0 from c_) (by decide))).mono ?_; rintro e wx10 hD; obtain ⟨sr, hsr, nv, av2, rfl, hnv, hav, hbl, hkr⟩ := hD.one; refine ⟨_, rfl, ?_⟩; have SR := hsr; have nB12 := asd (hkr.blk B12.out N12_g.out (Kd.R_ne H.out.d B12.out (by decide)) (by simp [Value.ownBlock])); clear H HB B6 B7 B8 B9 B10 B11 B12 B15; have B12 := nB12; have HB := asd hbl; have RN := asd hnv; have RA := asd hav; clear nB12 hD hsr hnv hav hbl hkr; obtain ⟨An, cn, ed⟩ := Kd.R_slice RN.out; subst ed; clear hb15 hb8 hb9 hc20 hf20; have hb12 := facts14 B12.out))
  have q_ := (((((((((((((((Wr.refl gb12 wx10).set 0 (.int .i64 sr.id)).set 1 (.int .i64 sr.ph)).set 2 (.int .u64 sr.sl)).set 3 (.int .i64 sr.st)).set 4 (.int .i64 sr.op)).set 5 (.int .i64 sr.od)).set 6 (.int .i64 sr.orr)).set 7 (.int .i64 sr.co)).set 8 (.int .u16 sr.me)).set 9 (.int .i64 sr.tg)).set 10 (.int .i64 sr.tb)).set 11 (.slice An sr.ds.length cn)).set 12 (.bool sr.se)).set 13 (.int .i64 sr.ve))
  replace HB := asd (HB.out.trans (q_.be _ G12.out))
  replace RN := asd (q_.row B12.out (by decide) RN.out)
  replace RA := asd (q_.row B12.out (by decide) RA.out)
  replace B12 := asd (blk14 (.int .i64 sr.id) (.int .i64 sr.ph) (.int .u64 sr.sl) (.int .i64 sr.st) (.int .i64 sr.op) (.int .i64 sr.od) (.int .i64 sr.orr) (.int .i64 sr.co) (.int .u16 sr.me) (.int .i64 sr.tg) (.int .i64 sr.tb) (.slice An sr.ds.length cn) (.bool sr.se) (.int .i64 sr.ve) B12.out)
  clear q_
  have E : nodeTold { { (⟨n_id, n_ph, n_sl, n_st, n_op, n_od, n_orr, n_co, n_me, n_tg, n_tb, l, n_se, n_ve, m0, m1, m2, m3, m4, [], 0⟩ : Rs) with er := e_ } with er := 1 } s2 = (r1, r2, r3, r4, r5, r6, r7, r8, r9, r10, r11, r12, r13, r14, r15, r16) := HE.out
  unfold nodeTold at E
  simp only [← SR.out, Prod.mk.injEq] at E
  obtain ⟨rfl, rfl, rfl, rfl, rfl, rfl, rfl, rfl, rfl, rfl, rfl, rfl, rfl, rfl, rfl, rfl⟩ := E
  refine bodyPost_ret (results_ctt rfl _ _ gb12 32 #[.int .i64 sr.id, .int .i64 sr.ph, .int .u64 sr.sl, .int .i64 sr.st, .int .i64 sr.op, .int .i64 sr.od, .int .i64 sr.orr, .int .i64 sr.co, .int .u16 sr.me, .int .i64 sr.tg, .int .i64 sr.tb, .slice An sr.ds.length cn, .bool sr.se, .int .i64 sr.ve] (0, 0) _ rfl B12.out Tryz.underlying32 rfl (by kernel_rfl)) rfl ?_
  exact ⟨_, _, rfl, RN.out, RA.out, HB.out⟩
 have c1a : decide (began < 0) = false := decide_eq_false c1
 by_cases c2 : now < began
 ·have c2a : decide (now < began) = true := decide_eq_true c2
  rw [if_pos (Or.inr c2)] at h
  obtain ⟨s2, hs2⟩ : ∃ s2 : Rs, s2 = { { (⟨n_id, n_ph, n_sl, n_st, n_op, n_od, n_orr, n_co, n_me, n_tg, n_tb, l, n_se, n_ve, m0, m1, m2, m3, m4, [], 0⟩ : Rs) with er := e_ } with er := 1 } := ⟨_, rfl⟩
  have h : nodeTold { { (⟨n_id, n_ph, n_sl, n_st, n_op, n_od, n_orr, n_co, n_me, n_tg, n_tb, l, n_se, n_ve, m0, m1, m2, m3, m4, [], 0⟩ : Rs) with er := e_ } with er := 1 } s2 = (r1, r2, r3, r4, r5, r6, r7, r8, r9, r10, r11, r12, r13, r14, r15, r16) := by rw [hs2]; exact Option.some.inj h
  have HN := asd (show ({ { (⟨n_id, n_ph, n_sl, n_st, n_op, n_od, n_orr, n_co, n_me, n_tg, n_tb, l, n_se, n_ve, m0, m1, m2, m3, m4, [], 0⟩ : Rs) with er := e_ } with er := 1 } : Rs).er ≠ 0 → s2 = { { (⟨n_id, n_ph, n_sl, n_st, n_op, n_od, n_orr, n_co, n_me, n_tg, n_tb, l, n_se, n_ve, m0, m1, m2, m3, m4, [], 0⟩ : Rs) with er := e_ } with er := 1 } from fun hn => hs2)
  have HE := asd h
  clear h hs2
  go_wp2_with (first | ((with_reducible refine gate_callee (f := 37) rfl ?_); refine gL (some 32) Tryz.func37 #[.pointer (some ⟨g, 0, none⟩), .func (.func 38) #[] #[.pointer (some ⟨gb10, 0, none⟩), .pointer (some ⟨gb11, 0, none⟩), .pointer (some ⟨gb15, 0, none⟩), .pointer (some ⟨gb8, 0, none⟩), .pointer (some ⟨gb9, 0, none⟩)]] ?_; have q_ := ((Wr.refl gb15 wx9).set 0 (.pointer (some ⟨g, 0, none⟩))); replace B6 := asd (q_.blk B6.out N15_6.out.symm); replace B7 := asd (q_.blk B7.out N15_7.out.symm); replace B8 := asd (q_.blk B8.out N15_8.out.symm); replace B9 := asd (q_.blk B9.out N15_9.out.symm); replace B10 := asd (q_.blk B10.out N15_10.out.symm); replace B11 := asd (q_.blk B11.out N15_11.out.symm); replace B12 := asd (q_.blk B12.out N15_12.out.symm); replace HB := asd (HB.out.trans (q_.be _ G15.out)); replace H := asd (q_.run B15.out (by decide) (by decide) (by decide) (Nat.le_trans W0.out.size G15.out) H.out); replace B15 := asd (show (World.heap _)[gb15]? = some (Obj.cells #[.pointer (some ⟨g, 0, none⟩)] 74 (0, 0)) from (blk_put (cs := #[.pointer none]) B15.out 0 (.pointer (some ⟨g, 0, none⟩)) rfl)); clear q_; have q_ := (Wr.refl g (wx9.setCell ⟨gb15, 0, none⟩ (.pointer (some ⟨g, 0, none⟩)))).set 20 (.int .i64 1); replace B6 := asd (q_.blk B6.out N6_g.out); replace B7 := asd (q_.blk B7.out N7_g.out); replace B8 := asd (q_.blk B8.out N8_g.out); replace B9 := asd (q_.blk B9.out N9_g.out); replace B10 := asd (q_.blk B10.out N10_g.out); replace B11 := asd (q_.blk B11.out N11_g.out); replace B12 := asd (q_.blk B12.out N12_g.out); replace B15 := asd (q_.blk B15.out N15_g.out); replace HB := asd (HB.out.trans (q_.be _ H.out.ge)); replace H := asd (H.out.s20 1); clear q_; refine (node_do.calls 38 Tryz.f38 #[.pointer (some ⟨gb10, 0, none⟩), .pointer (some ⟨gb11, 0, none⟩), .pointer (some ⟨gb15, 0, none⟩), .pointer (some ⟨gb8, 0, none⟩), .pointer (some ⟨gb9, 0, none⟩)] Tryz.func38 (by kernel_rfl) rfl g { { (⟨n_id, n_ph, n_sl, n_st, n_op, n_od, n_orr, n_co, n_me, n_tg, n_tb, l, n_se, n_ve, m0, m1, m2, m3, m4, [], 0⟩ : Rs) with er := e_ } with er := 1 } s2 dv (.slice none 0 0) w _ H.out HLN.out HN.out (fun c_ _ _ => absurd (show (1 : Int) = 0 from c_) (by decide))).mono ?_; rintro e wx10 hD; obtain ⟨sr, hsr, nv, av2, rfl, hnv, hav, hbl, hkr⟩ := hD.one; refine ⟨_, rfl, ?_⟩; have SR := hsr; have nB12 := asd (hkr.blk B12.out N12_g.out (Kd.R_ne H.out.d B12.out (by decide)) (by simp [Value.ownBlock])); clear H HB B6 B7 B8 B9 B10 B11 B12 B15; have B12 := nB12; have HB := asd hbl; have RN := asd hnv; have RA := asd hav; clear nB12 hD hsr hnv hav hbl hkr; obtain ⟨An, cn, ed⟩ := Kd.R_slice RN.out; subst ed; clear hb15 hb8 hb9 hc20 hf20; have hb12 := facts14 B12.out))
  have q_ := (((((((((((((((Wr.refl gb12 wx10).set 0 (.int .i64 sr.id)).set 1 (.int .i64 sr.ph)).set 2 (.int .u64 sr.sl)).set 3 (.int .i64 sr.st)).set 4 (.int .i64 sr.op)).set 5 (.int .i64 sr.od)).set 6 (.int .i64 sr.orr)).set 7 (.int .i64 sr.co)).set 8 (.int .u16 sr.me)).set 9 (.int .i64 sr.tg)).set 10 (.int .i64 sr.tb)).set 11 (.slice An sr.ds.length cn)).set 12 (.bool sr.se)).set 13 (.int .i64 sr.ve))
  replace HB := asd (HB.out.trans (q_.be _ G12.out))
  replace RN := asd (q_.row B12.out (by decide) RN.out)
  replace RA := asd (q_.row B12.out (by decide) RA.out)
  replace B12 := asd (blk14 (.int .i64 sr.id) (.int .i64 sr.ph) (.int .u64 sr.sl) (.int .i64 sr.st) (.int .i64 sr.op) (.int .i64 sr.od) (.int .i64 sr.orr) (.int .i64 sr.co) (.int .u16 sr.me) (.int .i64 sr.tg) (.int .i64 sr.tb) (.slice An sr.ds.length cn) (.bool sr.se) (.int .i64 sr.ve) B12.out)
  clear q_
  have E : nodeTold { { (⟨n_id, n_ph, n_sl, n_st, n_op, n_od, n_orr, n_co, n_me, n_tg, n_tb, l, n_se, n_ve, m0, m1, m2, m3, m4, [], 0⟩ : Rs) with er := e_ } with er := 1 } s2 = (r1, r2, r3, r4, r5, r6, r7, r8, r9, r10, r11, r12, r13, r14, r15, r16) := HE.out
  unfold nodeTold at E
  simp only [← SR.out, Prod.mk.injEq] at E
  obtain ⟨rfl, rfl, rfl, rfl, rfl, rfl, rfl, rfl, rfl, rfl, rfl, rfl, rfl, rfl, rfl, rfl⟩ := E
  refine bodyPost_ret (results_ctt rfl _ _ gb12 32 #[.int .i64 sr.id, .int .i64 sr.ph, .int .u64 sr.sl, .int .i64 sr.st, .int .i64 sr.op, .int .i64 sr.od, .int .i64 sr.orr, .int .i64 sr.co, .int .u16 sr.me, .int .i64 sr.tg, .int .i64 sr.tb, .slice An sr.ds.length cn, .bool sr.se, .int .i64 sr.ve] (0, 0) _ rfl B12.out Tryz.underlying32 rfl (by kernel_rfl)) rfl ?_
  exact ⟨_, _, rfl, RN.out, RA.out, HB.out⟩
 have c2a : decide (now < began) = false := decide_eq_false c2
 rw [if_neg (fun q => q.elim c1 c2)] at h
 obtain ⟨s2, A2, h⟩ := Option.bind_eq_some_iff.mp h
 have h := Option.some.inj h
 have HN := asd (show ({ (⟨n_id, n_ph, n_sl, n_st, n_op, n_od, n_orr, n_co, n_me, n_tg, n_tb, l, n_se, n_ve, m0, m1, m2, m3, m4, [], 0⟩ : Rs) with er := e_ } : Rs).er ≠ 0 → s2 = { (⟨n_id, n_ph, n_sl, n_st, n_op, n_od, n_orr, n_co, n_me, n_tg, n_tb, l, n_se, n_ve, m0, m1, m2, m3, m4, [], 0⟩ : Rs) with er := e_ } from fun hn => by rw [if_neg hn] at A2; exact (Option.some.inj A2).symm)
 have HF := asd (show ({ (⟨n_id, n_ph, n_sl, n_st, n_op, n_od, n_orr, n_co, n_me, n_tg, n_tb, l, n_se, n_ve, m0, m1, m2, m3, m4, [], 0⟩ : Rs) with er := e_ } : Rs).er = 0 → node_hears.f k { (⟨n_id, n_ph, n_sl, n_st, n_op, n_od, n_orr, n_co, n_me, n_tg, n_tb, l, n_se, n_ve, m0, m1, m2, m3, m4, [], 0⟩ : Rs) with er := e_ } now began lb bad = some s2 from fun hn => by rw [if_pos hn] at A2; exact A2)
 have HE := asd h
 clear h A2
 go_wp2_with (first | ((with_reducible refine gate_callee (f := 37) rfl ?_); refine gL (some 32) Tryz.func37 #[.pointer (some ⟨g, 0, none⟩), .func (.func 38) #[] #[.pointer (some ⟨gb10, 0, none⟩), .pointer (some ⟨gb11, 0, none⟩), .pointer (some ⟨gb15, 0, none⟩), .pointer (some ⟨gb8, 0, none⟩), .pointer (some ⟨gb9, 0, none⟩)]] ?_; have q_ := ((Wr.refl gb15 wx9).set 0 (.pointer (some ⟨g, 0, none⟩))); replace B6 := asd (q_.blk B6.out N15_6.out.symm); replace B7 := asd (q_.blk B7.out N15_7.out.symm); replace B8 := asd (q_.blk B8.out N15_8.out.symm); replace B9 := asd (q_.blk B9.out N15_9.out.symm); replace B10 := asd (q_.blk B10.out N15_10.out.symm); replace B11 := asd (q_.blk B11.out N15_11.out.symm); replace B12 := asd (q_.blk B12.out N15_12.out.symm); replace HB := asd (HB.out.trans (q_.be _ G15.out)); replace H := asd (q_.run B15.out (by decide) (by decide) (by decide) (Nat.le_trans W0.out.size G15.out) H.out); replace B15 := asd (show (World.heap _)[gb15]? = some (Obj.cells #[.pointer (some ⟨g, 0, none⟩)] 74 (0, 0)) from (blk_put (cs := #[.pointer none]) B15.out 0 (.pointer (some ⟨g, 0, none⟩)) rfl)); clear q_; refine (node_do.calls 38 Tryz.f38 #[.pointer (some ⟨gb10, 0, none⟩), .pointer (some ⟨gb11, 0, none⟩), .pointer (some ⟨gb15, 0, none⟩), .pointer (some ⟨gb8, 0, none⟩), .pointer (some ⟨gb9, 0, none⟩)] Tryz.func38 (by kernel_rfl) rfl g { (⟨n_id, n_ph, n_sl, n_st, n_op, n_od, n_orr, n_co, n_me, n_tg, n_tb, l, n_se, n_ve, m0, m1, m2, m3, m4, [], 0⟩ : Rs) with er := e_ } s2 dv (.slice none 0 0) w _ H.out HLN.out HN.out (fun c_ w1 hb1 => (node_hears.calls k gb10 gb11 gb15 gb8 gb9 g _ s2 dv (.slice none 0 0) now began Ab cb lb bad w w1 (H.out.below hb1) (blk_below B10.out hb1) (blk_below B11.out hb1) (blk_below B15.out hb1) (blk_below B8.out hb1) (blk_below B9.out hb1) (Kd.C_below HRb.out (below_step HB.out hb1)) HCb.out (HF.out c_)).mono (fun e w2 hq => ⟨hq.1, _, _, hq.2.1.choose_spec.choose_spec, hq.2.2⟩))).mono ?_; rintro e wx10 hD; obtain ⟨sr, hsr, nv, av2, rfl, hnv, hav, hbl, hkr⟩ := hD.one; refine ⟨_, rfl, ?_⟩; have SR := hsr; have nB12 := asd (hkr.blk B12.out N12_g.out (Kd.R_ne H.out.d B12.out (by decide)) (by simp [Value.ownBlock])); clear H HB B6 B7 B8 B9 B10 B11 B12 B15; have B12 := nB12; have HB := asd hbl; have RN := asd hnv; have RA := asd hav; clear nB12 hD hsr hnv hav hbl hkr; obtain ⟨An, cn, ed⟩ := Kd.R_slice RN.out; subst ed; clear hb15 hb8 hb9 hc20 hf20; have hb12 := facts14 B12.out))
 have q_ := (((((((((((((((Wr.refl gb12 wx10).set 0 (.int .i64 sr.id)).set 1 (.int .i64 sr.ph)).set 2 (.int .u64 sr.sl)).set 3 (.int .i64 sr.st)).set 4 (.int .i64 sr.op)).set 5 (.int .i64 sr.od)).set 6 (.int .i64 sr.orr)).set 7 (.int .i64 sr.co)).set 8 (.int .u16 sr.me)).set 9 (.int .i64 sr.tg)).set 10 (.int .i64 sr.tb)).set 11 (.slice An sr.ds.length cn)).set 12 (.bool sr.se)).set 13 (.int .i64 sr.ve))
 replace HB := asd (HB.out.trans (q_.be _ G12.out))
 replace RN := asd (q_.row B12.out (by decide) RN.out)
 replace RA := asd (q_.row B12.out (by decide) RA.out)
 replace B12 := asd (blk14 (.int .i64 sr.id) (.int .i64 sr.ph) (.int .u64 sr.sl) (.int .i64 sr.st) (.int .i64 sr.op) (.int .i64 sr.od) (.int .i64 sr.orr) (.int .i64 sr.co) (.int .u16 sr.me) (.int .i64 sr.tg) (.int .i64 sr.tb) (.slice An sr.ds.length cn) (.bool sr.se) (.int .i64 sr.ve) B12.out)
 clear q_
 have E : nodeTold { (⟨n_id, n_ph, n_sl, n_st, n_op, n_od, n_orr, n_co, n_me, n_tg, n_tb, l, n_se, n_ve, m0, m1, m2, m3, m4, [], 0⟩ : Rs) with er := e_ } s2 = (r1, r2, r3, r4, r5, r6, r7, r8, r9, r10, r11, r12, r13, r14, r15, r16) := HE.out
 unfold nodeTold at E
 simp only [← SR.out, Prod.mk.injEq] at E
 obtain ⟨rfl, rfl, rfl, rfl, rfl, rfl, rfl, rfl, rfl, rfl, rfl, rfl, rfl, rfl, rfl, rfl⟩ := E
 refine bodyPost_ret (results_ctt rfl _ _ gb12 32 #[.int .i64 sr.id, .int .i64 sr.ph, .int .u64 sr.sl, .int .i64 sr.st, .int .i64 sr.op, .int .i64 sr.od, .int .i64 sr.orr, .int .i64 sr.co, .int .u16 sr.me, .int .i64 sr.tg, .int .i64 sr.tb, .slice An sr.ds.length cn, .bool sr.se, .int .i64 sr.ve] (0, 0) _ rfl B12.out Tryz.underlying32 rfl (by kernel_rfl)) rfl ?_
 exact ⟨_, _, rfl, RN.out, RA.out, HB.out⟩



/-! ### palletlaw13_timers: function 18 -/
def palletlaw13_timers.l0 : Nat → List Int → List (S66) → Int → Int → Option (List Int)
 | 0, _, _, _, _ => none
 | k + 1, x3, x6, x7, x8 => if x8 < x7 then (if 0 ≤ x8 then (if x8 < (x6.length : Int) then (if ((rd_T66 x6 x8).f0) = 1 then (if x3.length < 17592186044416 then (palletlaw13_timers.l0 k (x3 ++ [(rd_T66 x6 x8).f1]) x6 x7 (wrap64 (x8 + 1))) else (none)) else (palletlaw13_timers.l0 k x3 x6 x7 (wrap64 (x8 + 1)))) else (none)) else (none)) else (some x3)
def palletlaw13_timers.f (k : Nat) (l0 : List (S66)) : Option (List Int) := palletlaw13_timers.l0 k ([] : List Int) l0 (l0.length : Int) 0
theorem palletlaw13_timers.calls (k : Nat) (A0 : Option Addr) (c0 : Nat) (l0 : List (S66)) (r : List Int) (w : World) (hr0 : Kd.C k66 w A0 l0.length l0) (hc0 : l0.length ≤ c0) (h : palletlaw13_timers.f k l0 = some r) :
  Calls Tryz.prog 18 #[.slice A0 l0.length c0] w fun e w' => ∃ v0_ : Value, e = .returned (v0_) ∧ Kd.R (Kd.int .i64) 2 w' w.heap.size (fun _ => True) v0_ r ∧ Below w.heap.size w w' := by
 have hu66 := Tryz.underlying66
 have HR0 := asd hr0
 have HC0 := asd hc0
 clear hr0 hc0
 have HB := asd (Below.refl w.heap.size w)
 unfold palletlaw13_timers.f at h
 have H := h
 clear h
 have H' := asd H
 clear H
 go_enter Tryz.func18, Tryz.ntmps18
 go_wp2
 go_loopg [3, 8] k (fun kq v3 v8 w' => ∃ (x3_1 : List Int) (x8_1 : Int), v8 = .int .i64 x8_1 ∧ Aside0 (palletlaw13_timers.l0 kq x3_1 l0 (l0.length : Int) x8_1 = some r) ∧ Aside0 (kq ≤ k) ∧ Aside0 (Kd.R (Kd.int .i64) 2 w' w.heap.size (fun _ => True) v3 x3_1) ∧ Aside0 (Below w.heap.size w w'))
 case atStart => exact ⟨(([] : List Int)), (0), au, H', ⟨Nat.le_refl _⟩, ⟨by first | exact Kd.R_nil _ _ _ _ _ | exact Kd.N_nil _ _ _ _ _ | exact Kd.V_nil _ _ _ _ _ | exact Kd.Q_nil _ _ _ _ _ | exact Kd.S_nil _ _ _ _ _⟩, ⟨bse HB⟩⟩
 case round =>
  clear H'
  try clear c1
  obtain ⟨x3_1, x8_1, rfl, HA, HK1, HO_3, HB⟩ := hrel
  cases gk with
  | zero => exact absurd HA.out (by simp [palletlaw13_timers.l0])
  | succ k1 =>
   have H := HA.out
   clear HA
   simp only [palletlaw13_timers.l0] at H
   by_cases c2 : x8_1 < (l0.length : Int)
   ·rw [if_pos c2] at H
    have c2b0 := decide_eq_true c2
    clear c2
    by_cases c3 : 0 ≤ x8_1
    ·rw [if_pos c3] at H
     have c3b0 := decide_eq_true c3
     clear c3
     by_cases c4 : x8_1 < (l0.length : Int)
     ·rw [if_pos c4] at H
      have c4b0 := decide_eq_true c4
      clear c4
      by_cases c5 : ((rd_T66 l0 x8_1).f0) = 1
      ·rw [if_pos c5] at H
       have c5b0 := beq_iff_eq.mpr c5
       have c5b1 := bne_eq_false_iff_eq.mpr c5
       clear c5
       by_cases c6 : x3_1.length < 17592186044416
       ·rw [if_pos c6] at H
        have LMc6 := asd c6
        clear c6
        obtain ⟨y624, hy624⟩ : ∃ y_ : List Int, y_ = (x3_1 ++ [(rd_T66 l0 x8_1).f1]) := ⟨_, rfl⟩
        replace H : (palletlaw13_timers.l0 k1 y624 l0 (l0.length : Int) (wrap64 (x8_1 + 1))) = some r := by first | (rw [hy624]; with_reducible exact H) | (have H2_ := (Option.bind_some _ _).symm.trans H; rw [hy624]; with_reducible exact H2_) | (have H2_ := (Option.bind_some _ _).symm.trans H; with_reducible exact H2_) | with_reducible exact H | (rw [hy624]; exact H) | exact H
        have Ny624 := asd hy624
        clear hy624
        have H' := asd H
        clear H
        have p622 : 0 ≤ (x8_1 : Int) := of_decide_eq_true (by first | (with_reducible assumption) | assumption)
        have q622 : x8_1 < (l0.length : Int) := of_decide_eq_true (by first | (with_reducible assumption) | assumption)
        obtain ⟨ad622, e622, hx622_0, hx622_1, hx622_2, hx622_3, hx622_4, hx622_5, hx622_6, hx622_7⟩ := at_T66 HR0.out x8_1 p622 q622
        cases e622
        replace hx622_0 := (HB.out.cell (World.block_lt_of_cell? w _ hx622_0)).trans hx622_0
        replace hx622_1 := (HB.out.cell (World.block_lt_of_cell? w _ hx622_1)).trans hx622_1
        replace hx622_2 := (HB.out.cell (World.block_lt_of_cell? w _ hx622_2)).trans hx622_2
        replace hx622_3 := (HB.out.cell (World.block_lt_of_cell? w _ hx622_3)).trans hx622_3
        replace hx622_4 := (HB.out.cell (World.block_lt_of_cell? w _ hx622_4)).trans hx622_4
        replace hx622_5 := (HB.out.cell (World.block_lt_of_cell? w _ hx622_5)).trans hx622_5
        replace hx622_6 := (HB.out.cell (World.block_lt_of_cell? w _ hx622_6)).trans hx622_6
        replace hx622_7 := (HB.out.cell (World.block_lt_of_cell? w _ hx622_7)).trans hx622_7
        replace p622 := eq_true p622
        replace q622 := eq_true q622
        go_wp2_with (first | (refine bG 5 #[.int .i64 0, .int .i64 0, .int .i64 0, .int .i64 0, .int .u64 0, .int .u16 0, .int .i64 0, .int .i64 0] 66 ?_; intro gb623 hg w7 BK623 hb; have GW623 := bz HB hg; have GE623 := bz HB hg; replace HO_3 := rb HO_3 hb; replace HB := bs HB hb; clear hb hg; have hcz8 := ca8 BK623) | ((with_reducible refine gate_builtin (b := .append) (xs := #[.tmp 15, .tmp 18]) rfl ?_); at_builtin; refine Kd.R_append (Kd.int .i64) (w0 := w) w.heap.size rfl (.tmp 15) (.tmp 18) 30 2 (.int .i64 0) 8 rfl Tryz.underlying30 info2 rfl (by decide) (by omega) u3 x3_1 ((rd_T66 l0 x8_1).f1) [.int .i64 ((rd_T66 l0 x8_1).f1)] (fun _ => True) (fun _ => False) rfl (by first | (go_simp; done) | (go_simp; rfl)) ?aP (fun _ hk => hk.elim) ?aF ?aO ?aB ?aS ?aL ?_; (case aP => exact rfl); (case aB => exact (bse HB)); (case aF => exact (fun _ _ => trivial)); (case aO => exact (by (with_reducible repeat (first | apply Kd.R_alloc | apply Kd.R_drewN | apply Kd.R_drew)); exact Kd.R_mono (Kd.R_far (p := ⟨gb623, 7, none⟩) (Kd.R_far (p := ⟨gb623, 6, none⟩) (Kd.R_far (p := ⟨gb623, 5, none⟩) (Kd.R_far (p := ⟨gb623, 4, none⟩) (Kd.R_far (p := ⟨gb623, 3, none⟩) (Kd.R_far (p := ⟨gb623, 2, none⟩) (Kd.R_far (p := ⟨gb623, 1, none⟩) (Kd.R_far (p := ⟨gb623, 0, none⟩) (Kd.R_types HO_3.out BK623.out (by decide)) (fun _ hk => hk.2) (.int .i64 ((rd_T66 l0 x8_1).f0))) (fun _ hk => hk.2) (.int .i64 ((rd_T66 l0 x8_1).f1))) (fun _ hk => hk.2) (.int .i64 ((rd_T66 l0 x8_1).f2.f0))) (fun _ hk => hk.2) (.int .i64 ((rd_T66 l0 x8_1).f2.f1))) (fun _ hk => hk.2) (.int .u64 ((rd_T66 l0 x8_1).f2.f2))) (fun _ hk => hk.2) (.int .u16 ((rd_T66 l0 x8_1).f2.f3))) (fun _ hk => hk.2) (.int .i64 ((rd_T66 l0 x8_1).f3))) (fun _ hk => hk.2) (.int .i64 ((rd_T66 l0 x8_1).f4))) (fun _ hk => trivial))); (case aS => exact (below_size (bse HB))); (case aL => have := LMc6.out; omega); intro v625 w9 ho hb hg hat; rw [← Ny624.out] at ho; have n0_ := asd (blk_grown (g := gb623) (o := .cells #[.int .i64 ((rd_T66 l0 x8_1).f0), .int .i64 ((rd_T66 l0 x8_1).f1), .int .i64 ((rd_T66 l0 x8_1).f2.f0), .int .i64 ((rd_T66 l0 x8_1).f2.f1), .int .u64 ((rd_T66 l0 x8_1).f2.f2), .int .u16 ((rd_T66 l0 x8_1).f2.f3), .int .i64 ((rd_T66 l0 x8_1).f3), .int .i64 ((rd_T66 l0 x8_1).f4)] 66 (0, 0)) (by (with_reducible repeat (first | refine blk_drewN ?_ _ | refine blk_drew ?_ | refine blk_alloc ?_ _)); refine blk_put (cs := #[.int .i64 ((rd_T66 l0 x8_1).f0), .int .i64 ((rd_T66 l0 x8_1).f1), .int .i64 ((rd_T66 l0 x8_1).f2.f0), .int .i64 ((rd_T66 l0 x8_1).f2.f1), .int .u64 ((rd_T66 l0 x8_1).f2.f2), .int .u16 ((rd_T66 l0 x8_1).f2.f3), .int .i64 ((rd_T66 l0 x8_1).f3), .int .i64 0]) ?_ 7 _ rfl; (with_reducible repeat (first | refine blk_drewN ?_ _ | refine blk_drew ?_ | refine blk_alloc ?_ _)); refine blk_put (cs := #[.int .i64 ((rd_T66 l0 x8_1).f0), .int .i64 ((rd_T66 l0 x8_1).f1), .int .i64 ((rd_T66 l0 x8_1).f2.f0), .int .i64 ((rd_T66 l0 x8_1).f2.f1), .int .u64 ((rd_T66 l0 x8_1).f2.f2), .int .u16 ((rd_T66 l0 x8_1).f2.f3), .int .i64 0, .int .i64 0]) ?_ 6 _ rfl; (with_reducible repeat (first | refine blk_drewN ?_ _ | refine blk_drew ?_ | refine blk_alloc ?_ _)); refine blk_put (cs := #[.int .i64 ((rd_T66 l0 x8_1).f0), .int .i64 ((rd_T66 l0 x8_1).f1), .int .i64 ((rd_T66 l0 x8_1).f2.f0), .int .i64 ((rd_T66 l0 x8_1).f2.f1), .int .u64 ((rd_T66 l0 x8_1).f2.f2), .int .u16 0, .int .i64 0, .int .i64 0]) ?_ 5 _ rfl; (with_reducible repeat (first | refine blk_drewN ?_ _ | refine blk_drew ?_ | refine blk_alloc ?_ _)); refine blk_put (cs := #[.int .i64 ((rd_T66 l0 x8_1).f0), .int .i64 ((rd_T66 l0 x8_1).f1), .int .i64 ((rd_T66 l0 x8_1).f2.f0), .int .i64 ((rd_T66 l0 x8_1).f2.f1), .int .u64 0, .int .u16 0, .int .i64 0, .int .i64 0]) ?_ 4 _ rfl; (with_reducible repeat (first | refine blk_drewN ?_ _ | refine blk_drew ?_ | refine blk_alloc ?_ _)); refine blk_put (cs := #[.int .i64 ((rd_T66 l0 x8_1).f0), .int .i64 ((rd_T66 l0 x8_1).f1), .int .i64 ((rd_T66 l0 x8_1).f2.f0), .int .i64 0, .int .u64 0, .int .u16 0, .int .i64 0, .int .i64 0]) ?_ 3 _ rfl; (with_reducible repeat (first | refine blk_drewN ?_ _ | refine blk_drew ?_ | refine blk_alloc ?_ _)); refine blk_put (cs := #[.int .i64 ((rd_T66 l0 x8_1).f0), .int .i64 ((rd_T66 l0 x8_1).f1), .int .i64 0, .int .i64 0, .int .u64 0, .int .u16 0, .int .i64 0, .int .i64 0]) ?_ 2 _ rfl; (with_reducible repeat (first | refine blk_drewN ?_ _ | refine blk_drew ?_ | refine blk_alloc ?_ _)); refine blk_put (cs := #[.int .i64 ((rd_T66 l0 x8_1).f0), .int .i64 0, .int .i64 0, .int .i64 0, .int .u64 0, .int .u16 0, .int .i64 0, .int .i64 0]) ?_ 1 _ rfl; (with_reducible repeat (first | refine blk_drewN ?_ _ | refine blk_drew ?_ | refine blk_alloc ?_ _)); refine blk_put (cs := #[.int .i64 0, .int .i64 0, .int .i64 0, .int .i64 0, .int .u64 0, .int .u16 0, .int .i64 0, .int .i64 0]) ?_ 0 _ rfl; (with_reducible repeat (first | refine blk_drewN ?_ _ | refine blk_drew ?_ | refine blk_alloc ?_ _)); exact BK623.out) hg (Kd.R_ne HO_3.out BK623.out (by decide))); have n1_ := asd (hb); have n2_ := asd (ho); clear BK623 HB HO_3; have BK623 := n0_; have HB := n1_; have HO626 := n2_; clear n0_ n1_ n2_ ho hb hg hat))
        go_roundg k1
        case measure => have := HK1.out; omega
        case rel => exact ⟨(y624), (wrap64 (x8_1 + 1)), au, H', ⟨by have := HK1.out; omega⟩, re HO626, ⟨bse HB⟩⟩
       rw [if_neg c6] at H
       exact absurd H (by simp)
      rw [if_neg c5] at H
      have c5b0 := beq_eq_false_iff_ne.mpr c5
      have c5b1 := bne_iff_ne.mpr c5
      have H' := asd H
      clear H
      have p622 : 0 ≤ (x8_1 : Int) := of_decide_eq_true (by first | (with_reducible assumption) | assumption)
      have q622 : x8_1 < (l0.length : Int) := of_decide_eq_true (by first | (with_reducible assumption) | assumption)
      obtain ⟨ad622, e622, hx622_0, hx622_1, hx622_2, hx622_3, hx622_4, hx622_5, hx622_6, hx622_7⟩ := at_T66 HR0.out x8_1 p622 q622
      cases e622
      replace hx622_0 := (HB.out.cell (World.block_lt_of_cell? w _ hx622_0)).trans hx622_0
      replace hx622_1 := (HB.out.cell (World.block_lt_of_cell? w _ hx622_1)).trans hx622_1
      replace hx622_2 := (HB.out.cell (World.block_lt_of_cell? w _ hx622_2)).trans hx622_2
      replace hx622_3 := (HB.out.cell (World.block_lt_of_cell? w _ hx622_3)).trans hx622_3
      replace hx622_4 := (HB.out.cell (World.block_lt_of_cell? w _ hx622_4)).trans hx622_4
      replace hx622_5 := (HB.out.cell (World.block_lt_of_cell? w _ hx622_5)).trans hx622_5
      replace hx622_6 := (HB.out.cell (World.block_lt_of_cell? w _ hx622_6)).trans hx622_6
      replace hx622_7 := (HB.out.cell (World.block_lt_of_cell? w _ hx622_7)).trans hx622_7
      replace p622 := eq_true p622
      replace q622 := eq_true q622
      go_wp2_with (first | (refine bG 5 #[.int .i64 0, .int .i64 0, .int .i64 0, .int .i64 0, .int .u64 0, .int .u16 0, .int .i64 0, .int .i64 0] 66 ?_; intro gb623 hg w10 BK623 hb; have GW623 := bz HB hg; have GE623 := bz HB hg; replace HO_3 := rb HO_3 hb; replace HB := bs HB hb; clear hb hg; have hcz11 := ca8 BK623))
      go_roundg k1
      case measure => have := HK1.out; omega
      case rel => exact ⟨(x3_1), (wrap64 (x8_1 + 1)), au, H', ⟨by have := HK1.out; omega⟩, ⟨by (with_reducible repeat (first | apply Kd.R_alloc | apply Kd.R_drewN | apply Kd.R_drew)); exact Kd.R_mono (Kd.R_far (p := ⟨gb623, 7, none⟩) (Kd.R_far (p := ⟨gb623, 6, none⟩) (Kd.R_far (p := ⟨gb623, 5, none⟩) (Kd.R_far (p := ⟨gb623, 4, none⟩) (Kd.R_far (p := ⟨gb623, 3, none⟩) (Kd.R_far (p := ⟨gb623, 2, none⟩) (Kd.R_far (p := ⟨gb623, 1, none⟩) (Kd.R_far (p := ⟨gb623, 0, none⟩) (Kd.R_types HO_3.out BK623.out (by decide)) (fun _ hk => hk.2) (.int .i64 ((rd_T66 l0 x8_1).f0))) (fun _ hk => hk.2) (.int .i64 ((rd_T66 l0 x8_1).f1))) (fun _ hk => hk.2) (.int .i64 ((rd_T66 l0 x8_1).f2.f0))) (fun _ hk => hk.2) (.int .i64 ((rd_T66 l0 x8_1).f2.f1))) (fun _ hk => hk.2) (.int .u64 ((rd_T66 l0 x8_1).f2.f2))) (fun _ hk => hk.2) (.int .u16 ((rd_T66 l0 x8_1).f2.f3))) (fun _ hk => hk.2) (.int .i64 ((rd_T66 l0 x8_1).f3))) (fun _ hk => hk.2) (.int .i64 ((rd_T66 l0 x8_1).f4))) (fun _ hk => trivial)⟩, ⟨bse HB⟩⟩
     rw [if_neg c4] at H
     exact absurd H (by simp)
    rw [if_neg c3] at H
    exact absurd H (by simp)
   rw [if_neg c2] at H
   have c2b0 := decide_eq_false c2
   clear c2
   obtain rfl := Option.some.inj H
   go_wp2
   go_ret
   exact ⟨_, by first | rfl | (simp [errW_none, errW_some] <;> rfl) | (simp [*, errW_none, errW_some] <;> rfl), by (with_reducible repeat (first | apply Kd.R_alloc | apply Kd.R_drewN | apply Kd.R_drew)); exact HO_3.out, bse HB⟩

end Go.Proofs.YtcofclkgfandfaaGreat.Print
