-- PRINTED by print.py (a twelfth state) out of the translation. Not trusted: Lean checks it.
import Derived.Test.YtcofclkgfandfaaGreatSq
import Derived.Test.YtcofclkgfandfaaGreatPrint0
import Derived.Test.YtcofclkgfandfaaGreatPrint11
import Derived.Test.YtcofclkgfandfaaGreatPrint12
import Derived.Test.YtcofclkgfandfaaGreatPrint24
import Derived.Test.YtcofclkgfandfaaGreatPrint6
namespace Go.Proofs.YtcofclkgfandfaaGreat.Print
set_option maxHeartbeats 8000000
set_option maxRecDepth 100000
open Go.RowKit Go.Proofs.YtcofclkgfandfaaGreatW.PrintWords Go.Proofs.YtcofclkgfandfaaGreatW.PrintLast Go.Proofs.YtcofclkgfandfaaGreatW.PrintMore Go.Proofs.YtcofclkgfandfaaGreatX
attribute [local go_sem] str_lss str_geq max2_int min2_int max_two min_two max_three min_three max_four min_four   -- for this text's walks alone
set_option linter.unusedVariables false
set_option linter.unusedSimpArgs false

/-! ### palletlaw13_four: function 28 -/
def palletlaw13_four.f  : Option (Int × Int × Int × Int × Int) := some (4, 100, 20, 30, 10)
theorem palletlaw13_four.calls  (r1 r2 r3 r4 r5 : Int) (w : World) (h : palletlaw13_four.f  = some (r1, r2, r3, r4, r5)) :
  Calls Tryz.prog 28 #[] w fun e w' => e = .returned (.agg #[.int .i64 r1, .int .i64 r2, .int .i64 r3, .int .i64 r4, .int .i64 r5]) ∧ Below w.heap.size w w' := by
 have hu23 := Tryz.underlying23
 have HB := asd (Below.refl w.heap.size w)
 have H : (some (4, 100, 20, 30, 10)) = some (r1, r2, r3, r4, r5) := h
 clear h
 simp only [Option.some.injEq, Prod.mk.injEq] at H
 obtain ⟨rfl, rfl, rfl, rfl, rfl⟩ := H
 go_enter Tryz.func28, Tryz.ntmps28
 go_wp2_with (first | (refine bG 0 #[.int .i64 0, .int .i64 0, .int .i64 0, .int .i64 0, .int .i64 0] 23 ?_; intro gb416 hg w1 BK416 hb; have GW416 := bz HB hg; have GE416 := bz HB hg; replace HB := bs HB hb; clear hb hg; have hcz2 := cf5 BK416))
 refine bodyPost_ret (results_cell_row rfl _ _ gb416 23 #[.int .i64 4, .int .i64 100, .int .i64 20, .int .i64 30, .int .i64 10] (0, 0) _ rfl (by (with_reducible repeat (first | refine blk_drewN ?_ _ | refine blk_drew ?_ | refine blk_alloc ?_ _)); refine blk_put (cs := #[.int .i64 4, .int .i64 100, .int .i64 20, .int .i64 30, .int .i64 0]) ?_ 4 _ rfl; (with_reducible repeat (first | refine blk_drewN ?_ _ | refine blk_drew ?_ | refine blk_alloc ?_ _)); refine blk_put (cs := #[.int .i64 4, .int .i64 100, .int .i64 20, .int .i64 0, .int .i64 0]) ?_ 3 _ rfl; (with_reducible repeat (first | refine blk_drewN ?_ _ | refine blk_drew ?_ | refine blk_alloc ?_ _)); refine blk_put (cs := #[.int .i64 4, .int .i64 100, .int .i64 0, .int .i64 0, .int .i64 0]) ?_ 2 _ rfl; (with_reducible repeat (first | refine blk_drewN ?_ _ | refine blk_drew ?_ | refine blk_alloc ?_ _)); refine blk_put (cs := #[.int .i64 4, .int .i64 0, .int .i64 0, .int .i64 0, .int .i64 0]) ?_ 1 _ rfl; (with_reducible repeat (first | refine blk_drewN ?_ _ | refine blk_drew ?_ | refine blk_alloc ?_ _)); refine blk_put (cs := #[.int .i64 0, .int .i64 0, .int .i64 0, .int .i64 0, .int .i64 0]) ?_ 0 _ rfl; (with_reducible repeat (first | refine blk_drewN ?_ _ | refine blk_drew ?_ | refine blk_alloc ?_ _)); exact BK416.out) Tryz.underlying23 rfl (by kernel_rfl)) rfl ?_
 exact xo (bse HB)


/-! ### palletlaw13_live: function 7 -/
def palletlaw13_live.f (k : Nat)  : Option (Bool) := (palletlaw13_four.f).bind fun bt417 => ((node_New.f k bt417.1 bt417.2.1 bt417.2.2.1 bt417.2.2.2.1 bt417.2.2.2.2 1 10 0 0).bind fun bt422 => ((palletlaw13_four.f).bind fun bt440 => ((node_Wake.f k bt440.1 bt440.2.1 bt440.2.2.1 bt440.2.2.2.1 bt440.2.2.2.2 bt422.1 bt422.2.1 bt422.2.2.1 bt422.2.2.2.1 bt422.2.2.2.2.1 bt422.2.2.2.2.2.1 bt422.2.2.2.2.2.2.1 bt422.2.2.2.2.2.2.2.1 bt422.2.2.2.2.2.2.2.2.1 bt422.2.2.2.2.2.2.2.2.2.1 bt422.2.2.2.2.2.2.2.2.2.2.1 bt422.2.2.2.2.2.2.2.2.2.2.2.1 bt422.2.2.2.2.2.2.2.2.2.2.2.2.1 bt422.2.2.2.2.2.2.2.2.2.2.2.2.2.1 0).bind fun bt445 => ((palletlaw13_four.f).bind fun bt465 => ((node_Timer.f k bt465.1 bt465.2.1 bt465.2.2.1 bt465.2.2.2.1 bt465.2.2.2.2 bt445.1 bt445.2.1 bt445.2.2.1 bt445.2.2.2.1 bt445.2.2.2.2.1 bt445.2.2.2.2.2.1 bt445.2.2.2.2.2.2.1 bt445.2.2.2.2.2.2.2.1 bt445.2.2.2.2.2.2.2.2.1 bt445.2.2.2.2.2.2.2.2.2.1 bt445.2.2.2.2.2.2.2.2.2.2.1 bt445.2.2.2.2.2.2.2.2.2.2.2.1 bt445.2.2.2.2.2.2.2.2.2.2.2.2.1 bt445.2.2.2.2.2.2.2.2.2.2.2.2.2.1 10000).bind fun bt470 => (if bt422.2.2.2.2.2.2.2.2.2.2.2.2.2.2 = 0 then (if bt445.2.2.2.2.2.2.2.2.2.2.2.2.2.2.2 = 0 then (if bt470.2.2.2.2.2.2.2.2.2.2.2.2.2.2.2 = 0 then (if (bt445.2.2.2.2.2.2.2.2.2.2.2.2.2.2.1.length : Int) = 2 then (if 1 < (bt445.2.2.2.2.2.2.2.2.2.2.2.2.2.2.1.length : Int) then (if ((rd_T66 bt445.2.2.2.2.2.2.2.2.2.2.2.2.2.2.1 1).f1) = 10000 then (if (bt470.2.2.2.2.2.2.2.2.2.2.2.2.2.2.1.length : Int) = 2 then (if 1 < (bt470.2.2.2.2.2.2.2.2.2.2.2.2.2.2.1.length : Int) then (if ((rd_T66 bt470.2.2.2.2.2.2.2.2.2.2.2.2.2.2.1 1).f1) = 10200 then (some (bt470.2.1 == 2)) else (none)) else (none)) else (none)) else (none)) else (none)) else (none)) else (none)) else (none)) else (none)))))))
def palletlaw13_live.T2 : Bool × List (List Nat × List Nat) := (true, [([], []), ([], []), ([0, 1, 0], [0, 1]), ([2], [2]), ([3], [3]), ([3], [3]), ([3], [3]), ([4, 2, 0, 1, 2, 3, 4], [4]), ([5, 7, 0, 1, 2, 3, 4, 5, 7], [5]), ([6, 8, 0, 1, 2, 3, 4, 5, 6, 7, 8], [6])])
def palletlaw13_live.B2 : List Nat := [0, 0, 3, 7, 15, 15, 15, 31, 191, 511]
theorem palletlaw13_live.tab2 : rtab .any (opsOf Tryz.f7 2) = palletlaw13_live.T2 := by kernel_rfl
theorem palletlaw13_live.bits2 : waitsOk palletlaw13_live.T2.2 palletlaw13_live.B2 = true := by kernel_rfl
def palletlaw13_live.T3 : Bool × List (List Nat × List Nat) := (true, [([], []), ([], []), ([0, 1, 0], [0, 1]), ([2], [2]), ([3], [3]), ([3], [3]), ([3], [3]), ([4, 2, 0, 1, 2, 3, 4], [4]), ([5, 7, 0, 1, 2, 3, 4, 5, 7], [5]), ([6, 8, 0, 1, 2, 3, 4, 5, 6, 7, 8], [6])])
def palletlaw13_live.B3 : List Nat := [0, 0, 3, 7, 15, 15, 15, 31, 191, 511]
theorem palletlaw13_live.tab3 : rtab .any (opsOf Tryz.f7 3) = palletlaw13_live.T3 := by kernel_rfl
theorem palletlaw13_live.bits3 : waitsOk palletlaw13_live.T3.2 palletlaw13_live.B3 = true := by kernel_rfl
theorem palletlaw13_live.calls (k : Nat)  (r : Bool) (w : World) (h : palletlaw13_live.f k  = some r) :
  Calls Tryz.prog 7 #[] w fun e w' => e = .returned (.bool r) ∧ Below w.heap.size w w' := by
 have hu26 := Tryz.underlying26
 have hu32 := Tryz.underlying32
 have HB := asd (Below.refl w.heap.size w)
 unfold palletlaw13_live.f at h
 have H := h
 clear h
 obtain ⟨⟨t417, t418, t419, t420, t421⟩, A1, H⟩ := bio H
 try dsimp only at H
 obtain ⟨⟨t422, t423, t424, t425, t426, t427, t428, t429, t430, t431, t432, t433, t436, t437, t438⟩, A2, H⟩ := bio H
 try dsimp only at H
 obtain ⟨⟨t440, t441, t442, t443, t444⟩, A3, H⟩ := bio H
 try dsimp only at H
 obtain ⟨⟨t445, t446, t447, t448, t449, t450, t451, t452, t453, t454, t455, t456, t459, t460, t461, t464⟩, A4, H⟩ := bio H
 try dsimp only at H
 obtain ⟨⟨t465, t466, t467, t468, t469⟩, A5, H⟩ := bio H
 try dsimp only at H
 obtain ⟨⟨t470, t471, t472, t473, t474, t475, t476, t477, t478, t479, t480, t481, t484, t485, t486, t489⟩, A6, H⟩ := bio H
 try dsimp only at H
 by_cases c7 : t438 = 0
 ·rw [if_pos c7] at H
  have c7b0 := beq_iff_eq.mpr c7
  have c7b1 := bne_eq_false_iff_eq.mpr c7
  clear c7
  by_cases c8 : t464 = 0
  ·rw [if_pos c8] at H
   have c8b0 := beq_iff_eq.mpr c8
   have c8b1 := bne_eq_false_iff_eq.mpr c8
   clear c8
   by_cases c9 : t489 = 0
   ·rw [if_pos c9] at H
    have c9b0 := beq_iff_eq.mpr c9
    have c9b1 := bne_eq_false_iff_eq.mpr c9
    clear c9
    by_cases c10 : (t461.length : Int) = 2
    ·rw [if_pos c10] at H
     have c10b0 := beq_iff_eq.mpr c10
     have c10b1 := bne_eq_false_iff_eq.mpr c10
     clear c10
     by_cases c11 : 1 < (t461.length : Int)
     ·rw [if_pos c11] at H
      have c11b0 := decide_eq_true c11
      have c11b1 : decide (1 < t461.length) = true := decide_eq_true (by omega)
      clear c11
      by_cases c12 : ((rd_T66 t461 1).f1) = 10000
      ·rw [if_pos c12] at H
       have c12b0 := beq_iff_eq.mpr c12
       have c12b1 := bne_eq_false_iff_eq.mpr c12
       clear c12
       by_cases c13 : (t486.length : Int) = 2
       ·rw [if_pos c13] at H
        have c13b0 := beq_iff_eq.mpr c13
        have c13b1 := bne_eq_false_iff_eq.mpr c13
        clear c13
        by_cases c14 : 1 < (t486.length : Int)
        ·rw [if_pos c14] at H
         have c14b0 := decide_eq_true c14
         have c14b1 : decide (1 < t486.length) = true := decide_eq_true (by omega)
         clear c14
         by_cases c15 : ((rd_T66 t486 1).f1) = 10200
         ·rw [if_pos c15] at H
          have c15b0 := beq_iff_eq.mpr c15
          have c15b1 := bne_eq_false_iff_eq.mpr c15
          clear c15
          obtain rfl := Option.some.inj H
          go_enter Tryz.func7, Tryz.ntmps7
          try go_wp2_with (first | ((with_reducible refine gate_callee (f := 28) rfl ?_); refine gC (some 8) Tryz.func28 (palletlaw13_four.calls  t417 t418 t419 t420 t421 _ A1.out) ?_; rintro e w16 ⟨rfl, hb⟩; refine ⟨_, rfl, ?_⟩; replace HB := bs HB hb; (try clear hb)) | ((with_reducible refine gate_callee (f := 13) rfl ?_); refine gC (some 10) Tryz.func13 (node_New.calls k t417 t418 t419 t420 t421 1 10 0 0 t422 t423 t424 t425 t426 t427 t428 t429 t430 t431 t432 t433 t436 t437 t438 _ A2.out) ?_; rintro e w17 ⟨v434, rfl, ho0, hb⟩; refine ⟨_, rfl, ?_⟩; have HO435 := rl ho0 HB; replace HB := bs HB hb; (try clear hb); (try clear ho0)) | (refine bG 1 #[.int .i64 0, .int .i64 0, .int .u64 0, .int .i64 0, .int .i64 0, .int .i64 0, .int .i64 0, .int .i64 0, .int .u16 0, .int .i64 0, .int .i64 0, .slice none 0 0, .bool false, .int .i64 0] 32 ?_; intro gb439 hg w18 BK439 hb; have GW439 := bz HB hg; have GE439 := bz HB hg; replace HO435 := rb HO435 hb; replace HB := bs HB hb; clear hb hg; have hcz19 := cf14 BK439; obtain ⟨Ao20, co20, eo20⟩ := Kd.R_slice HO435.out; subst eo20))
          have n0_ : Aside0 (Kd.R (Kd.int .i64) 2 ((((((((((((((w18.setCell ⟨gb439, 0, none⟩ (.int .i64 t422)).setCell ⟨gb439, 1, none⟩ (.int .i64 t423)).setCell ⟨gb439, 2, none⟩ (.int .u64 t424)).setCell ⟨gb439, 3, none⟩ (.int .i64 t425)).setCell ⟨gb439, 4, none⟩ (.int .i64 t426)).setCell ⟨gb439, 5, none⟩ (.int .i64 t427)).setCell ⟨gb439, 6, none⟩ (.int .i64 t428)).setCell ⟨gb439, 7, none⟩ (.int .i64 t429)).setCell ⟨gb439, 8, none⟩ (.int .u16 t430)).setCell ⟨gb439, 9, none⟩ (.int .i64 t431)).setCell ⟨gb439, 10, none⟩ (.int .i64 t432)).setCell ⟨gb439, 11, none⟩ (.slice Ao20 t433.length co20)).setCell ⟨gb439, 12, none⟩ (.bool t436)).setCell ⟨gb439, 13, none⟩ (.int .i64 t437)) w.heap.size (fun _ => True) (.slice Ao20 t433.length co20) t433) := rf HO435 BK439 (by decide) (fun _ hk => trivial)
          have n1_ : Aside0 (((((((((((((((w18.setCell ⟨gb439, 0, none⟩ (.int .i64 t422)).setCell ⟨gb439, 1, none⟩ (.int .i64 t423)).setCell ⟨gb439, 2, none⟩ (.int .u64 t424)).setCell ⟨gb439, 3, none⟩ (.int .i64 t425)).setCell ⟨gb439, 4, none⟩ (.int .i64 t426)).setCell ⟨gb439, 5, none⟩ (.int .i64 t427)).setCell ⟨gb439, 6, none⟩ (.int .i64 t428)).setCell ⟨gb439, 7, none⟩ (.int .i64 t429)).setCell ⟨gb439, 8, none⟩ (.int .u16 t430)).setCell ⟨gb439, 9, none⟩ (.int .i64 t431)).setCell ⟨gb439, 10, none⟩ (.int .i64 t432)).setCell ⟨gb439, 11, none⟩ (.slice Ao20 t433.length co20)).setCell ⟨gb439, 12, none⟩ (.bool t436)).setCell ⟨gb439, 13, none⟩ (.int .i64 t437)).heap[gb439]? = some (.cells #[.int .i64 t422, .int .i64 t423, .int .u64 t424, .int .i64 t425, .int .i64 t426, .int .i64 t427, .int .i64 t428, .int .i64 t429, .int .u16 t430, .int .i64 t431, .int .i64 t432, .slice Ao20 t433.length co20, .bool t436, .int .i64 t437] 32 (0, 0))) := bp14 BK439
          have n2_ : Aside0 (Below w.heap.size w ((((((((((((((w18.setCell ⟨gb439, 0, none⟩ (.int .i64 t422)).setCell ⟨gb439, 1, none⟩ (.int .i64 t423)).setCell ⟨gb439, 2, none⟩ (.int .u64 t424)).setCell ⟨gb439, 3, none⟩ (.int .i64 t425)).setCell ⟨gb439, 4, none⟩ (.int .i64 t426)).setCell ⟨gb439, 5, none⟩ (.int .i64 t427)).setCell ⟨gb439, 6, none⟩ (.int .i64 t428)).setCell ⟨gb439, 7, none⟩ (.int .i64 t429)).setCell ⟨gb439, 8, none⟩ (.int .u16 t430)).setCell ⟨gb439, 9, none⟩ (.int .i64 t431)).setCell ⟨gb439, 10, none⟩ (.int .i64 t432)).setCell ⟨gb439, 11, none⟩ (.slice Ao20 t433.length co20)).setCell ⟨gb439, 12, none⟩ (.bool t436)).setCell ⟨gb439, 13, none⟩ (.int .i64 t437))) := ⟨bse HB⟩
          (try clear HO435)
          (try clear BK439)
          (try clear HB)
          generalize ((((((((((((((w18.setCell ⟨gb439, 0, none⟩ (.int .i64 t422)).setCell ⟨gb439, 1, none⟩ (.int .i64 t423)).setCell ⟨gb439, 2, none⟩ (.int .u64 t424)).setCell ⟨gb439, 3, none⟩ (.int .i64 t425)).setCell ⟨gb439, 4, none⟩ (.int .i64 t426)).setCell ⟨gb439, 5, none⟩ (.int .i64 t427)).setCell ⟨gb439, 6, none⟩ (.int .i64 t428)).setCell ⟨gb439, 7, none⟩ (.int .i64 t429)).setCell ⟨gb439, 8, none⟩ (.int .u16 t430)).setCell ⟨gb439, 9, none⟩ (.int .i64 t431)).setCell ⟨gb439, 10, none⟩ (.int .i64 t432)).setCell ⟨gb439, 11, none⟩ (.slice Ao20 t433.length co20)).setCell ⟨gb439, 12, none⟩ (.bool t436)).setCell ⟨gb439, 13, none⟩ (.int .i64 t437)) = w21 at n0_ n1_ n2_ ⊢
          have HO435 := n0_
          have BK439 := n1_
          have HB := n2_
          clear n0_ n1_ n2_
          replace HO435 := asd (Kd.R_drew HO435.out)
          replace BK439 := asd (blk_drew BK439.out)
          replace HB := asd (below_drew1 HB.out)
          refine start_ (n := 10) (S := fun w' => w'.cell? ⟨gb439, 0, none⟩ = some (.int .i64 t422) ∧ w'.cell? ⟨gb439, 1, none⟩ = some (.int .i64 t423) ∧ w'.cell? ⟨gb439, 2, none⟩ = some (.int .u64 t424) ∧ w'.cell? ⟨gb439, 3, none⟩ = some (.int .i64 t425) ∧ w'.cell? ⟨gb439, 4, none⟩ = some (.int .i64 t426) ∧ w'.cell? ⟨gb439, 5, none⟩ = some (.int .i64 t427) ∧ w'.cell? ⟨gb439, 6, none⟩ = some (.int .i64 t428) ∧ w'.cell? ⟨gb439, 7, none⟩ = some (.int .i64 t429) ∧ w'.cell? ⟨gb439, 8, none⟩ = some (.int .u16 t430) ∧ w'.cell? ⟨gb439, 9, none⟩ = some (.int .i64 t431) ∧ w'.cell? ⟨gb439, 10, none⟩ = some (.int .i64 t432) ∧ w'.cell? ⟨gb439, 11, none⟩ = some (.slice Ao20 t433.length co20) ∧ w'.cell? ⟨gb439, 12, none⟩ = some (.bool t436) ∧ w'.cell? ⟨gb439, 13, none⟩ = some (.int .i64 t437)) (ds := [7]) (fb 10 0) (by kernel_rfl) rfl rfl ⟨(blk_cell BK439.out 0).trans rfl, (blk_cell BK439.out 1).trans rfl, (blk_cell BK439.out 2).trans rfl, (blk_cell BK439.out 3).trans rfl, (blk_cell BK439.out 4).trans rfl, (blk_cell BK439.out 5).trans rfl, (blk_cell BK439.out 6).trans rfl, (blk_cell BK439.out 7).trans rfl, (blk_cell BK439.out 8).trans rfl, (blk_cell BK439.out 9).trans rfl, (blk_cell BK439.out 10).trans rfl, (blk_cell BK439.out 11).trans rfl, (blk_cell BK439.out 12).trans rfl, (blk_cell BK439.out 13).trans rfl⟩ (fun hHeld => ?_); refine with_tabW palletlaw13_live.tab2 palletlaw13_live.bits2 (fun HT_ HW_ => ?_)
          generalize w21.drew = w22 at HO435 BK439 HB hHeld ⊢
          refine ti 1 15 10 2 hHeld ?_ (hc := take_ofW HT_.out HW_.out (by kernel_rfl))
          refine one_ (i := 0) (N := some 14) (fb 10 3) rfl rfl (one_of HT_.out (by kernel_rfl)) (by decide) (fun K hK => ?_)
          refine goes_ Tryz.func28 (by kernel_rfl) rfl #[] (by rfl) rfl rfl (by (try simp only [List.map_toArray, List.map_cons, List.map_nil]); first | done | rfl | (simp only [List.length_drop, List.length_take]; first | rfl | (rw [Nat.min_eq_left (Int.toNat_le.2 (of_decide_eq_true (by assumption)))]; rfl))) ?_
          with_reducible refine (palletlaw13_four.calls  t440 t441 t442 t443 t444 _ A3.out).mono ?_
          rintro e w23 ⟨rfl, hb⟩
          refine ⟨_, rfl, ?_⟩
          replace HO435 := rb HO435 hb
          replace BK439 := bb BK439 hb
          replace HB := bs HB hb
          (try clear hb)
          (try clear hb2)
          (try clear hk)
          (try clear hi)
          refine hK.out _ _ ⟨(blk_cell BK439.out 0).trans rfl, (blk_cell BK439.out 1).trans rfl, (blk_cell BK439.out 2).trans rfl, (blk_cell BK439.out 3).trans rfl, (blk_cell BK439.out 4).trans rfl, (blk_cell BK439.out 5).trans rfl, (blk_cell BK439.out 6).trans rfl, (blk_cell BK439.out 7).trans rfl, (blk_cell BK439.out 8).trans rfl, (blk_cell BK439.out 9).trans rfl, (blk_cell BK439.out 10).trans rfl, (blk_cell BK439.out 11).trans rfl, (blk_cell BK439.out 12).trans rfl, (blk_cell BK439.out 13).trans rfl⟩ (fun hHeld => ?_)
          clear hK K
          refine norm_ (a' := ?_) ?_ ?_
          rotate_left
          ·show Act.put _ (some 14) _ = _
           simp only [Act.put, List.setIfInBounds_toArray, List.set_cons_zero, List.set_cons_succ, i64_w, i32_w]
           rfl
          refine one_ (i := 2) (N := some 16) (fb 10 7) rfl rfl (one_of HT_.out (by kernel_rfl)) (by decide) (fun K hK => ?_)
          refine goes_ Tryz.func15 (by kernel_rfl) rfl #[.agg #[.int .i64 t440, .int .i64 t441, .int .i64 t442, .int .i64 t443, .int .i64 t444], .agg #[.int .i64 t422, .int .i64 t423, .int .u64 t424, .int .i64 t425, .int .i64 t426, .int .i64 t427, .int .i64 t428, .int .i64 t429, .int .u16 t430, .int .i64 t431, .int .i64 t432, .slice Ao20 t433.length co20, .bool t436, .int .i64 t437], .int .i64 0] (by rfl) rfl rfl (by (try simp only [List.map_toArray, List.map_cons, List.map_nil]); first | done | rfl | (simp only [List.length_drop, List.length_take]; first | rfl | (rw [Nat.min_eq_left (Int.toNat_le.2 (of_decide_eq_true (by assumption)))]; rfl))) ?_
          with_reducible refine (node_Wake.calls k t440 t441 t442 t443 t444 t422 t423 t424 t425 t426 t427 t428 t429 t430 t431 t432 _ _ t433 t436 t437 0 t445 t446 t447 t448 t449 t450 t451 t452 t453 t454 t455 t456 t459 t460 t461 t464 _ ?side1 ?side2 A4.out).mono ?_
          (case side1 => exact cr (Kd.R_reads' HO435.out).2.2)
          (case side2 => exact (Kd.R_reads' HO435.out).2.1)
          rintro e w24 ⟨v457, v462, rfl, ho0, ho1, hb⟩
          refine ⟨_, rfl, ?_⟩
          have HO458 := asd (Kd.R_lower (Kd.R_new' ho0 (Kd.R_lt (re HO435).out)) (below_size (bse HB)))
          have HO463 := rl ho1 HB
          replace HO435 := asd (Kd.R_elder' (re HO435).out (Kd.R_base ho0) hb)
          replace BK439 := bb BK439 hb
          replace HB := bs HB hb
          (try clear hb)
          (try clear hb2)
          (try clear hk)
          (try clear hi)
          (try clear ho0)
          (try clear ho1)
          obtain ⟨Ao36, co36, eo36⟩ := Kd.R_slice HO458.out
          (first | subst eo36 | (injection eo36 with f1_ f2_ f3_; have f4_ := f1_.symm; have f5_ := f3_.symm; clear f1_ f2_ f3_; subst f4_; subst f5_))
          refine hK.out _ _ ⟨(blk_cell BK439.out 0).trans rfl, (blk_cell BK439.out 1).trans rfl, (blk_cell BK439.out 2).trans rfl, (blk_cell BK439.out 3).trans rfl, (blk_cell BK439.out 4).trans rfl, (blk_cell BK439.out 5).trans rfl, (blk_cell BK439.out 6).trans rfl, (blk_cell BK439.out 7).trans rfl, (blk_cell BK439.out 8).trans rfl, (blk_cell BK439.out 9).trans rfl, (blk_cell BK439.out 10).trans rfl, (blk_cell BK439.out 11).trans rfl, (blk_cell BK439.out 12).trans rfl, (blk_cell BK439.out 13).trans rfl⟩ (fun hHeld => ?_)
          clear hK K
          refine norm_ (a' := ?_) ?_ ?_
          rotate_left
          ·show Act.put _ (some 16) _ = _
           simp only [Act.put, List.setIfInBounds_toArray, List.set_cons_zero, List.set_cons_succ, i64_w, i32_w]
           rfl
          refine pi 3 13 10 15 ?_ (hc := any_of HT_.out (by kernel_rfl))
          refine pi 4 17 10 31 ?_ (hc := any_of HT_.out (by kernel_rfl))
          refine pi 5 18 10 63 ?_ (hc := any_of HT_.out (by kernel_rfl))
          refine pi 6 19 10 127 ?_ (hc := any_of HT_.out (by kernel_rfl))
          refine last_ (i := 7) (N := none) (fb 10 255) rfl rfl (one_of HT_.out (by kernel_rfl)) (by decide) (fun K hK => ?_)
          have hs25 : w24.cell? ⟨gb439, 0, none⟩ = some (.int .i64 t422) := (blk_cell BK439.out 0).trans rfl
          have hfs25 := blk_frozen BK439.out 0
          have hs26 : w24.cell? ⟨gb439, 1, none⟩ = some (.int .i64 t423) := (blk_cell BK439.out 1).trans rfl
          have hfs26 := blk_frozen BK439.out 1
          have hs27 : w24.cell? ⟨gb439, 2, none⟩ = some (.int .u64 t424) := (blk_cell BK439.out 2).trans rfl
          have hfs27 := blk_frozen BK439.out 2
          have hs28 : w24.cell? ⟨gb439, 3, none⟩ = some (.int .i64 t425) := (blk_cell BK439.out 3).trans rfl
          have hfs28 := blk_frozen BK439.out 3
          have hs29 : w24.cell? ⟨gb439, 4, none⟩ = some (.int .i64 t426) := (blk_cell BK439.out 4).trans rfl
          have hfs29 := blk_frozen BK439.out 4
          have hs30 : w24.cell? ⟨gb439, 5, none⟩ = some (.int .i64 t427) := (blk_cell BK439.out 5).trans rfl
          have hfs30 := blk_frozen BK439.out 5
          have hs31 : w24.cell? ⟨gb439, 6, none⟩ = some (.int .i64 t428) := (blk_cell BK439.out 6).trans rfl
          have hfs31 := blk_frozen BK439.out 6
          have hs32 : w24.cell? ⟨gb439, 7, none⟩ = some (.int .i64 t429) := (blk_cell BK439.out 7).trans rfl
          have hfs32 := blk_frozen BK439.out 7
          have hs33 : w24.cell? ⟨gb439, 8, none⟩ = some (.int .u16 t430) := (blk_cell BK439.out 8).trans rfl
          have hfs33 := blk_frozen BK439.out 8
          have hs34 : w24.cell? ⟨gb439, 9, none⟩ = some (.int .i64 t431) := (blk_cell BK439.out 9).trans rfl
          have hfs34 := blk_frozen BK439.out 9
          have hs35 : w24.cell? ⟨gb439, 10, none⟩ = some (.int .i64 t432) := (blk_cell BK439.out 10).trans rfl
          have hfs35 := blk_frozen BK439.out 10
          have hs37 : w24.cell? ⟨gb439, 11, none⟩ = some (.slice Ao20 t433.length co20) := (blk_cell BK439.out 11).trans rfl
          have hfs37 := blk_frozen BK439.out 11
          have hs38 : w24.cell? ⟨gb439, 12, none⟩ = some (.bool t436) := (blk_cell BK439.out 12).trans rfl
          have hfs38 := blk_frozen BK439.out 12
          have hs39 : w24.cell? ⟨gb439, 13, none⟩ = some (.int .i64 t437) := (blk_cell BK439.out 13).trans rfl
          have hfs39 := blk_frozen BK439.out 13
          refine skip_ (w1 := ?_) (by rfl) rfl ?_ ?_
          rotate_left
          ·go_simp
           rfl
          refine hK.out _ _ ?_
          clear hK K
          refine pi 8 3 10 511 ?_ (hc := any_of HT_.out (by kernel_rfl))
          refine pi 9 4 10 1023 ?_ (hc := any_of HT_.out (by kernel_rfl))
          refine done_ (done_of HT_.out (by kernel_rfl)) ?_
          try go_wp2
          have n0_ : Aside0 (Kd.R (Kd.int .i64) 2 ((((((((((((((w24.setCell ⟨gb439, 0, none⟩ (.int .i64 t445)).setCell ⟨gb439, 1, none⟩ (.int .i64 t446)).setCell ⟨gb439, 2, none⟩ (.int .u64 t447)).setCell ⟨gb439, 3, none⟩ (.int .i64 t448)).setCell ⟨gb439, 4, none⟩ (.int .i64 t449)).setCell ⟨gb439, 5, none⟩ (.int .i64 t450)).setCell ⟨gb439, 6, none⟩ (.int .i64 t451)).setCell ⟨gb439, 7, none⟩ (.int .i64 t452)).setCell ⟨gb439, 8, none⟩ (.int .u16 t453)).setCell ⟨gb439, 9, none⟩ (.int .i64 t454)).setCell ⟨gb439, 10, none⟩ (.int .i64 t455)).setCell ⟨gb439, 11, none⟩ (.slice Ao36 t456.length co36)).setCell ⟨gb439, 12, none⟩ (.bool t459)).setCell ⟨gb439, 13, none⟩ (.int .i64 t460)) w.heap.size (fun k_ => some k_ ≠ (.slice Ao36 t456.length co36 : Value).ownBlock) (.slice Ao20 t433.length co20) t433) := rf HO435 BK439 (by decide) (fun _ hk => hk.2)
          have n1_ : Aside0 (Kd.R (Kd.int .i64) 2 ((((((((((((((w24.setCell ⟨gb439, 0, none⟩ (.int .i64 t445)).setCell ⟨gb439, 1, none⟩ (.int .i64 t446)).setCell ⟨gb439, 2, none⟩ (.int .u64 t447)).setCell ⟨gb439, 3, none⟩ (.int .i64 t448)).setCell ⟨gb439, 4, none⟩ (.int .i64 t449)).setCell ⟨gb439, 5, none⟩ (.int .i64 t450)).setCell ⟨gb439, 6, none⟩ (.int .i64 t451)).setCell ⟨gb439, 7, none⟩ (.int .i64 t452)).setCell ⟨gb439, 8, none⟩ (.int .u16 t453)).setCell ⟨gb439, 9, none⟩ (.int .i64 t454)).setCell ⟨gb439, 10, none⟩ (.int .i64 t455)).setCell ⟨gb439, 11, none⟩ (.slice Ao36 t456.length co36)).setCell ⟨gb439, 12, none⟩ (.bool t459)).setCell ⟨gb439, 13, none⟩ (.int .i64 t460)) w.heap.size (fun k_ => some k_ ≠ (.slice Ao20 t433.length co20 : Value).ownBlock) (.slice Ao36 t456.length co36) t456) := rf HO458 BK439 (by decide) (fun _ hk => hk.2)
          have n2_ : Aside0 (Kd.R k66 66 ((((((((((((((w24.setCell ⟨gb439, 0, none⟩ (.int .i64 t445)).setCell ⟨gb439, 1, none⟩ (.int .i64 t446)).setCell ⟨gb439, 2, none⟩ (.int .u64 t447)).setCell ⟨gb439, 3, none⟩ (.int .i64 t448)).setCell ⟨gb439, 4, none⟩ (.int .i64 t449)).setCell ⟨gb439, 5, none⟩ (.int .i64 t450)).setCell ⟨gb439, 6, none⟩ (.int .i64 t451)).setCell ⟨gb439, 7, none⟩ (.int .i64 t452)).setCell ⟨gb439, 8, none⟩ (.int .u16 t453)).setCell ⟨gb439, 9, none⟩ (.int .i64 t454)).setCell ⟨gb439, 10, none⟩ (.int .i64 t455)).setCell ⟨gb439, 11, none⟩ (.slice Ao36 t456.length co36)).setCell ⟨gb439, 12, none⟩ (.bool t459)).setCell ⟨gb439, 13, none⟩ (.int .i64 t460)) w.heap.size (fun _ => True) v462 t461) := rf HO463 BK439 (by decide) (fun _ hk => trivial)
          have n3_ : Aside0 (((((((((((((((w24.setCell ⟨gb439, 0, none⟩ (.int .i64 t445)).setCell ⟨gb439, 1, none⟩ (.int .i64 t446)).setCell ⟨gb439, 2, none⟩ (.int .u64 t447)).setCell ⟨gb439, 3, none⟩ (.int .i64 t448)).setCell ⟨gb439, 4, none⟩ (.int .i64 t449)).setCell ⟨gb439, 5, none⟩ (.int .i64 t450)).setCell ⟨gb439, 6, none⟩ (.int .i64 t451)).setCell ⟨gb439, 7, none⟩ (.int .i64 t452)).setCell ⟨gb439, 8, none⟩ (.int .u16 t453)).setCell ⟨gb439, 9, none⟩ (.int .i64 t454)).setCell ⟨gb439, 10, none⟩ (.int .i64 t455)).setCell ⟨gb439, 11, none⟩ (.slice Ao36 t456.length co36)).setCell ⟨gb439, 12, none⟩ (.bool t459)).setCell ⟨gb439, 13, none⟩ (.int .i64 t460)).heap[gb439]? = some (.cells #[.int .i64 t445, .int .i64 t446, .int .u64 t447, .int .i64 t448, .int .i64 t449, .int .i64 t450, .int .i64 t451, .int .i64 t452, .int .u16 t453, .int .i64 t454, .int .i64 t455, .slice Ao36 t456.length co36, .bool t459, .int .i64 t460] 32 (0, 0))) := bp14 BK439
          have n4_ : Aside0 (Below w.heap.size w ((((((((((((((w24.setCell ⟨gb439, 0, none⟩ (.int .i64 t445)).setCell ⟨gb439, 1, none⟩ (.int .i64 t446)).setCell ⟨gb439, 2, none⟩ (.int .u64 t447)).setCell ⟨gb439, 3, none⟩ (.int .i64 t448)).setCell ⟨gb439, 4, none⟩ (.int .i64 t449)).setCell ⟨gb439, 5, none⟩ (.int .i64 t450)).setCell ⟨gb439, 6, none⟩ (.int .i64 t451)).setCell ⟨gb439, 7, none⟩ (.int .i64 t452)).setCell ⟨gb439, 8, none⟩ (.int .u16 t453)).setCell ⟨gb439, 9, none⟩ (.int .i64 t454)).setCell ⟨gb439, 10, none⟩ (.int .i64 t455)).setCell ⟨gb439, 11, none⟩ (.slice Ao36 t456.length co36)).setCell ⟨gb439, 12, none⟩ (.bool t459)).setCell ⟨gb439, 13, none⟩ (.int .i64 t460))) := ⟨bse HB⟩
          (try clear HO435)
          (try clear HO458)
          (try clear HO463)
          (try clear BK439)
          (try clear HB)
          generalize ((((((((((((((w24.setCell ⟨gb439, 0, none⟩ (.int .i64 t445)).setCell ⟨gb439, 1, none⟩ (.int .i64 t446)).setCell ⟨gb439, 2, none⟩ (.int .u64 t447)).setCell ⟨gb439, 3, none⟩ (.int .i64 t448)).setCell ⟨gb439, 4, none⟩ (.int .i64 t449)).setCell ⟨gb439, 5, none⟩ (.int .i64 t450)).setCell ⟨gb439, 6, none⟩ (.int .i64 t451)).setCell ⟨gb439, 7, none⟩ (.int .i64 t452)).setCell ⟨gb439, 8, none⟩ (.int .u16 t453)).setCell ⟨gb439, 9, none⟩ (.int .i64 t454)).setCell ⟨gb439, 10, none⟩ (.int .i64 t455)).setCell ⟨gb439, 11, none⟩ (.slice Ao36 t456.length co36)).setCell ⟨gb439, 12, none⟩ (.bool t459)).setCell ⟨gb439, 13, none⟩ (.int .i64 t460)) = w40 at n0_ n1_ n2_ n3_ n4_ ⊢
          have HO435 := n0_
          have HO458 := n1_
          have HO463 := n2_
          have BK439 := n3_
          have HB := n4_
          clear n0_ n1_ n2_ n3_ n4_
          replace HO435 := asd (Kd.R_drew HO435.out)
          replace HO458 := asd (Kd.R_drew HO458.out)
          replace HO463 := asd (Kd.R_drew HO463.out)
          replace BK439 := asd (blk_drew BK439.out)
          replace HB := asd (below_drew1 HB.out)
          refine start_ (n := 10) (S := fun w' => w'.cell? ⟨gb439, 0, none⟩ = some (.int .i64 t445) ∧ w'.cell? ⟨gb439, 1, none⟩ = some (.int .i64 t446) ∧ w'.cell? ⟨gb439, 2, none⟩ = some (.int .u64 t447) ∧ w'.cell? ⟨gb439, 3, none⟩ = some (.int .i64 t448) ∧ w'.cell? ⟨gb439, 4, none⟩ = some (.int .i64 t449) ∧ w'.cell? ⟨gb439, 5, none⟩ = some (.int .i64 t450) ∧ w'.cell? ⟨gb439, 6, none⟩ = some (.int .i64 t451) ∧ w'.cell? ⟨gb439, 7, none⟩ = some (.int .i64 t452) ∧ w'.cell? ⟨gb439, 8, none⟩ = some (.int .u16 t453) ∧ w'.cell? ⟨gb439, 9, none⟩ = some (.int .i64 t454) ∧ w'.cell? ⟨gb439, 10, none⟩ = some (.int .i64 t455) ∧ w'.cell? ⟨gb439, 11, none⟩ = some (.slice Ao36 t456.length co36) ∧ w'.cell? ⟨gb439, 12, none⟩ = some (.bool t459) ∧ w'.cell? ⟨gb439, 13, none⟩ = some (.int .i64 t460)) (ds := [7]) (fb 10 0) (by kernel_rfl) rfl rfl ⟨(blk_cell BK439.out 0).trans rfl, (blk_cell BK439.out 1).trans rfl, (blk_cell BK439.out 2).trans rfl, (blk_cell BK439.out 3).trans rfl, (blk_cell BK439.out 4).trans rfl, (blk_cell BK439.out 5).trans rfl, (blk_cell BK439.out 6).trans rfl, (blk_cell BK439.out 7).trans rfl, (blk_cell BK439.out 8).trans rfl, (blk_cell BK439.out 9).trans rfl, (blk_cell BK439.out 10).trans rfl, (blk_cell BK439.out 11).trans rfl, (blk_cell BK439.out 12).trans rfl, (blk_cell BK439.out 13).trans rfl⟩ (fun hHeld => ?_); refine with_tabW palletlaw13_live.tab3 palletlaw13_live.bits3 (fun HT_ HW_ => ?_)
          generalize w40.drew = w41 at HO435 HO458 HO463 BK439 HB hHeld ⊢
          refine ti 1 22 10 2 hHeld ?_ (hc := take_ofW HT_.out HW_.out (by kernel_rfl))
          refine one_ (i := 0) (N := some 21) (fb 10 3) rfl rfl (one_of HT_.out (by kernel_rfl)) (by decide) (fun K hK => ?_)
          refine goes_ Tryz.func28 (by kernel_rfl) rfl #[] (by rfl) rfl rfl (by (try simp only [List.map_toArray, List.map_cons, List.map_nil]); first | done | rfl | (simp only [List.length_drop, List.length_take]; first | rfl | (rw [Nat.min_eq_left (Int.toNat_le.2 (of_decide_eq_true (by assumption)))]; rfl))) ?_
          with_reducible refine (palletlaw13_four.calls  t465 t466 t467 t468 t469 _ A5.out).mono ?_
          rintro e w42 ⟨rfl, hb⟩
          refine ⟨_, rfl, ?_⟩
          replace HO435 := rb HO435 hb
          replace HO458 := rb HO458 hb
          replace HO463 := rb HO463 hb
          replace BK439 := bb BK439 hb
          replace HB := bs HB hb
          (try clear hb)
          (try clear hb2)
          (try clear hk)
          (try clear hi)
          refine hK.out _ _ ⟨(blk_cell BK439.out 0).trans rfl, (blk_cell BK439.out 1).trans rfl, (blk_cell BK439.out 2).trans rfl, (blk_cell BK439.out 3).trans rfl, (blk_cell BK439.out 4).trans rfl, (blk_cell BK439.out 5).trans rfl, (blk_cell BK439.out 6).trans rfl, (blk_cell BK439.out 7).trans rfl, (blk_cell BK439.out 8).trans rfl, (blk_cell BK439.out 9).trans rfl, (blk_cell BK439.out 10).trans rfl, (blk_cell BK439.out 11).trans rfl, (blk_cell BK439.out 12).trans rfl, (blk_cell BK439.out 13).trans rfl⟩ (fun hHeld => ?_)
          clear hK K
          refine norm_ (a' := ?_) ?_ ?_
          rotate_left
          ·show Act.put _ (some 21) _ = _
           simp only [Act.put, List.setIfInBounds_toArray, List.set_cons_zero, List.set_cons_succ, i64_w, i32_w]
           rfl
          refine one_ (i := 2) (N := some 23) (fb 10 7) rfl rfl (one_of HT_.out (by kernel_rfl)) (by decide) (fun K hK => ?_)
          refine goes_ Tryz.func23 (by kernel_rfl) rfl #[.agg #[.int .i64 t465, .int .i64 t466, .int .i64 t467, .int .i64 t468, .int .i64 t469], .agg #[.int .i64 t445, .int .i64 t446, .int .u64 t447, .int .i64 t448, .int .i64 t449, .int .i64 t450, .int .i64 t451, .int .i64 t452, .int .u16 t453, .int .i64 t454, .int .i64 t455, .slice Ao36 t456.length co36, .bool t459, .int .i64 t460], .int .i64 10000] (by rfl) rfl rfl (by (try simp only [List.map_toArray, List.map_cons, List.map_nil]); first | done | rfl | (simp only [List.length_drop, List.length_take]; first | rfl | (rw [Nat.min_eq_left (Int.toNat_le.2 (of_decide_eq_true (by assumption)))]; rfl))) ?_
          with_reducible refine (node_Timer.calls k t465 t466 t467 t468 t469 t445 t446 t447 t448 t449 t450 t451 t452 t453 t454 t455 _ _ t456 t459 t460 10000 t470 t471 t472 t473 t474 t475 t476 t477 t478 t479 t480 t481 t484 t485 t486 t489 _ ?side1 ?side2 A6.out).mono ?_
          (case side1 => exact cr (Kd.R_reads' HO458.out).2.2)
          (case side2 => exact (Kd.R_reads' HO458.out).2.1)
          rintro e w43 ⟨v482, v487, rfl, ho0, ho1, hb⟩
          refine ⟨_, rfl, ?_⟩
          have HO483 := asd (Kd.R_lower (Kd.R_new' (Kd.R_new' ho0 (Kd.R_lt (re HO435).out)) (Kd.R_lt (re HO458).out)) (below_size (bse HB)))
          have HO488 := asd (Kd.R_lower (Kd.R_new' ho1 (Kd.R_lt (re HO463).out)) (below_size (bse HB)))
          replace HO435 := asd (Kd.R_elder' (re HO435).out (Kd.R_base ho0) hb)
          replace HO458 := asd (Kd.R_elder' (re HO458).out (Kd.R_base ho0) hb)
          replace HO463 := asd (Kd.R_elder' (re HO463).out (Kd.R_base ho1) hb)
          replace BK439 := bb BK439 hb
          replace HB := bs HB hb
          (try clear hb)
          (try clear hb2)
          (try clear hk)
          (try clear hi)
          (try clear ho0)
          (try clear ho1)
          obtain ⟨Ao55, co55, eo55⟩ := Kd.R_slice HO483.out
          (first | subst eo55 | (injection eo55 with f1_ f2_ f3_; have f4_ := f1_.symm; have f5_ := f3_.symm; clear f1_ f2_ f3_; subst f4_; subst f5_))
          refine hK.out _ _ ⟨(blk_cell BK439.out 0).trans rfl, (blk_cell BK439.out 1).trans rfl, (blk_cell BK439.out 2).trans rfl, (blk_cell BK439.out 3).trans rfl, (blk_cell BK439.out 4).trans rfl, (blk_cell BK439.out 5).trans rfl, (blk_cell BK439.out 6).trans rfl, (blk_cell BK439.out 7).trans rfl, (blk_cell BK439.out 8).trans rfl, (blk_cell BK439.out 9).trans rfl, (blk_cell BK439.out 10).trans rfl, (blk_cell BK439.out 11).trans rfl, (blk_cell BK439.out 12).trans rfl, (blk_cell BK439.out 13).trans rfl⟩ (fun hHeld => ?_)
          clear hK K
          refine norm_ (a' := ?_) ?_ ?_
          rotate_left
          ·show Act.put _ (some 23) _ = _
           simp only [Act.put, List.setIfInBounds_toArray, List.set_cons_zero, List.set_cons_succ, i64_w, i32_w]
           rfl
          refine pi 3 20 10 15 ?_ (hc := any_of HT_.out (by kernel_rfl))
          refine pi 4 24 10 31 ?_ (hc := any_of HT_.out (by kernel_rfl))
          refine pi 5 25 10 63 ?_ (hc := any_of HT_.out (by kernel_rfl))
          refine pi 6 26 10 127 ?_ (hc := any_of HT_.out (by kernel_rfl))
          refine last_ (i := 7) (N := none) (fb 10 255) rfl rfl (one_of HT_.out (by kernel_rfl)) (by decide) (fun K hK => ?_)
          have hs44 : w43.cell? ⟨gb439, 0, none⟩ = some (.int .i64 t445) := (blk_cell BK439.out 0).trans rfl
          have hfs44 := blk_frozen BK439.out 0
          have hs45 : w43.cell? ⟨gb439, 1, none⟩ = some (.int .i64 t446) := (blk_cell BK439.out 1).trans rfl
          have hfs45 := blk_frozen BK439.out 1
          have hs46 : w43.cell? ⟨gb439, 2, none⟩ = some (.int .u64 t447) := (blk_cell BK439.out 2).trans rfl
          have hfs46 := blk_frozen BK439.out 2
          have hs47 : w43.cell? ⟨gb439, 3, none⟩ = some (.int .i64 t448) := (blk_cell BK439.out 3).trans rfl
          have hfs47 := blk_frozen BK439.out 3
          have hs48 : w43.cell? ⟨gb439, 4, none⟩ = some (.int .i64 t449) := (blk_cell BK439.out 4).trans rfl
          have hfs48 := blk_frozen BK439.out 4
          have hs49 : w43.cell? ⟨gb439, 5, none⟩ = some (.int .i64 t450) := (blk_cell BK439.out 5).trans rfl
          have hfs49 := blk_frozen BK439.out 5
          have hs50 : w43.cell? ⟨gb439, 6, none⟩ = some (.int .i64 t451) := (blk_cell BK439.out 6).trans rfl
          have hfs50 := blk_frozen BK439.out 6
          have hs51 : w43.cell? ⟨gb439, 7, none⟩ = some (.int .i64 t452) := (blk_cell BK439.out 7).trans rfl
          have hfs51 := blk_frozen BK439.out 7
          have hs52 : w43.cell? ⟨gb439, 8, none⟩ = some (.int .u16 t453) := (blk_cell BK439.out 8).trans rfl
          have hfs52 := blk_frozen BK439.out 8
          have hs53 : w43.cell? ⟨gb439, 9, none⟩ = some (.int .i64 t454) := (blk_cell BK439.out 9).trans rfl
          have hfs53 := blk_frozen BK439.out 9
          have hs54 : w43.cell? ⟨gb439, 10, none⟩ = some (.int .i64 t455) := (blk_cell BK439.out 10).trans rfl
          have hfs54 := blk_frozen BK439.out 10
          have hs56 : w43.cell? ⟨gb439, 11, none⟩ = some (.slice Ao36 t456.length co36) := (blk_cell BK439.out 11).trans rfl
          have hfs56 := blk_frozen BK439.out 11
          have hs57 : w43.cell? ⟨gb439, 12, none⟩ = some (.bool t459) := (blk_cell BK439.out 12).trans rfl
          have hfs57 := blk_frozen BK439.out 12
          have hs58 : w43.cell? ⟨gb439, 13, none⟩ = some (.int .i64 t460) := (blk_cell BK439.out 13).trans rfl
          have hfs58 := blk_frozen BK439.out 13
          refine skip_ (w1 := ?_) (by rfl) rfl ?_ ?_
          rotate_left
          ·go_simp
           rfl
          refine hK.out _ _ ?_
          clear hK K
          refine pi 8 5 10 511 ?_ (hc := any_of HT_.out (by kernel_rfl))
          refine pi 9 6 10 1023 ?_ (hc := any_of HT_.out (by kernel_rfl))
          refine done_ (done_of HT_.out (by kernel_rfl)) ?_
          obtain ⟨Ao59, co59, eo59⟩ := Kd.R_slice HO463.out
          subst eo59
          have p490 : 0 ≤ (1 : Int) := (by omega)
          have q490 : 1 < (t461.length : Int) := of_decide_eq_true (by first | (with_reducible assumption) | assumption)
          obtain ⟨ad490, e490, hx490_0, hx490_1, hx490_2, hx490_3, hx490_4, hx490_5, hx490_6, hx490_7⟩ := at_T66 (Kd.R_reads' HO463.out).2.2 1 p490 q490
          cases e490
          (try simp only [show (1 : Int).toNat = 1 from rfl, Nat.reduceMul, Nat.reduceEqDiff, Go.Addr.add, ↓reduceIte] at hx490_0)
          (try simp only [show (1 : Int).toNat = 1 from rfl, Nat.reduceMul, Nat.reduceEqDiff, Go.Addr.add, ↓reduceIte] at hx490_1)
          (try simp only [show (1 : Int).toNat = 1 from rfl, Nat.reduceMul, Nat.reduceEqDiff, Go.Addr.add, ↓reduceIte] at hx490_2)
          (try simp only [show (1 : Int).toNat = 1 from rfl, Nat.reduceMul, Nat.reduceEqDiff, Go.Addr.add, ↓reduceIte] at hx490_3)
          (try simp only [show (1 : Int).toNat = 1 from rfl, Nat.reduceMul, Nat.reduceEqDiff, Go.Addr.add, ↓reduceIte] at hx490_4)
          (try simp only [show (1 : Int).toNat = 1 from rfl, Nat.reduceMul, Nat.reduceEqDiff, Go.Addr.add, ↓reduceIte] at hx490_5)
          (try simp only [show (1 : Int).toNat = 1 from rfl, Nat.reduceMul, Nat.reduceEqDiff, Go.Addr.add, ↓reduceIte] at hx490_6)
          (try simp only [show (1 : Int).toNat = 1 from rfl, Nat.reduceMul, Nat.reduceEqDiff, Go.Addr.add, ↓reduceIte] at hx490_7)
          have qi490 : (1 < t461.length) = True := eq_true (by omega)
          (try rw [show ((1 : Int)).toNat = 1 from rfl] at hx490_0)
          (try rw [show 1 * 8 = 8 from rfl] at hx490_0)
          (try rw [show ((1 : Int)).toNat = 1 from rfl] at hx490_1)
          (try rw [show 1 * 8 = 8 from rfl] at hx490_1)
          (try rw [show ((1 : Int)).toNat = 1 from rfl] at hx490_2)
          (try rw [show 1 * 8 = 8 from rfl] at hx490_2)
          (try rw [show ((1 : Int)).toNat = 1 from rfl] at hx490_3)
          (try rw [show 1 * 8 = 8 from rfl] at hx490_3)
          (try rw [show ((1 : Int)).toNat = 1 from rfl] at hx490_4)
          (try rw [show 1 * 8 = 8 from rfl] at hx490_4)
          (try rw [show ((1 : Int)).toNat = 1 from rfl] at hx490_5)
          (try rw [show 1 * 8 = 8 from rfl] at hx490_5)
          (try rw [show ((1 : Int)).toNat = 1 from rfl] at hx490_6)
          (try rw [show 1 * 8 = 8 from rfl] at hx490_6)
          (try rw [show ((1 : Int)).toNat = 1 from rfl] at hx490_7)
          (try rw [show 1 * 8 = 8 from rfl] at hx490_7)
          have hn490_0 : ad490.block ≠ gb439 := Kd.own_blk (Kd.R_ne HO463.out BK439.out (by decide))
          have hn490_1 : ad490.block ≠ gb439 := Kd.own_blk (Kd.R_ne HO463.out BK439.out (by decide))
          have hn490_2 : ad490.block ≠ gb439 := Kd.own_blk (Kd.R_ne HO463.out BK439.out (by decide))
          have hn490_3 : ad490.block ≠ gb439 := Kd.own_blk (Kd.R_ne HO463.out BK439.out (by decide))
          have hn490_4 : ad490.block ≠ gb439 := Kd.own_blk (Kd.R_ne HO463.out BK439.out (by decide))
          have hn490_5 : ad490.block ≠ gb439 := Kd.own_blk (Kd.R_ne HO463.out BK439.out (by decide))
          have hn490_6 : ad490.block ≠ gb439 := Kd.own_blk (Kd.R_ne HO463.out BK439.out (by decide))
          have hn490_7 : ad490.block ≠ gb439 := Kd.own_blk (Kd.R_ne HO463.out BK439.out (by decide))
          have hn490_8 : ad490.block ≠ gb439 := Kd.own_blk (Kd.R_ne HO463.out BK439.out (by decide))
          have hn490_9 : ad490.block ≠ gb439 := Kd.own_blk (Kd.R_ne HO463.out BK439.out (by decide))
          have hn490_10 : ad490.block ≠ gb439 := Kd.own_blk (Kd.R_ne HO463.out BK439.out (by decide))
          have hn490_11 : ad490.block ≠ gb439 := Kd.own_blk (Kd.R_ne HO463.out BK439.out (by decide))
          have hn490_12 : ad490.block ≠ gb439 := Kd.own_blk (Kd.R_ne HO463.out BK439.out (by decide))
          have hn490_13 : ad490.block ≠ gb439 := Kd.own_blk (Kd.R_ne HO463.out BK439.out (by decide))
          have q_ := fun w_ => (((((((((((((((Wq.refl gb439 w_).set 0 (.int .i64 t470)).set 1 (.int .i64 t471)).set 2 (.int .u64 t472)).set 3 (.int .i64 t473)).set 4 (.int .i64 t474)).set 5 (.int .i64 t475)).set 6 (.int .i64 t476)).set 7 (.int .i64 t477)).set 8 (.int .u16 t478)).set 9 (.int .i64 t479)).set 10 (.int .i64 t480)).set 11 (.slice Ao55 t481.length co55)).set 12 (.bool t484)).set 13 (.int .i64 t485))
          replace hx490_0 := cq hx490_0 (q_ _) (by first | (rw [add_block]; exact hn490_0) | (show (Addr.add _ _).block ≠ _; rw [add_block]; exact hn490_0) | exact hn490_0)
          replace hx490_1 := cq hx490_1 (q_ _) (by first | (rw [add_block]; exact hn490_0) | (show (Addr.add _ _).block ≠ _; rw [add_block]; exact hn490_0) | exact hn490_0)
          replace hx490_2 := cq hx490_2 (q_ _) (by first | (rw [add_block]; exact hn490_0) | (show (Addr.add _ _).block ≠ _; rw [add_block]; exact hn490_0) | exact hn490_0)
          replace hx490_3 := cq hx490_3 (q_ _) (by first | (rw [add_block]; exact hn490_0) | (show (Addr.add _ _).block ≠ _; rw [add_block]; exact hn490_0) | exact hn490_0)
          replace hx490_4 := cq hx490_4 (q_ _) (by first | (rw [add_block]; exact hn490_0) | (show (Addr.add _ _).block ≠ _; rw [add_block]; exact hn490_0) | exact hn490_0)
          replace hx490_5 := cq hx490_5 (q_ _) (by first | (rw [add_block]; exact hn490_0) | (show (Addr.add _ _).block ≠ _; rw [add_block]; exact hn490_0) | exact hn490_0)
          replace hx490_6 := cq hx490_6 (q_ _) (by first | (rw [add_block]; exact hn490_0) | (show (Addr.add _ _).block ≠ _; rw [add_block]; exact hn490_0) | exact hn490_0)
          replace hx490_7 := cq hx490_7 (q_ _) (by first | (rw [add_block]; exact hn490_0) | (show (Addr.add _ _).block ≠ _; rw [add_block]; exact hn490_0) | exact hn490_0)
          clear q_
          clear hn490_0
          clear hn490_1
          clear hn490_2
          clear hn490_3
          clear hn490_4
          clear hn490_5
          clear hn490_6
          clear hn490_7
          clear hn490_8
          clear hn490_9
          clear hn490_10
          clear hn490_11
          clear hn490_12
          clear hn490_13
          replace p490 := eq_true p490
          replace q490 := eq_true q490
          obtain ⟨Ao60, co60, eo60⟩ := Kd.R_slice HO488.out
          subst eo60
          have p491 : 0 ≤ (1 : Int) := (by omega)
          have q491 : 1 < (t486.length : Int) := of_decide_eq_true (by first | (with_reducible assumption) | assumption)
          obtain ⟨ad491, e491, hx491_0, hx491_1, hx491_2, hx491_3, hx491_4, hx491_5, hx491_6, hx491_7⟩ := at_T66 (Kd.R_reads' HO488.out).2.2 1 p491 q491
          cases e491
          (try simp only [show (1 : Int).toNat = 1 from rfl, Nat.reduceMul, Nat.reduceEqDiff, Go.Addr.add, ↓reduceIte] at hx491_0)
          (try simp only [show (1 : Int).toNat = 1 from rfl, Nat.reduceMul, Nat.reduceEqDiff, Go.Addr.add, ↓reduceIte] at hx491_1)
          (try simp only [show (1 : Int).toNat = 1 from rfl, Nat.reduceMul, Nat.reduceEqDiff, Go.Addr.add, ↓reduceIte] at hx491_2)
          (try simp only [show (1 : Int).toNat = 1 from rfl, Nat.reduceMul, Nat.reduceEqDiff, Go.Addr.add, ↓reduceIte] at hx491_3)
          (try simp only [show (1 : Int).toNat = 1 from rfl, Nat.reduceMul, Nat.reduceEqDiff, Go.Addr.add, ↓reduceIte] at hx491_4)
          (try simp only [show (1 : Int).toNat = 1 from rfl, Nat.reduceMul, Nat.reduceEqDiff, Go.Addr.add, ↓reduceIte] at hx491_5)
          (try simp only [show (1 : Int).toNat = 1 from rfl, Nat.reduceMul, Nat.reduceEqDiff, Go.Addr.add, ↓reduceIte] at hx491_6)
          (try simp only [show (1 : Int).toNat = 1 from rfl, Nat.reduceMul, Nat.reduceEqDiff, Go.Addr.add, ↓reduceIte] at hx491_7)
          have qi491 : (1 < t486.length) = True := eq_true (by omega)
          (try rw [show ((1 : Int)).toNat = 1 from rfl] at hx491_0)
          (try rw [show 1 * 8 = 8 from rfl] at hx491_0)
          (try rw [show ((1 : Int)).toNat = 1 from rfl] at hx491_1)
          (try rw [show 1 * 8 = 8 from rfl] at hx491_1)
          (try rw [show ((1 : Int)).toNat = 1 from rfl] at hx491_2)
          (try rw [show 1 * 8 = 8 from rfl] at hx491_2)
          (try rw [show ((1 : Int)).toNat = 1 from rfl] at hx491_3)
          (try rw [show 1 * 8 = 8 from rfl] at hx491_3)
          (try rw [show ((1 : Int)).toNat = 1 from rfl] at hx491_4)
          (try rw [show 1 * 8 = 8 from rfl] at hx491_4)
          (try rw [show ((1 : Int)).toNat = 1 from rfl] at hx491_5)
          (try rw [show 1 * 8 = 8 from rfl] at hx491_5)
          (try rw [show ((1 : Int)).toNat = 1 from rfl] at hx491_6)
          (try rw [show 1 * 8 = 8 from rfl] at hx491_6)
          (try rw [show ((1 : Int)).toNat = 1 from rfl] at hx491_7)
          (try rw [show 1 * 8 = 8 from rfl] at hx491_7)
          have hn491_0 : ad491.block ≠ gb439 := Kd.own_blk (Kd.R_ne HO488.out BK439.out (by decide))
          have hn491_1 : ad491.block ≠ gb439 := Kd.own_blk (Kd.R_ne HO488.out BK439.out (by decide))
          have hn491_2 : ad491.block ≠ gb439 := Kd.own_blk (Kd.R_ne HO488.out BK439.out (by decide))
          have hn491_3 : ad491.block ≠ gb439 := Kd.own_blk (Kd.R_ne HO488.out BK439.out (by decide))
          have hn491_4 : ad491.block ≠ gb439 := Kd.own_blk (Kd.R_ne HO488.out BK439.out (by decide))
          have hn491_5 : ad491.block ≠ gb439 := Kd.own_blk (Kd.R_ne HO488.out BK439.out (by decide))
          have hn491_6 : ad491.block ≠ gb439 := Kd.own_blk (Kd.R_ne HO488.out BK439.out (by decide))
          have hn491_7 : ad491.block ≠ gb439 := Kd.own_blk (Kd.R_ne HO488.out BK439.out (by decide))
          have hn491_8 : ad491.block ≠ gb439 := Kd.own_blk (Kd.R_ne HO488.out BK439.out (by decide))
          have hn491_9 : ad491.block ≠ gb439 := Kd.own_blk (Kd.R_ne HO488.out BK439.out (by decide))
          have hn491_10 : ad491.block ≠ gb439 := Kd.own_blk (Kd.R_ne HO488.out BK439.out (by decide))
          have hn491_11 : ad491.block ≠ gb439 := Kd.own_blk (Kd.R_ne HO488.out BK439.out (by decide))
          have hn491_12 : ad491.block ≠ gb439 := Kd.own_blk (Kd.R_ne HO488.out BK439.out (by decide))
          have hn491_13 : ad491.block ≠ gb439 := Kd.own_blk (Kd.R_ne HO488.out BK439.out (by decide))
          have q_ := fun w_ => (((((((((((((((Wq.refl gb439 w_).set 0 (.int .i64 t470)).set 1 (.int .i64 t471)).set 2 (.int .u64 t472)).set 3 (.int .i64 t473)).set 4 (.int .i64 t474)).set 5 (.int .i64 t475)).set 6 (.int .i64 t476)).set 7 (.int .i64 t477)).set 8 (.int .u16 t478)).set 9 (.int .i64 t479)).set 10 (.int .i64 t480)).set 11 (.slice Ao55 t481.length co55)).set 12 (.bool t484)).set 13 (.int .i64 t485))
          replace hx491_0 := cq hx491_0 (q_ _) (by first | (rw [add_block]; exact hn491_0) | (show (Addr.add _ _).block ≠ _; rw [add_block]; exact hn491_0) | exact hn491_0)
          replace hx491_1 := cq hx491_1 (q_ _) (by first | (rw [add_block]; exact hn491_0) | (show (Addr.add _ _).block ≠ _; rw [add_block]; exact hn491_0) | exact hn491_0)
          replace hx491_2 := cq hx491_2 (q_ _) (by first | (rw [add_block]; exact hn491_0) | (show (Addr.add _ _).block ≠ _; rw [add_block]; exact hn491_0) | exact hn491_0)
          replace hx491_3 := cq hx491_3 (q_ _) (by first | (rw [add_block]; exact hn491_0) | (show (Addr.add _ _).block ≠ _; rw [add_block]; exact hn491_0) | exact hn491_0)
          replace hx491_4 := cq hx491_4 (q_ _) (by first | (rw [add_block]; exact hn491_0) | (show (Addr.add _ _).block ≠ _; rw [add_block]; exact hn491_0) | exact hn491_0)
          replace hx491_5 := cq hx491_5 (q_ _) (by first | (rw [add_block]; exact hn491_0) | (show (Addr.add _ _).block ≠ _; rw [add_block]; exact hn491_0) | exact hn491_0)
          replace hx491_6 := cq hx491_6 (q_ _) (by first | (rw [add_block]; exact hn491_0) | (show (Addr.add _ _).block ≠ _; rw [add_block]; exact hn491_0) | exact hn491_0)
          replace hx491_7 := cq hx491_7 (q_ _) (by first | (rw [add_block]; exact hn491_0) | (show (Addr.add _ _).block ≠ _; rw [add_block]; exact hn491_0) | exact hn491_0)
          clear q_
          clear hn491_0
          clear hn491_1
          clear hn491_2
          clear hn491_3
          clear hn491_4
          clear hn491_5
          clear hn491_6
          clear hn491_7
          clear hn491_8
          clear hn491_9
          clear hn491_10
          clear hn491_11
          clear hn491_12
          clear hn491_13
          replace p491 := eq_true p491
          replace q491 := eq_true q491
          have hcz61 := cf14 BK439
          try go_wp2
          go_ret
          exact xo (bse HB)
         rw [if_neg c15] at H
         exact absurd H (by simp)
        rw [if_neg c14] at H
        exact absurd H (by simp)
       rw [if_neg c13] at H
       exact absurd H (by simp)
      rw [if_neg c12] at H
      exact absurd H (by simp)
     rw [if_neg c11] at H
     exact absurd H (by simp)
    rw [if_neg c10] at H
    exact absurd H (by simp)
   rw [if_neg c9] at H
   exact absurd H (by simp)
  rw [if_neg c8] at H
  exact absurd H (by simp)
 rw [if_neg c7] at H
 exact absurd H (by simp)


/-! ### slices_Clone_byte_byte: function 94 -/
/-- A copy. -/
def slices_Clone_byte_byte.f (l0 : List Int) : Option (List Int) := if l0.length < 17592186044416 then some l0 else none
theorem slices_Clone_byte_byte.calls (A0 : Option Addr) (c0 : Nat) (l0 r : List Int) (w : World) (hr0 : Kd.C (Kd.int .u8) w A0 l0.length l0) (hc0 : l0.length ≤ c0) (h : slices_Clone_byte_byte.f l0 = some r) :
  Calls Tryz.prog 94 #[.slice A0 l0.length c0] w fun e w' => ∃ v0_ : Value, e = .returned (v0_) ∧ Kd.R (Kd.int .u8) 5 w' w.heap.size (fun _ => True) v0_ r ∧ Below w.heap.size w w' := by
 have HB := asd (Below.refl w.heap.size w)
 unfold slices_Clone_byte_byte.f at h
 by_cases hl : l0.length < 17592186044416
 case neg =>
  rw [if_neg hl] at h
  exact absurd h (by simp)
 rw [if_pos hl] at h
 obtain rfl := Option.some.inj h
 cases A0 with
 | none =>
  have he : ∀ w : World, (Go.binOp .eql 33 (.slice none l0.length c0) (.slice none 0 0)).run Tryz.prog w = .ok (.bool true) w := fun _ => by kernel_rfl
  go_enter Tryz.func94, Tryz.ntmps94
  go_wp2
  go_ret
  have e0 : l0 = [] := by
   by_cases hz : 0 < l0.length
   ·obtain ⟨ad, c, e, _⟩ := Kd.C_get hr0 (0 : Int) 0 (by decide) (by omega)
    cases e
   exact List.eq_nil_of_length_eq_zero (by omega)
  subst e0
  exact ⟨_, rfl, Kd.R_nil _ _ _ _ _, HB.out⟩
 | some ad =>
  have he : ∀ w : World, (Go.binOp .eql 33 (.slice (some ad) l0.length c0) (.slice none 0 0)).run Tryz.prog w = .ok (.bool false) w := fun _ => by kernel_rfl
  go_enter Tryz.func94, Tryz.ntmps94
  go_wp2_with (first | ((with_reducible refine gate_dst (N := 5) rfl ?_); refine Kd.R_lit (Kd.int .u8) _ 5 ?hg (N := 5) ?hd (xs := ([] : List Int)) (inner := []) (ok := fun _ => True) (okp := fun _ => True) ?hr ?hp (fun _ hk => hk) trivial (Below.refl _ _) (Nat.le_refl _) (by simp) ?_; (case hd => rfl); (case hg => rfl); (case hr => first | (go_simp; done) | (go_simp; rfl)); (case hp => exact Reps.none _ _); intro v1 w1 ho hb hg_ hnew_; clear hg_ hnew_; have HO := asd (Kd.R_lower ho (below_size HB.out)); replace HB := asd (below_step HB.out hb); clear hb ho) | ((with_reducible refine gate_builtin (b := .append) (xs := #[.tmp 5, .tmp 6]) rfl ?_); at_builtin; refine Kd.R_append_rows (Kd.int .u8) (w0 := w) w.heap.size rfl (.tmp 5) (.tmp 6) 33 5 (.int .u8 0) 1 rfl Tryz.underlying33 info5 rfl (by decide) (by omega) v1 ([] : List Int) l0 _ _ _ (fun _ => True) (fun _ => False) rfl rfl ?aO ?aR (fun _ _ h => h) (fun _ h => h.elim) ?aF ?aB ?aS ?aL ?_; (case aR => exact Kd.C_below hr0 HB.out); (case aB => exact HB.out); (case aF => exact (fun _ _ => trivial)); (case aO => exact HO.out); (case aS => exact below_size HB.out); (case aL => simp; omega); intro v2 w2 ho hb hg hat; have HO2 := asd ho; replace HB := asd hb; clear ho hb hg hat))
  go_ret
  exact ⟨_, rfl, HO2.out, HB.out⟩

/-! ### bytes_Equal: function 129 -/
def bytes_Equal.f (l0 l1 : List Int) : Option (Bool) := some ((strOfNums l0).toList == (strOfNums l1).toList)
theorem bytes_Equal.calls (A0 : Option Addr) (c0 : Nat) (l0 : List Int) (A1 : Option Addr) (c1 : Nat) (l1 : List Int) (r : Bool) (w : World) (hr0 : Kd.C (Kd.int .u8) w A0 l0.length l0) (hc0 : l0.length ≤ c0) (hr1 : Kd.C (Kd.int .u8) w A1 l1.length l1) (hc1 : l1.length ≤ c1) (h : bytes_Equal.f l0 l1 = some r) :
  Calls Tryz.prog 129 #[.slice A0 l0.length c0, .slice A1 l1.length c1] w fun e w' => e = .returned (.bool r) ∧ Drawn0 w w' := by
 have HR0 := asd hr0
 have HC0 := asd hc0
 clear hr0 hc0
 have HR1 := asd hr1
 have HC1 := asd hc1
 clear hr1 hc1
 unfold bytes_Equal.f at h
 have H := h
 clear h
 obtain rfl := Option.some.inj H
 have hcv3 := Kd.C_string (P := Tryz.prog) (A := A0) (c := c0) Tryz.underlying33 Tryz.underlying5 Tryz.underlying9 HR0.out
 have hcv4 := Kd.C_string (P := Tryz.prog) (A := A1) (c := c1) Tryz.underlying33 Tryz.underlying5 Tryz.underlying9 HR1.out
 go_enter Tryz.func129, Tryz.ntmps129
 go_wp2
 go_ret
 exact xd

-- NOT PRINTED: function 89 (crc_open)

/-! ### crc_build: function 159 -/
/-- The two tables' entries. -/
def crc_it (f : Int → Int) : Nat → Int → Int
 | 0, c => c
 | n + 1, c => f (crc_it f n c)
/-- A table of which so many entries are written. -/
def crc_cells (e : Nat → Int) (k : Nat) : Array Value := ((List.range 256).map fun i => Value.int .u32 (if i < k then e i else 0)).toArray
theorem crc_cells_size (e : Nat → Int) (k : Nat) : (crc_cells e k).size = 256 := by simp [crc_cells]
theorem crc_cells_get (e : Nat → Int) (k i : Nat) (h : i < 256) : (crc_cells e k)[i]? = some (Value.int .u32 (if i < k then e i else 0)) := by
 unfold crc_cells
 rw [List.getElem?_toArray, List.getElem?_map, List.getElem?_range h]
 rfl
theorem crc_cells_zero (e e' : Nat → Int) : crc_cells e 0 = crc_cells e' 0 := by
 unfold crc_cells
 simp
theorem crc_cells_set (e : Nat → Int) (k : Nat) (h : k < 256) : (crc_cells e k).setIfInBounds k (.int .u32 (e k)) = crc_cells e (k + 1) := by
 apply Array.ext_getElem?
 intro i
 rw [Array.getElem?_setIfInBounds]
 by_cases hi : i < 256
 ·rw [crc_cells_get e (k + 1) i hi]
  by_cases c : k = i
  ·subst c
   rw [if_pos rfl, if_pos (by rw [crc_cells_size]; exact hi), if_pos (by omega)]
  rw [if_neg c, crc_cells_get e k i hi]
  congr 2
  by_cases c2 : i < k
  ·rw [if_pos c2, if_pos (by omega)]
  rw [if_neg c2, if_neg (by omega)]
 rw [if_neg (by omega), Array.getElem?_eq_none (by rw [crc_cells_size]; omega), Array.getElem?_eq_none (by rw [crc_cells_size]; omega)]
theorem crc_zero36 : (Tryz.prog.info? 165).map (fun i => (i.zero, i.size)) = some (some (.agg (crc_cells (fun _ => 0) 0)), 256) := by kernel_rfl
def crc_T (e : Nat → Int) : Value := .agg (crc_cells e 256)
theorem crc_put (w : World) (e : Nat → Int) (k n : Nat) (h : k < 256) : ((w.alloc (.cells (crc_cells e k) 165)).drewN n).setCell ⟨w.heap.size, k, none⟩ (.int .u32 (e k)) = (w.alloc (.cells (crc_cells e (k + 1)) 165)).drewN n := by
 show ((w.alloc (.cells (crc_cells e k) 165)).setCell ⟨w.heap.size, k, none⟩ (.int .u32 (e k))).drewN n = _
 rw [World.setCell_alloc_new, crc_cells_set e k h]
theorem crc_one (e : Nat → Int) (k : Nat) : (crc_cells e k).all (·.oneCell') = true := by
 unfold crc_cells
 simp [Value.oneCell']
theorem crc_at (w : World) (c : Array Value) (n : Nat) : ((w.alloc (.cells c 165)).drewN n).heap[w.heap.size]? = some (.cells c 165 (0, 0)) := heap_alloc_last w _
theorem crc_row (w : World) (c : Array Value) (n : Nat) : ((w.alloc (.cells c 165)).drewN n).setRow w.heap.size c = (w.alloc (.cells c 165)).drewN n := by
 show ((w.alloc (.cells c 165)).setRow w.heap.size c).drewN n = _
 rw [World.setRow_alloc_new]
theorem crc_info (e : Nat → Int) (k : Nat) : (Tryz.prog.info? 165).map (·.size) = some (crc_cells e k).size := by
 rw [crc_cells_size]
 exact (zero_of_info crc_zero36).2
theorem crc_setRow_at {w : World} {g : Nat} {c c' : Array Value} {t : TypeId} (h : w.heap[g]? = some (.cells c t (0, 0))) : (w.setRow g c').heap[g]? = some (.cells c' t (0, 0)) := by
 simp [World.setRow, Array.getElem?_modify, h]
theorem crc_setRow_below {w w1 : World} {g : Nat} {c' : Array Value} (h : Below w.heap.size w w1) (hg : w.heap.size ≤ g) : Below w.heap.size w (w1.setRow g c') := by
 refine ⟨h.os, h.tape, h.output, ?_, fun i hi => ?_⟩
 ·simp [World.setRow]
  exact h.size
 rw [← h.block i hi]
 simp only [World.setRow, Array.getElem?_modify]
 rw [if_neg (by omega)]
theorem crc_u8 (x y : Int) : 0 ≤ Go.bits .xor .u8 x y ∧ Go.bits .xor .u8 x y < 256 := by
 show 0 ≤ IntKind.u8.wrap _ ∧ IntKind.u8.wrap _ < 256
 simp only [IntKind.wrap, IntKind.bits, IntKind.signed]
 simp
 omega

/-! ### crc_table24_1: function 160 -/
def crc_table24_1.f (a0 : Int) : Option (Int) := some ((((a0) % 4294967296) * 65536) % 4294967296)
theorem crc_table24_1.calls (a0 r : Int) (w : World) (h : crc_table24_1.f a0 = some r) :
  Calls Tryz.prog 160 #[.int .i64 a0] w fun e w' => e = .returned (.int .u32 r) ∧ Drawn0 w w' := by
 unfold crc_table24_1.f at h
 have H := h
 clear h
 obtain rfl := Option.some.inj H
 go_enter Tryz.func160, Tryz.ntmps160
 go_wp2
 go_ret
 exact xd

/-! ### crc_table24_2: function 161 -/
def crc_table24_2.f (a0 : Int) : Option (Int) := if (Go.bits .and .u32 ((a0 * 2) % 4294967296) 16777216) = 0 then (some ((a0 * 2) % 4294967296)) else (some (Go.bits .xor .u32 ((a0 * 2) % 4294967296) 25578747))
theorem crc_table24_2.calls (a0 r : Int) (w : World) (h : crc_table24_2.f a0 = some r) :
  Calls Tryz.prog 161 #[.int .u32 a0] w fun e w' => e = .returned (.int .u32 r) ∧ Drawn0 w w' := by
 unfold crc_table24_2.f at h
 have H := h
 clear h
 by_cases c2 : (Go.bits .and .u32 ((a0 * 2) % 4294967296) 16777216) = 0
 ·rw [if_pos c2] at H
  have c2b0 := beq_iff_eq.mpr c2
  have c2b1 := bne_eq_false_iff_eq.mpr c2
  clear c2
  obtain rfl := Option.some.inj H
  go_enter Tryz.func161, Tryz.ntmps161
  go_wp2
  go_ret
  exact xd
 rw [if_neg c2] at H
 have c2b0 := beq_eq_false_iff_ne.mpr c2
 have c2b1 := bne_iff_ne.mpr c2
 obtain rfl := Option.some.inj H
 go_enter Tryz.func161, Tryz.ntmps161
 go_wp2
 go_ret
 exact xd

-- NOT PRINTED: function 147 (crc_table24)

/-! ### crc_Sum24: function 130 -/
def crc_s24 (c : Int) : Int := if (Go.bits .and .u32 ((c * 2) % 4294967296) 16777216) = 0 then (c * 2) % 4294967296 else Go.bits .xor .u32 ((c * 2) % 4294967296) 25578747
def crc_e24 (i : Nat) : Int := crc_it crc_s24 8 ((((i : Int) % 4294967296) * 65536) % 4294967296)
theorem crc_s24_f (c : Int) : crc_table24_2.f c = some (crc_s24 c) := by
 unfold crc_table24_2.f crc_s24
 split <;> rfl
theorem crc_build.at24 (w : World) : Calls Tryz.prog 159 #[.func (.func 160) #[] #[], .func (.func 161) #[] #[]] w fun e w' => e = .returned (crc_T crc_e24) ∧ Below w.heap.size w w' := by
 obtain ⟨hz, hi⟩ := zero_of_info crc_zero36
 go_enter Tryz.func159, Tryz.ntmps159
 go_wp2
 rw [crc_cells_zero _ crc_e24]
 go_loopw [7] (fun i wr => ∃ k : Nat, k ≤ 256 ∧ i = .int .i64 k ∧ ∃ nd, wr = (w.alloc (.cells (crc_cells crc_e24 k) 165)).drewN nd) (fun i _ => 256 - (intOf i).toNat)
 case atStart => exact ⟨0, by decide, rfl, 0, rfl⟩
 case round =>
  obtain ⟨k, hk, rfl, nd, rfl⟩ := hrel
  by_cases hlt : k < 256
  ·have hf1 : crc_table24_1.f (k : Int) = some ((((k : Int) % 4294967296) * 65536) % 4294967296) := rfl
   have HF1 := asd hf1
   clear hf1
   obtain ⟨c0, hc0⟩ : ∃ c0, (((k : Int) % 4294967296) * 65536) % 4294967296 = c0 := ⟨_, rfl⟩
   rw [hc0] at HF1
   have HC0 := asd hc0
   clear hc0
   go_wp2_with (go_at_call 160; (with_reducible refine (crc_table24_1.calls (k : Int) _ _ HF1.out).mono ?_); rintro e w' ⟨rfl, ⟨⟨n1, rfl⟩⟩⟩)
   go_loopw [6, 13] (fun c j wr => ∃ q : Nat, q ≤ 8 ∧ j = .int .i64 q ∧ c = .int .u32 (crc_it crc_s24 q c0) ∧ ∃ nd, wr = (w.alloc (.cells (crc_cells crc_e24 k) 165)).drewN nd) (fun _ j _ => 8 - (intOf j).toNat)
   case atStart => exact ⟨0, by decide, rfl, rfl, _, rfl⟩
   case round =>
    obtain ⟨q, hq, rfl, rfl, nd2, rfl⟩ := hrel
    by_cases hq8 : q < 8
    ·have HF2 := asd (crc_s24_f (crc_it crc_s24 q c0))
     go_wp2_with (go_at_call 161; (with_reducible refine (crc_table24_2.calls (crc_it crc_s24 q c0) _ _ HF2.out).mono ?_); rintro e w' ⟨rfl, ⟨⟨n2, rfl⟩⟩⟩)
     go_roundw
     case rel => exact ⟨q + 1, by omega, by go_num, rfl, _, rfl⟩
     case measure => simp [intOf]; omega
    obtain rfl : q = 8 := by omega
    have hend : crc_it crc_s24 8 c0 = crc_e24 k := by rw [← HC0.out]; rfl
    rw [hend]
    clear hend
    have hcell : ((w.alloc (.cells (crc_cells crc_e24 k) 165)).drewN nd2).cell? ⟨w.heap.size, k, none⟩ = some (.int .u32 0) := by
     have h := cell_of_row (w.alloc (.cells (crc_cells crc_e24 k) 165)) w.heap.size k (crc_cells crc_e24 k) 165 (0, 0) (heap_alloc_last w _)
     rw [crc_cells_get _ _ _ hlt, if_neg (by omega)] at h
     exact h
    go_wp2
    go_roundw
    case rel => exact ⟨k + 1, by omega, by go_num, nd2, crc_put w crc_e24 k nd2 hlt⟩
    case measure => simp [intOf]; omega
  obtain rfl : k = 256 := by omega
  have HG := asd (crc_at w (crc_cells crc_e24 256) nd)
  have HI := asd (crc_info crc_e24 256)
  clear hi hz
  go_wp2_with (first | (refine wpList_load_row rfl 165 (.tmp 4) rfl w.heap.size rfl 165 (crc_cells crc_e24 256) (0, 0) _ HG.out Tryz.underlying165 rfl HI.out ?_) | (refine wpList_store_row rfl 165 (.tmp 4) (.tmp 23) rfl w.heap.size (crc_cells crc_e24 256) rfl rfl 165 (crc_cells crc_e24 256) HG.out HI.out rfl (crc_one _ _) ?_; rw [crc_row]))
  refine bodyPost_ret (results_cell_row rfl _ _ w.heap.size 165 (crc_cells crc_e24 256) (0, 0) _ rfl HG.out Tryz.underlying165 rfl HI.out) rfl ?_
  exact ⟨rfl, pw_below_drewN (below_alloc (Below.refl _ _) _) _⟩
theorem crc_table24.made (w : World) : Calls Tryz.prog 147 #[] w fun e w' => e = .returned (crc_T crc_e24) ∧ Below w.heap.size w w' := by
 obtain ⟨hz, hi⟩ := zero_of_info crc_zero36
 clear hi
 have HI := asd (crc_info crc_e24 256)
 go_enter Tryz.func147, Tryz.ntmps147
 go_wp2_with (first | (go_at_call 159; (with_reducible refine (crc_build.at24 _).mono ?_); rintro e w1 ⟨rfl, hb⟩; have HG := asd (blk_below (blk_new w _) hb); have HB := asd (below_step (below_alloc (Below.refl w.heap.size w) _) hb); clear hb) | (refine wpList_store_row rfl 165 (.tmp 0) (.tmp 1) rfl w.heap.size (crc_cells crc_e24 256) rfl rfl 165 (crc_cells (fun _ => 0) 0) HG.out HI.out (by rw [crc_cells_size, crc_cells_size]) (crc_one _ _) ?_))
 refine bodyPost_ret (results_cell_row rfl _ _ w.heap.size 165 (crc_cells crc_e24 256) (0, 0) _ rfl (crc_setRow_at HG.out) Tryz.underlying165 rfl HI.out) rfl ?_
 exact ⟨rfl, crc_setRow_below HB.out (Nat.le_refl _)⟩
/-- The sum of 24 bits, byte by byte, out of its table. -/
def crc_b24 (c y : Int) : Int := Go.bits .xor .u32 (Go.bits .and .u32 ((c * 256) % 4294967296) 16777215) (crc_e24 (Go.bits .xor .u8 ((c / 65536) % 256) y).toNat)
def crc_Sum24.f (l0 : List Int) : Option (Int) := if l0.length ≤ 140737488355328 then some (l0.foldl crc_b24 11994318) else none
theorem crc_Sum24.calls (A0 : Option Addr) (c0 : Nat) (l0 : List Int) (r : Int) (w : World) (hr0 : Kd.C (Kd.int .u8) w A0 l0.length l0) (hc0 : l0.length ≤ c0) (h : crc_Sum24.f l0 = some r) : Calls Tryz.prog 130 #[.slice A0 l0.length c0] w fun e w' => e = .returned (.int .u32 r) ∧ Below w.heap.size w w' := by
 obtain ⟨hz, hi⟩ := zero_of_info crc_zero36
 clear hi
 unfold crc_Sum24.f at h
 by_cases hl : l0.length ≤ 140737488355328
 case neg =>
  rw [if_neg hl] at h
  cases h
 rw [if_pos hl] at h
 have HR := asd (Option.some.inj h)
 clear h
 have HI := asd (crc_info crc_e24 256)
 go_enter Tryz.func130, Tryz.ntmps130
 go_wp2_with (first | (go_at_call 147; (with_reducible refine (crc_table24.made _).mono ?_); rintro e w1 ⟨rfl, hb⟩; have HG := asd (crc_at w1 (crc_cells (fun _ => 0) 0) 0); have HB := asd hb; clear hb) | (refine wpList_store_row rfl 165 (.tmp 3) (.tmp 7) rfl w1.heap.size (crc_cells crc_e24 256) rfl rfl 165 (crc_cells (fun _ => 0) 0) HG.out HI.out (by rw [crc_cells_size, crc_cells_size]) (crc_one _ _) ?_; rw [World.setRow_alloc_new]))
 have HC := asd (Kd.C_below hr0 (below_alloc HB.out (.cells (crc_cells crc_e24 256) 165)))
 clear hr0
 have HT := asd (heap_alloc_last w1 (.cells (crc_cells crc_e24 256) 165))
 go_loop [4, 10] (fun c i => ∃ k : Nat, k ≤ l0.length ∧ i = .int .i64 k ∧ c = .int .u32 ((l0.take k).foldl crc_b24 11994318)) (fun _ i => l0.length - (intOf i).toNat)
 case atStart => exact ⟨0, Nat.zero_le _, rfl, rfl⟩
 case round =>
  obtain ⟨k, hk, rfl, rfl⟩ := hrel
  by_cases hlt : k < l0.length
  ·obtain ⟨c, hc⟩ : ∃ c, (l0.take k).foldl crc_b24 11994318 = c := ⟨_, rfl⟩
   rw [hc]
   have hnext : (l0.take (k + 1)).foldl crc_b24 11994318 = crc_b24 c (rd l0 (k : Int)) := by
    rw [List.take_succ_eq_append_getElem hlt, List.foldl_append, hc]
    simp [rd, hlt]
   have HN := asd hnext
   clear hnext hc
   obtain ⟨ad, ea, hx⟩ := Kd.at_int HC.out (k : Int) (by omega) (by omega)
   subst ea
   rw [Int.toNat_natCast] at hx
   have hidx := crc_u8 ((c / 65536) % 256) (rd l0 (k : Int))
   obtain ⟨hi0, hi1⟩ := hidx
   have hcell := cell_of_row _ w1.heap.size (Go.bits .xor .u8 ((c / 65536) % 256) (rd l0 (k : Int))).toNat _ 165 (0, 0) HT.out
   rw [crc_cells_get _ _ _ (by omega), if_pos (by omega)] at hcell
   go_wp2
   go_round
   case rel => exact ⟨k + 1, by omega, by go_num, by rw [HN.out]; rfl⟩
   case measure => simp [intOf]; omega
  obtain rfl : k = l0.length := by omega
  go_wp2
  go_ret
  exact ⟨by rw [← HR.out]; rfl, below_alloc HB.out _⟩

/-! ### crc_tail24: function 90 -/
def crc_tail24.f (l0 : List Int) : Option (List Int) := (crc_Sum24.f l0).bind fun t492 => (some (([(t492 / 65536) % 256, (t492 / 256) % 256, (t492) % 256] : List Int)))
theorem crc_tail24.calls (A0 : Option Addr) (c0 : Nat) (l0 r : List Int) (w : World) (hr0 : Kd.C (Kd.int .u8) w A0 l0.length l0) (hc0 : l0.length ≤ c0) (h : crc_tail24.f l0 = some r) :
  Calls Tryz.prog 90 #[.slice A0 l0.length c0] w fun e w' => ∃ v0_ : Value, e = .returned (v0_) ∧ Kd.R (Kd.int .u8) 5 w' w.heap.size (fun _ => True) v0_ r ∧ Below w.heap.size w w' := by
 have HR0 := asd hr0
 have HC0 := asd hc0
 clear hr0 hc0
 have HB := asd (Below.refl w.heap.size w)
 unfold crc_tail24.f at h
 have H := h
 clear h
 obtain ⟨t492, A2, H⟩ := bio H
 obtain ⟨y493, hy493⟩ : ∃ y_ : List Int, y_ = (([(t492 / 65536) % 256, (t492 / 256) % 256, (t492) % 256] : List Int)) := ⟨_, rfl⟩
 replace H : (some y493) = some r := by first | (rw [hy493]; with_reducible exact H) | (have H2_ := (Option.bind_some _ _).symm.trans H; rw [hy493]; with_reducible exact H2_) | (have H2_ := (Option.bind_some _ _).symm.trans H; with_reducible exact H2_) | with_reducible exact H | (rw [hy493]; exact H) | exact H
 have Ny493 := asd hy493
 clear hy493
 obtain rfl := Option.some.inj H
 go_enter Tryz.func90, Tryz.ntmps90
 go_wp2_with (first | ((with_reducible refine gate_callee (f := 130) rfl ?_); refine gC (some 5) Tryz.func130 (crc_Sum24.calls A0 c0 l0 t492 _ ?side1 ?side2 A2.out) ?_; (case side1 => repeat (first | exact HR0.out | (with_reducible refine Kd.C_alloc ?_ _) | (with_reducible refine Kd.C_drewN ?_ _) | (with_reducible refine Kd.C_drew ?_))); (case side2 => exact HC0.out); rintro e w3 ⟨rfl, hb⟩; refine ⟨_, rfl, ?_⟩; replace HB := bs HB hb; (try clear hb)) | ((with_reducible refine gate_dst (N := 14) rfl ?_); refine Kd.R_lit (Kd.int .u8) _ 5 ?hg (N := 14) ?hd (xs := ([(t492 / 65536) % 256, (t492 / 256) % 256, (t492) % 256] : List Int)) (inner := [.int .u8 ((t492 / 65536) % 256), .int .u8 ((t492 / 256) % 256), .int .u8 ((t492) % 256)]) (ok := fun _ => True) (okp := fun _ => True) ?hr ?hp (fun _ hk => hk) trivial (Below.refl _ _) (Nat.le_refl _) (by simp) ?_; (case hd => rfl); (case hg => rfl); (case hr => first | (go_simp; done) | (go_simp; rfl)); (case hp => exact (Reps.one (show Kd.M (Kd.int .u8) _ _ _ ((t492 / 65536) % 256) [.int .u8 ((t492 / 65536) % 256)] from rfl) (Reps.one (show Kd.M (Kd.int .u8) _ _ _ ((t492 / 256) % 256) [.int .u8 ((t492 / 256) % 256)] from rfl) (Reps.one (show Kd.M (Kd.int .u8) _ _ _ ((t492) % 256) [.int .u8 ((t492) % 256)] from rfl) (Reps.none _ _))))); intro v494 w4 ho5 hb hg_ hnew_; clear hg_ hnew_; (first | rw [← Ny493.out] at ho5 | (simp only [Int.reduceToNat] at ho5; rw [← Ny493.out] at ho5)); have HO495 := rl ho5 HB; replace HB := bs HB hb; clear hb ho5))
 go_ret
 exact ⟨_, by first | rfl | (simp [errW_none, errW_some] <;> rfl) | (simp [*, errW_none, errW_some] <;> rfl), by (with_reducible repeat (first | apply Kd.R_alloc | apply Kd.R_drewN | apply Kd.R_drew)); exact HO495.out, bse HB⟩


/-! ### crc_open_at_crc_tail24: function 89 -/
def crc_open_at_crc_tail24.f (l0 : List Int) (a1 : Int)  : Option (List Int × Int) := if (wrap64 ((l0.length : Int) - a1)) < 0 then (some (([] : List Int), 3)) else (if (wrap64 ((l0.length : Int) - a1)) > 1048576 then (some (([] : List Int), 6)) else (if 0 ≤ (wrap64 ((l0.length : Int) - a1)) then (if (wrap64 ((l0.length : Int) - a1)) ≤ (l0.length : Int) then ((crc_tail24.f (l0.take ((wrap64 ((l0.length : Int) - a1)) : Int).toNat)).bind fun t497 => ((bytes_Equal.f t497 (l0.drop ((wrap64 ((l0.length : Int) - a1)) : Int).toNat)).bind fun t501 => (if t501 = true then ((slices_Clone_byte_byte.f (l0.take ((wrap64 ((l0.length : Int) - a1)) : Int).toNat)).bind fun t503 => (some (t503, 0))) else (some (([] : List Int), 5))))) else (none)) else (none)))
def crc_open_at_crc_tail24.T6 : Bool × List (List Nat × List Nat) := (true, [([], []), ([], []), ([], []), ([1, 2], [1, 2]), ([0, 3], [0, 3]), ([], []), ([], []), ([5, 6], [5, 6]), ([4, 7, 4], [4, 7]), ([8], [8]), ([9, 8], [9])])
def crc_open_at_crc_tail24.B6 : List Nat := [0, 0, 0, 6, 15, 0, 0, 96, 255, 511, 1023]
theorem crc_open_at_crc_tail24.tab6 : rtab .any (opsOf Tryz.f89 6) = crc_open_at_crc_tail24.T6 := by kernel_rfl
theorem crc_open_at_crc_tail24.bits6 : waitsOk crc_open_at_crc_tail24.T6.2 crc_open_at_crc_tail24.B6 = true := by kernel_rfl
theorem crc_open_at_crc_tail24.calls (A0 : Option Addr) (c0 : Nat) (l0 : List Int) (a1 : Int)  (r1 : List Int) (r2 : Int) (w : World) (hr0 : Kd.C (Kd.int .u8) w A0 l0.length l0) (hc0 : l0.length ≤ c0) (h : crc_open_at_crc_tail24.f l0 a1 = some (r1, r2)) :
  Calls Tryz.prog 89 #[.slice A0 l0.length c0, .int .i64 a1, .func (.func 90) #[] #[]] w fun e w' => ∃ v0_ : Value, e = .returned (.tuple #[v0_, .int .i64 r2]) ∧ Kd.R (Kd.int .u8) 5 w' w.heap.size (fun _ => True) v0_ r1 ∧ Below w.heap.size w w' := by
 have HR0 := asd hr0
 have HC0 := asd hc0
 clear hr0 hc0
 have HB := asd (Below.refl w.heap.size w)
 have H : (if (wrap64 ((l0.length : Int) - a1)) < 0 then (some (([] : List Int), 3)) else (if (wrap64 ((l0.length : Int) - a1)) > 1048576 then (some (([] : List Int), 6)) else (if 0 ≤ (wrap64 ((l0.length : Int) - a1)) then (if (wrap64 ((l0.length : Int) - a1)) ≤ (l0.length : Int) then ((crc_tail24.f (l0.take ((wrap64 ((l0.length : Int) - a1)) : Int).toNat)).bind fun t497 => ((bytes_Equal.f t497 (l0.drop ((wrap64 ((l0.length : Int) - a1)) : Int).toNat)).bind fun t501 => (if t501 = true then ((slices_Clone_byte_byte.f (l0.take ((wrap64 ((l0.length : Int) - a1)) : Int).toNat)).bind fun t503 => (some (t503, 0))) else (some (([] : List Int), 5))))) else (none)) else (none)))) = some (r1, r2) := h
 clear h
 by_cases c4 : (wrap64 ((l0.length : Int) - a1)) < 0
 ·rw [if_pos c4] at H
  have c4b0 := decide_eq_true c4
  clear c4
  simp only [Option.some.injEq, Prod.mk.injEq] at H
  obtain ⟨rfl, rfl⟩ := H
  go_enter Tryz.func89, Tryz.ntmps89
  go_wp2
  go_ret2
  exact ⟨_, by first | rfl | (simp [errW_none, errW_some] <;> rfl) | (simp [*, errW_none, errW_some] <;> rfl), by first | exact Kd.R_nil _ _ _ _ _ | exact Kd.N_nil _ _ _ _ _ | exact Kd.V_nil _ _ _ _ _ | exact Kd.Q_nil _ _ _ _ _ | exact Kd.S_nil _ _ _ _ _, bse HB⟩
 rw [if_neg c4] at H
 have c4b0 := decide_eq_false c4
 clear c4
 by_cases c5 : (wrap64 ((l0.length : Int) - a1)) > 1048576
 ·rw [if_pos c5] at H
  have c5b0 := decide_eq_true c5
  clear c5
  simp only [Option.some.injEq, Prod.mk.injEq] at H
  obtain ⟨rfl, rfl⟩ := H
  go_enter Tryz.func89, Tryz.ntmps89
  go_wp2
  go_ret2
  exact ⟨_, by first | rfl | (simp [errW_none, errW_some] <;> rfl) | (simp [*, errW_none, errW_some] <;> rfl), by first | exact Kd.R_nil _ _ _ _ _ | exact Kd.N_nil _ _ _ _ _ | exact Kd.V_nil _ _ _ _ _ | exact Kd.Q_nil _ _ _ _ _ | exact Kd.S_nil _ _ _ _ _, bse HB⟩
 rw [if_neg c5] at H
 have c5b0 := decide_eq_false c5
 clear c5
 obtain ⟨ji6, hji6⟩ : ∃ j_ : Int, (wrap64 ((l0.length : Int) - a1)) = j_ := ⟨_, rfl⟩
 replace H : (if 0 ≤ (ji6) then (if (ji6) ≤ (l0.length : Int) then ((crc_tail24.f (l0.take ((ji6) : Int).toNat)).bind fun t497 => ((bytes_Equal.f t497 (l0.drop ((ji6) : Int).toNat)).bind fun t501 => (if t501 = true then ((slices_Clone_byte_byte.f (l0.take ((ji6) : Int).toNat)).bind fun t503 => (some (t503, 0))) else (some (([] : List Int), 5))))) else (none)) else (none)) = some (r1, r2) := by first | (rw [hji6] at H; exact H) | (simp only [hji6] at H ⊢; exact H)
 (try rw [hji6] at c4b0)
 (try rw [hji6] at c5b0)
 have hji6w : (IntKind.i64.wrap ((l0.length : Int) - a1)) = ji6 := (i64_w _).trans hji6
 by_cases c7 : 0 ≤ (ji6)
 ·rw [if_pos c7] at H
  have c7b0 := eq_true c7
  have c7b1 := decide_eq_true c7
  clear c7
  by_cases c8 : (ji6) ≤ (l0.length : Int)
  ·rw [if_pos c8] at H
   have c8b0 := eq_true c8
   have c8b1 := decide_eq_true c8
   clear c8
   obtain ⟨t497, A9, H⟩ := bio H
   have c10b0 := eq_true (of_decide_eq_true (by first | (with_reducible assumption) | assumption) : 0 ≤ (ji6))
   have c11b0 := eq_true (of_decide_eq_true (by first | (with_reducible assumption) | assumption) : (ji6) ≤ (l0.length : Int))
   obtain ⟨t501, A12, H⟩ := bio H
   by_cases c13 : t501 = true
   ·subst c13
    rw [if_pos rfl] at H
    have c14b0 := eq_true (of_decide_eq_true (by first | (with_reducible assumption) | assumption) : 0 ≤ (ji6))
    have c15b0 := eq_true (of_decide_eq_true (by first | (with_reducible assumption) | assumption) : (ji6) ≤ (l0.length : Int))
    obtain ⟨t503, A16, H⟩ := bio H
    simp only [Option.some.injEq, Prod.mk.injEq] at H
    obtain ⟨rfl, rfl⟩ := H
    go_enter Tryz.func89, Tryz.ntmps89
    try go_wp2
    replace HB := asd (below_drew1 HB.out)
    obtain ⟨i018, hi018, _, hsz18, _⟩ := info_parts info5
    obtain ⟨hcut18, hA18, hC18⟩ := print_take_of (P := Tryz.prog) (Value.int .u8) 0 33 5 .i64 Tryz.underlying33 hi018 hsz18 A0 c0 l0 (ji6) (of_decide_eq_true (by first | (with_reducible assumption) | assumption)) (of_decide_eq_true (by first | (with_reducible assumption) | assumption)) HC0.out
    have HR496 := asd (Kd.C_of_reads (h1 := fun _ => rfl) (hA18 _ (Kd.reads_of_C HR0.out)))
    have HC496 := asd hC18
    clear hA18 hC18 hi018 hsz18
    obtain ⟨i019, hi019, _, hsz19, _⟩ := info_parts info5
    obtain ⟨A19, hcut19, hA19, hC19⟩ := print_drop_of (P := Tryz.prog) (Value.int .u8) 0 33 5 .i64 Tryz.underlying33 hi019 hsz19 A0 c0 l0 (ji6) (of_decide_eq_true (by first | (with_reducible assumption) | assumption)) (of_decide_eq_true (by first | (with_reducible assumption) | assumption)) HC0.out
    have HR500 := asd (Kd.C_of_reads (h1 := fun _ => rfl) (hA19 _ (Kd.reads_of_C HR0.out)))
    have HC500 := asd hC19
    clear hA19 hC19 hi019 hsz19
    refine start_ (n := 11) (S := fun w' => True) (ds := []) (fb 11 0) (by kernel_rfl) rfl rfl trivial (fun hHeld => ?_); refine with_tabW crc_open_at_crc_tail24.tab6 crc_open_at_crc_tail24.bits6 (fun HT_ HW_ => ?_)
    generalize w.drew = w17 at HB HR496 HR500 hHeld ⊢
    refine pi 0 20 11 1 ?_ (hc := any_of HT_.out (by kernel_rfl))
    refine pi 1 21 11 3 ?_ (hc := any_of HT_.out (by kernel_rfl))
    refine pi 2 22 11 7 ?_ (hc := any_of HT_.out (by kernel_rfl))
    refine pi 3 23 11 15 ?_ (hc := any_of HT_.out (by kernel_rfl))
    refine pi 5 25 11 47 ?_ (hc := any_of HT_.out (by kernel_rfl))
    refine pi 6 26 11 111 ?_ (hc := any_of HT_.out (by kernel_rfl))
    refine pi 7 27 11 239 ?_ (hc := any_of HT_.out (by kernel_rfl))
    refine one_ (i := 4) (N := some 24) (fb 11 255) rfl rfl (one_of HT_.out (by kernel_rfl)) (by decide) (fun K hK => ?_)
    refine goesV_ Tryz.func90 (by kernel_rfl) rfl #[.slice A0 (l0.take ((ji6) : Int).toNat).length c0] (by rfl) rfl rfl (by first | rfl | (simp; done) | (go_simp; done)) (by (try simp only [List.map_toArray, List.map_cons, List.map_nil]); first | done | (rw [show (l0.take ((ji6) : Int).toNat).length = (ji6).toNat from (by rw [List.length_take]; have h_ : ((ji6) : Int) ≤ (l0.length : Int) := of_decide_eq_true (by first | (with_reducible assumption) | assumption); omega)] <;> rfl) | (simp only [hji6]; rfl) | rfl | (simp only [List.length_drop, List.length_take]; first | rfl | (rw [Nat.min_eq_left (Int.toNat_le.2 (of_decide_eq_true (by assumption)))]; rfl))) ?_
    with_reducible refine (crc_tail24.calls _ _ (l0.take ((ji6) : Int).toNat) t497 _ ?side1 ?side2 A9.out).mono ?_
    (case side1 => exact cb HR496 HB)
    (case side2 => exact HC496.out)
    rintro e w20 ⟨v498, rfl, ho0, hb⟩
    refine ⟨_, rfl, ?_⟩
    have HO499 := rl ho0 HB
    replace HB := bs HB hb
    (try clear hb)
    (try clear hb2)
    (try clear hk)
    (try clear hi)
    (try clear ho0)
    obtain ⟨Ao21, co21, eo21⟩ := Kd.R_slice HO499.out
    (first | subst eo21 | (injection eo21 with f1_ f2_ f3_; have f4_ := f1_.symm; have f5_ := f3_.symm; clear f1_ f2_ f3_; subst f4_; subst f5_))
    refine hK.out _ _ trivial (fun hHeld => ?_)
    clear hK K
    refine norm_ (a' := ?_) ?_ ?_
    rotate_left
    ·show Act.put _ (some 24) _ = _
     simp only [Act.put, List.setIfInBounds_toArray, List.set_cons_zero, List.set_cons_succ, i64_w, i32_w]
     rfl
    refine one_ (i := 8) (N := some 28) (fb 11 511) rfl rfl (one_of HT_.out (by kernel_rfl)) (by decide) (fun K hK => ?_)
    refine goes_ Tryz.func129 (by kernel_rfl) rfl #[.slice Ao21 t497.length co21, .slice A19 (l0.drop ((ji6) : Int).toNat).length (c0 - (ji6).toNat)] (by rfl) rfl rfl (by (try simp only [List.map_toArray, List.map_cons, List.map_nil]); first | done | (rw [show (l0.drop ((ji6) : Int).toNat).length = (l0.length - (ji6).toNat) from List.length_drop] <;> rfl) | (simp only [hji6]; rfl) | rfl | (simp only [List.length_drop, List.length_take]; first | rfl | (rw [Nat.min_eq_left (Int.toNat_le.2 (of_decide_eq_true (by assumption)))]; rfl))) ?_
    with_reducible refine (bytes_Equal.calls _ _ t497 _ _ (l0.drop ((ji6) : Int).toNat) true _ ?side1 ?side2 ?side3 ?side4 A12.out).mono ?_
    (case side1 => exact cr (Kd.R_reads' HO499.out).2.2)
    (case side2 => exact (Kd.R_reads' HO499.out).2.1)
    (case side3 => exact cb HR500 HB)
    (case side4 => exact HC500.out)
    rintro e w' ⟨rfl, ⟨nd, rfl⟩⟩
    refine ⟨_, rfl, ?_⟩
    refine hK.out _ _ trivial (fun hHeld => ?_)
    clear hK K
    refine norm_ (a' := ?_) ?_ ?_
    rotate_left
    ·show Act.put _ (some 28) _ = _
     simp only [Act.put, List.setIfInBounds_toArray, List.set_cons_zero, List.set_cons_succ, i64_w, i32_w]
     rfl
    refine pi 9 29 11 1023 ?_ (hc := any_of HT_.out (by kernel_rfl))
    refine pi 10 19 11 2047 ?_ (hc := any_of HT_.out (by kernel_rfl))
    refine done_ (done_of HT_.out (by kernel_rfl)) ?_
    obtain ⟨i022, hi022, _, hsz22, _⟩ := info_parts info5
    obtain ⟨hcut22, hA22, hC22⟩ := print_take_of (P := Tryz.prog) (Value.int .u8) 0 33 5 .i64 Tryz.underlying33 hi022 hsz22 A0 c0 l0 (ji6) (of_decide_eq_true (by first | (with_reducible assumption) | assumption)) (of_decide_eq_true (by first | (with_reducible assumption) | assumption)) HC0.out
    have HR502 := asd (Kd.C_of_reads (h1 := fun _ => rfl) (hA22 _ (Kd.reads_of_C HR0.out)))
    have HC502 := asd hC22
    clear hA22 hC22 hi022 hsz22
    try go_wp2_with (first | ((with_reducible refine gate_callee (f := 94) rfl ?_); refine goesL_ (some 33) rfl rfl Tryz.func94 (by kernel_rfl) rfl #[.slice A0 (l0.take ((ji6) : Int).toNat).length c0] rfl (by (try simp only [List.map_toArray, List.map_cons, List.map_nil]); first | done | (rw [show (l0.take ((ji6) : Int).toNat).length = (ji6).toNat from (by rw [List.length_take]; have h_ : ((ji6) : Int) ≤ (l0.length : Int) := of_decide_eq_true (by first | (with_reducible assumption) | assumption); omega)] <;> rfl) | (simp only [hji6]; rfl) | rfl | (simp only [List.length_drop, List.length_take]; first | rfl | (rw [Nat.min_eq_left (Int.toNat_le.2 (of_decide_eq_true (by assumption)))]; rfl))) ?_; (with_reducible refine (slices_Clone_byte_byte.calls _ _ (l0.take ((ji6) : Int).toNat) t503 _ ?side1 ?side2 A16.out).mono ?_); (case side1 => repeat (first | exact (Kd.C_below HR502.out (bse HB)) | (with_reducible refine Kd.C_alloc ?_ _) | (with_reducible refine Kd.C_drewN ?_ _) | (with_reducible refine Kd.C_drew ?_))); (case side2 => exact HC502.out); rintro e w23 ⟨v504, rfl, ho0, hb⟩; refine ⟨_, rfl, ?_⟩; have HO505 := asd (Kd.R_lower (Kd.R_new' ho0 (Kd.R_lt (re HO499).out)) (below_size (bse HB))); replace HO499 := asd (Kd.R_elder' (re HO499).out (Kd.R_base ho0) hb); replace HB := bs HB hb; (try clear hb); (try clear ho0)))
    go_ret2
    exact ⟨_, by first | rfl | (simp [errW_none, errW_some] <;> rfl) | (simp only [← hji6]; first | rfl | (simp [errW_none, errW_some] <;> rfl)) | (simp [*, errW_none, errW_some] <;> rfl), by (with_reducible repeat (first | apply Kd.R_alloc | apply Kd.R_drewN | apply Kd.R_drew)); exact Kd.R_mono HO505.out (fun _ hk => trivial), bse HB⟩
   replace c13 := Bool.eq_false_iff.mpr c13
   subst c13
   rw [if_neg (show ¬ (false = true) by decide)] at H
   simp only [Option.some.injEq, Prod.mk.injEq] at H
   obtain ⟨rfl, rfl⟩ := H
   go_enter Tryz.func89, Tryz.ntmps89
   try go_wp2
   replace HB := asd (below_drew1 HB.out)
   obtain ⟨i025, hi025, _, hsz25, _⟩ := info_parts info5
   obtain ⟨hcut25, hA25, hC25⟩ := print_take_of (P := Tryz.prog) (Value.int .u8) 0 33 5 .i64 Tryz.underlying33 hi025 hsz25 A0 c0 l0 (ji6) (of_decide_eq_true (by first | (with_reducible assumption) | assumption)) (of_decide_eq_true (by first | (with_reducible assumption) | assumption)) HC0.out
   have HR496 := asd (Kd.C_of_reads (h1 := fun _ => rfl) (hA25 _ (Kd.reads_of_C HR0.out)))
   have HC496 := asd hC25
   clear hA25 hC25 hi025 hsz25
   obtain ⟨i026, hi026, _, hsz26, _⟩ := info_parts info5
   obtain ⟨A26, hcut26, hA26, hC26⟩ := print_drop_of (P := Tryz.prog) (Value.int .u8) 0 33 5 .i64 Tryz.underlying33 hi026 hsz26 A0 c0 l0 (ji6) (of_decide_eq_true (by first | (with_reducible assumption) | assumption)) (of_decide_eq_true (by first | (with_reducible assumption) | assumption)) HC0.out
   have HR500 := asd (Kd.C_of_reads (h1 := fun _ => rfl) (hA26 _ (Kd.reads_of_C HR0.out)))
   have HC500 := asd hC26
   clear hA26 hC26 hi026 hsz26
   refine start_ (n := 11) (S := fun w' => True) (ds := []) (fb 11 0) (by kernel_rfl) rfl rfl trivial (fun hHeld => ?_); refine with_tabW crc_open_at_crc_tail24.tab6 crc_open_at_crc_tail24.bits6 (fun HT_ HW_ => ?_)
   generalize w.drew = w24 at HB HR496 HR500 hHeld ⊢
   refine pi 0 20 11 1 ?_ (hc := any_of HT_.out (by kernel_rfl))
   refine pi 1 21 11 3 ?_ (hc := any_of HT_.out (by kernel_rfl))
   refine pi 2 22 11 7 ?_ (hc := any_of HT_.out (by kernel_rfl))
   refine pi 3 23 11 15 ?_ (hc := any_of HT_.out (by kernel_rfl))
   refine pi 5 25 11 47 ?_ (hc := any_of HT_.out (by kernel_rfl))
   refine pi 6 26 11 111 ?_ (hc := any_of HT_.out (by kernel_rfl))
   refine pi 7 27 11 239 ?_ (hc := any_of HT_.out (by kernel_rfl))
   refine one_ (i := 4) (N := some 24) (fb 11 255) rfl rfl (one_of HT_.out (by kernel_rfl)) (by decide) (fun K hK => ?_)
   refine goesV_ Tryz.func90 (by kernel_rfl) rfl #[.slice A0 (l0.take ((ji6) : Int).toNat).length c0] (by rfl) rfl rfl (by first | rfl | (simp; done) | (go_simp; done)) (by (try simp only [List.map_toArray, List.map_cons, List.map_nil]); first | done | (rw [show (l0.take ((ji6) : Int).toNat).length = (ji6).toNat from (by rw [List.length_take]; have h_ : ((ji6) : Int) ≤ (l0.length : Int) := of_decide_eq_true (by first | (with_reducible assumption) | assumption); omega)] <;> rfl) | (simp only [hji6]; rfl) | rfl | (simp only [List.length_drop, List.length_take]; first | rfl | (rw [Nat.min_eq_left (Int.toNat_le.2 (of_decide_eq_true (by assumption)))]; rfl))) ?_
   with_reducible refine (crc_tail24.calls _ _ (l0.take ((ji6) : Int).toNat) t497 _ ?side1 ?side2 A9.out).mono ?_
   (case side1 => exact cb HR496 HB)
   (case side2 => exact HC496.out)
   rintro e w27 ⟨v498, rfl, ho0, hb⟩
   refine ⟨_, rfl, ?_⟩
   have HO499 := rl ho0 HB
   replace HB := bs HB hb
   (try clear hb)
   (try clear hb2)
   (try clear hk)
   (try clear hi)
   (try clear ho0)
   obtain ⟨Ao28, co28, eo28⟩ := Kd.R_slice HO499.out
   (first | subst eo28 | (injection eo28 with f1_ f2_ f3_; have f4_ := f1_.symm; have f5_ := f3_.symm; clear f1_ f2_ f3_; subst f4_; subst f5_))
   refine hK.out _ _ trivial (fun hHeld => ?_)
   clear hK K
   refine norm_ (a' := ?_) ?_ ?_
   rotate_left
   ·show Act.put _ (some 24) _ = _
    simp only [Act.put, List.setIfInBounds_toArray, List.set_cons_zero, List.set_cons_succ, i64_w, i32_w]
    rfl
   refine one_ (i := 8) (N := some 28) (fb 11 511) rfl rfl (one_of HT_.out (by kernel_rfl)) (by decide) (fun K hK => ?_)
   refine goes_ Tryz.func129 (by kernel_rfl) rfl #[.slice Ao28 t497.length co28, .slice A26 (l0.drop ((ji6) : Int).toNat).length (c0 - (ji6).toNat)] (by rfl) rfl rfl (by (try simp only [List.map_toArray, List.map_cons, List.map_nil]); first | done | (rw [show (l0.drop ((ji6) : Int).toNat).length = (l0.length - (ji6).toNat) from List.length_drop] <;> rfl) | (simp only [hji6]; rfl) | rfl | (simp only [List.length_drop, List.length_take]; first | rfl | (rw [Nat.min_eq_left (Int.toNat_le.2 (of_decide_eq_true (by assumption)))]; rfl))) ?_
   with_reducible refine (bytes_Equal.calls _ _ t497 _ _ (l0.drop ((ji6) : Int).toNat) false _ ?side1 ?side2 ?side3 ?side4 A12.out).mono ?_
   (case side1 => exact cr (Kd.R_reads' HO499.out).2.2)
   (case side2 => exact (Kd.R_reads' HO499.out).2.1)
   (case side3 => exact cb HR500 HB)
   (case side4 => exact HC500.out)
   rintro e w' ⟨rfl, ⟨nd, rfl⟩⟩
   refine ⟨_, rfl, ?_⟩
   refine hK.out _ _ trivial (fun hHeld => ?_)
   clear hK K
   refine norm_ (a' := ?_) ?_ ?_
   rotate_left
   ·show Act.put _ (some 28) _ = _
    simp only [Act.put, List.setIfInBounds_toArray, List.set_cons_zero, List.set_cons_succ, i64_w, i32_w]
    rfl
   refine pi 9 29 11 1023 ?_ (hc := any_of HT_.out (by kernel_rfl))
   refine pi 10 19 11 2047 ?_ (hc := any_of HT_.out (by kernel_rfl))
   refine done_ (done_of HT_.out (by kernel_rfl)) ?_
   try go_wp2
   go_ret2
   exact ⟨_, by first | rfl | (simp [errW_none, errW_some] <;> rfl) | (simp only [← hji6]; first | rfl | (simp [errW_none, errW_some] <;> rfl)) | (simp [*, errW_none, errW_some] <;> rfl), by first | exact Kd.R_nil _ _ _ _ _ | exact Kd.N_nil _ _ _ _ _ | exact Kd.V_nil _ _ _ _ _ | exact Kd.Q_nil _ _ _ _ _ | exact Kd.S_nil _ _ _ _ _, bse HB⟩
  rw [if_neg c8] at H
  exact absurd H (by simp)
 rw [if_neg c7] at H
 exact absurd H (by simp)

/-! ### crc_Open24: function 44 -/
def crc_Open24.f (l0 : List Int) : Option (List Int × Int) := (crc_open_at_crc_tail24.f l0 3).bind fun bt506 => (some (bt506.1, bt506.2))
theorem crc_Open24.calls (A0 : Option Addr) (c0 : Nat) (l0 r1 : List Int) (r2 : Int) (w : World) (hr0 : Kd.C (Kd.int .u8) w A0 l0.length l0) (hc0 : l0.length ≤ c0) (h : crc_Open24.f l0 = some (r1, r2)) :
  Calls Tryz.prog 44 #[.slice A0 l0.length c0] w fun e w' => ∃ v0_ : Value, e = .returned (.tuple #[v0_, .int .i64 r2]) ∧ Kd.R (Kd.int .u8) 5 w' w.heap.size (fun _ => True) v0_ r1 ∧ Below w.heap.size w w' := by
 have HR0 := asd hr0
 have HC0 := asd hc0
 clear hr0 hc0
 have HB := asd (Below.refl w.heap.size w)
 have H : ((crc_open_at_crc_tail24.f l0 3).bind fun bt506 => (some (bt506.1, bt506.2))) = some (r1, r2) := h
 clear h
 obtain ⟨⟨t506, t509⟩, A2, H⟩ := bio H
 try dsimp only at H
 simp only [Option.some.injEq, Prod.mk.injEq] at H
 obtain ⟨rfl, rfl⟩ := H
 go_enter Tryz.func44, Tryz.ntmps44
 go_wp2_with (first | ((with_reducible refine gate_callee (f := 89) rfl ?_); refine gC (some 5) Tryz.func89 (crc_open_at_crc_tail24.calls A0 c0 l0 3  t506 t509 _ ?side1 ?side2 A2.out) ?_; (case side1 => repeat (first | exact HR0.out | (with_reducible refine Kd.C_alloc ?_ _) | (with_reducible refine Kd.C_drewN ?_ _) | (with_reducible refine Kd.C_drew ?_))); (case side2 => exact HC0.out); rintro e w3 ⟨v507, rfl, ho0, hb⟩; refine ⟨_, rfl, ?_⟩; have HO508 := rl ho0 HB; replace HB := bs HB hb; (try clear hb); (try clear ho0)))
 go_ret2
 exact ⟨_, by first | rfl | (simp [errW_none, errW_some] <;> rfl) | (simp [*, errW_none, errW_some] <;> rfl), by (with_reducible repeat (first | apply Kd.R_alloc | apply Kd.R_drewN | apply Kd.R_drew)); exact HO508.out, bse HB⟩


/-! ### wire_wide: function 91 -/
def wire_wide.f (a0 : Int) : Option (Bool) := if a0 > 0 then (some (decide (a0 ≤ 8))) else (some false)
theorem wire_wide.calls (a0 : Int) (r : Bool) (w : World) (h : wire_wide.f a0 = some r) :
  Calls Tryz.prog 91 #[.int .i64 a0] w fun e w' => e = .returned (.bool r) ∧ Drawn0 w w' := by
 unfold wire_wide.f at h
 have H := h
 clear h
 by_cases c2 : a0 > 0
 ·rw [if_pos c2] at H
  have c2b0 := decide_eq_true c2
  clear c2
  obtain rfl := Option.some.inj H
  go_enter Tryz.func91, Tryz.ntmps91
  go_wp2
  go_ret
  exact xd
 rw [if_neg c2] at H
 have c2b0 := decide_eq_false c2
 clear c2
 obtain rfl := Option.some.inj H
 go_enter Tryz.func91, Tryz.ntmps91
 go_wp2
 go_ret
 exact xd

/-! ### wire_TakeFixed: function 46 -/
mutual
def wire_TakeFixed.j0 : Nat → List Int → Int → Int → Int → Bool → Option (Int × Int × Int)
 | 0, _, _, _, _, _ => none
 | k + 1, x0, x1, x2, x6, x11 => if x11 = true then (some (0, 0, 1)) else (if x1 > (wrap64 ((x0.length : Int) - x2)) then (some (0, 0, 3)) else (if 0 ≤ x1 then (if x1 ≤ (wrap64 (x1 + x2)) then (if (wrap64 (x1 + x2)) ≤ (x0.length : Int) then (wire_TakeFixed.l0 k x1 x2 x6 ((x0.take ((wrap64 (x1 + x2)) : Int).toNat).drop (x1 : Int).toNat) (((x0.take ((wrap64 (x1 + x2)) : Int).toNat).drop (x1 : Int).toNat).length : Int) 0) else (none)) else (none)) else (none)))
def wire_TakeFixed.l0 : Nat → Int → Int → Int → List Int → Int → Int → Option (Int × Int × Int)
 | 0, _, _, _, _, _, _ => none
 | k + 1, x1, x2, x6, x31, x32, x33 => if x33 < x32 then (if 0 ≤ x33 then (if x33 < (x31.length : Int) then (wire_TakeFixed.l0 k x1 x2 (IntKind.u64.wrap ((IntKind.u64.wrap (x6 * 256)) + (IntKind.u64.wrap (rd x31 x33)))) x31 x32 (wrap64 (x33 + 1))) else (none)) else (none)) else (some (x6, wrap64 (x1 + x2), 0))
end
def wire_TakeFixed.f (k : Nat) (l0 : List Int) (a1 a2 : Int) : Option (Int × Int × Int) := if a1 < 0 then (wire_TakeFixed.j0 k l0 a1 a2 0 true) else ((wire_wide.f a2).bind fun t510 => (wire_TakeFixed.j0 k l0 a1 a2 0 (!t510)))
theorem wire_TakeFixed.calls (k : Nat) (A0 : Option Addr) (c0 : Nat) (l0 : List Int) (a1 a2 r1 r2 r3 : Int) (w : World) (hr0 : Kd.C (Kd.int .u8) w A0 l0.length l0) (hc0 : l0.length ≤ c0) (h : wire_TakeFixed.f k l0 a1 a2 = some (r1, r2, r3)) :
  Calls Tryz.prog 46 #[.slice A0 l0.length c0, .int .i64 a1, .int .i64 a2] w fun e w' => e = .returned (.tuple #[.int .u64 r1, .int .i64 r2, .int .i64 r3]) ∧ Drawn0 w w' := by
 have HR0 := asd hr0
 have HC0 := asd hc0
 clear hr0 hc0
 have H : (if a1 < 0 then (wire_TakeFixed.j0 k l0 a1 a2 0 true) else ((wire_wide.f a2).bind fun t510 => (wire_TakeFixed.j0 k l0 a1 a2 0 (!t510)))) = some (r1, r2, r3) := h
 clear h
 have HC4 := asd H
 clear H
 go_enter Tryz.func46, Tryz.ntmps46
 go_upto_region 1 with (fail)
 go_cut [11] (fun v11 wc => ∃ (kq : Nat) (x11_3 : Bool), v11 = .bool x11_3 ∧ Aside0 (wire_TakeFixed.j0 kq l0 a1 a2 0 x11_3 = some (r1, r2, r3)) ∧ Aside0 (kq ≤ k) ∧ Drawn0 w wc)
 case first =>
  have H := HC4.out
  clear HC4
  by_cases c5 : a1 < 0
  ·rw [if_pos c5] at H
   have c5b0 := decide_eq_true c5
   clear c5
   (first | rw [c5b0] | (simp only [i64_w, i32_w]; rw [c5b0]) | skip)
   have H' := asd H
   clear H
   go_wp2
   go_meet
   case rel => exact ⟨_, (true), au, H', ⟨by first | omega | exact Nat.le_refl _⟩, by repeat (first | exact Drawn0.refl _ | apply Drawn0.step)⟩
  rw [if_neg c5] at H
  have c5b0 := decide_eq_false c5
  clear c5
  (first | rw [c5b0] | (simp only [i64_w, i32_w]; rw [c5b0]) | skip)
  obtain ⟨t510, A6, H⟩ := bio H
  have H' := asd H
  clear H
  go_wp2_with (first | (go_at_call 91; (with_reducible refine (wire_wide.calls a2 t510 _ A6.out).mono ?_); rintro e w' ⟨rfl, ⟨nd, rfl⟩⟩))
  go_meet
  case rel => exact ⟨_, (!t510), au, H', ⟨by first | omega | exact Nat.le_refl _⟩, by repeat (first | exact Drawn0.refl _ | apply Drawn0.step)⟩
 case rest =>
  clear HC4
  try clear p2
  try clear c4
  try clear c5
  try clear c5b0
  obtain ⟨kq, x11_3, rfl, HA, HJ3, ⟨mc3, rfl⟩⟩ := hcut
  cases kq with
  | zero => exact absurd HA.out (by simp [wire_TakeFixed.j0])
  | succ kj3 =>
   have H := HA.out
   clear HA
   simp only [wire_TakeFixed.j0] at H
   by_cases c7 : x11_3 = true
   ·subst c7
    rw [if_pos rfl] at H
    simp only [Option.some.injEq, Prod.mk.injEq] at H
    obtain ⟨rfl, rfl, rfl⟩ := H
    go_wp2
    go_ret3
    exact xd
   replace c7 := Bool.eq_false_iff.mpr c7
   subst c7
   rw [if_neg (show ¬ (false = true) by decide)] at H
   by_cases c8 : a1 > (wrap64 ((l0.length : Int) - a2))
   ·rw [if_pos c8] at H
    have c8b0 := decide_eq_true c8
    clear c8
    simp only [Option.some.injEq, Prod.mk.injEq] at H
    obtain ⟨rfl, rfl, rfl⟩ := H
    go_wp2
    go_ret3
    exact xd
   rw [if_neg c8] at H
   have c8b0 := decide_eq_false c8
   clear c8
   by_cases c9 : 0 ≤ a1
   ·rw [if_pos c9] at H
    have c9b0 := eq_true c9
    have c9b1 := decide_eq_true c9
    clear c9
    by_cases c10 : a1 ≤ (wrap64 (a1 + a2))
    ·rw [if_pos c10] at H
     have c10b0 := eq_true c10
     have c10b1 := decide_eq_true c10
     by_cases c11 : (wrap64 (a1 + a2)) ≤ (l0.length : Int)
     ·rw [if_pos c11] at H
      have c11b0 := eq_true c11
      have c11b1 := decide_eq_true c11
      have H' := asd H
      clear H
      obtain ⟨i012, hi012, _, hsz12, _⟩ := info_parts info5
      obtain ⟨A12, hcut12, hA12, hC12⟩ := print_mid_of (P := Tryz.prog) (Value.int .u8) 0 33 5 .i64 .i64 Tryz.underlying33 hi012 hsz12 A0 c0 l0 a1 (wrap64 (a1 + a2)) (of_decide_eq_true (by first | (with_reducible assumption) | assumption)) (by first | omega | exact of_decide_eq_true (by first | (with_reducible assumption) | assumption)) (of_decide_eq_true (by first | (with_reducible assumption) | assumption)) HC0.out
      (try have KZ1 := asd (of_decide_eq_true (by assumption : decide ((wrap64 (a1 + a2)) ≤ (l0.length : Int)) = true)))
      have HR511 := asd (Kd.C_of_reads (h1 := fun _ => rfl) (hA12 _ (Kd.reads_of_C HR0.out)))
      have HC511 := asd hC12
      clear hA12 hC12 hi012 hsz12
      go_wp2
      go_loopg [6, 33] kj3 (fun kq v6 v33 w' => ∃ (x6_2 x33_2 : Int), v6 = .int .u64 x6_2 ∧ v33 = .int .i64 x33_2 ∧ Aside0 (wire_TakeFixed.l0 kq a1 a2 x6_2 ((l0.take ((wrap64 (a1 + a2)) : Int).toNat).drop (a1 : Int).toNat) (((l0.take ((wrap64 (a1 + a2)) : Int).toNat).drop (a1 : Int).toNat).length : Int) x33_2 = some (r1, r2, r3)) ∧ Aside0 (kq ≤ kj3) ∧ Drawn0 w w')
      case atStart => exact ⟨(0), (0), au, au, H', ⟨Nat.le_refl _⟩, by repeat (first | exact Drawn0.refl _ | apply Drawn0.step)⟩
      case round =>
       clear H'
       try clear c1
       try clear p2
       try clear c3
       try clear c4
       try clear c5
       try clear c5b0
       try clear p6
       try clear c7
       try clear c8
       try clear c8b0
       try clear c9
       try clear c9b0
       try clear c9b1
       try clear c10
       try clear c10b0
       try clear c10b1
       try clear c11
       try clear c11b0
       try clear c11b1
       try clear p2
       obtain ⟨x6_2, x33_2, rfl, rfl, HA, HK2, ⟨m2, rfl⟩⟩ := hrel
       cases gk with
       | zero => exact absurd HA.out (by simp [wire_TakeFixed.l0])
       | succ k2 =>
        have H := HA.out
        clear HA
        simp only [wire_TakeFixed.l0] at H
        by_cases c13 : x33_2 < (((l0.take ((wrap64 (a1 + a2)) : Int).toNat).drop (a1 : Int).toNat).length : Int)
        ·rw [if_pos c13] at H
         have c13b0 := decide_eq_true c13
         (try have c13n0 : decide (x33_2 < ((((wrap64 (a1 + a2)) : Int).toNat - (a1 : Int).toNat : Nat) : Int)) = true := by have h_ := of_decide_eq_true c13b0; rw [List.length_drop, List.length_take] at h_; (try have g_ := of_decide_eq_true (by assumption : decide ((wrap64 (a1 + a2)) ≤ (l0.length : Int)) = true)); (try have g_ := (by assumption : Aside0 ((wrap64 (a1 + a2)) ≤ (l0.length : Int))).out); exact decide_eq_true (by omega))
         clear c13
         by_cases c14 : 0 ≤ x33_2
         ·rw [if_pos c14] at H
          have c14b0 := decide_eq_true c14
          clear c14
          by_cases c15 : x33_2 < (((l0.take ((wrap64 (a1 + a2)) : Int).toNat).drop (a1 : Int).toNat).length : Int)
          ·rw [if_pos c15] at H
           have c15b0 := decide_eq_true c15
           (try have c15n0 : decide (x33_2 < ((((wrap64 (a1 + a2)) : Int).toNat - (a1 : Int).toNat : Nat) : Int)) = true := by have h_ := of_decide_eq_true c15b0; rw [List.length_drop, List.length_take] at h_; (try have g_ := of_decide_eq_true (by assumption : decide ((wrap64 (a1 + a2)) ≤ (l0.length : Int)) = true)); (try have g_ := (by assumption : Aside0 ((wrap64 (a1 + a2)) ≤ (l0.length : Int))).out); exact decide_eq_true (by omega))
           clear c15
           have H' := asd H
           clear H
           have p512 : 0 ≤ (x33_2 : Int) := of_decide_eq_true (by first | (with_reducible assumption) | assumption)
           have q512 : x33_2 < (((l0.take ((wrap64 (a1 + a2)) : Int).toNat).drop (a1 : Int).toNat).length : Int) := of_decide_eq_true (by first | (with_reducible assumption) | assumption)
           (try have qn512 := eq_true (show x33_2 < ((((wrap64 (a1 + a2)) : Int).toNat - (a1 : Int).toNat : Nat) : Int) from (by have h_ := q512; rw [List.length_drop, List.length_take] at h_; omega)))
           obtain ⟨ad512, e512, hx512_0⟩ := Kd.at_int HR511.out x33_2 p512 q512
           cases e512
           replace p512 := eq_true p512
           replace q512 := eq_true q512
           go_wp2
           go_roundg k2
           case measure => have := HJ3.out; have := HK2.out; omega
           case rel => exact ⟨(IntKind.u64.wrap ((IntKind.u64.wrap (x6_2 * 256)) + (IntKind.u64.wrap (rd ((l0.take ((wrap64 (a1 + a2)) : Int).toNat).drop (a1 : Int).toNat) x33_2)))), (wrap64 (x33_2 + 1)), au, au, H', ⟨by have := HJ3.out; have := HK2.out; omega⟩, by repeat (first | exact Drawn0.refl _ | apply Drawn0.step)⟩
          rw [if_neg c15] at H
          exact absurd H (by simp)
         rw [if_neg c14] at H
         exact absurd H (by simp)
        rw [if_neg c13] at H
        have c13b0 := decide_eq_false c13
        (try have c13n0 : decide (x33_2 < ((((wrap64 (a1 + a2)) : Int).toNat - (a1 : Int).toNat : Nat) : Int)) = false := by have h_ := of_decide_eq_false c13b0; rw [List.length_drop, List.length_take] at h_; (try have g_ := of_decide_eq_true (by assumption : decide ((wrap64 (a1 + a2)) ≤ (l0.length : Int)) = true)); (try have g_ := (by assumption : Aside0 ((wrap64 (a1 + a2)) ≤ (l0.length : Int))).out); exact decide_eq_false (by omega))
        clear c13
        simp only [Option.some.injEq, Prod.mk.injEq] at H
        obtain ⟨rfl, rfl, rfl⟩ := H
        go_wp2
        go_ret3
        exact xd
     rw [if_neg c11] at H
     exact absurd H (by simp)
    rw [if_neg c10] at H
    exact absurd H (by simp)
   rw [if_neg c9] at H
   exact absurd H (by simp)

-- NOT PRINTED: function 45 (frame_Read_1)


/-! ### wire_TakeVary: function 47 -/
mutual
def wire_TakeVary.l0 : Nat → Int → Int → List Int → Int → Int → Option (Int × Int × Int)
 | 0, _, _, _, _, _ => none
 | k + 1, x1, x4, x16, x17, x18 => if x18 < x17 then (if 0 ≤ x18 then (if x18 < (x16.length : Int) then (if x18 = 0 then (if (rd x16 x18) = 128 then (wire_TakeVary.j1 k x1 x4 x18 (rd x16 x18) x16 x17 x18 true) else ((bits_Len64.f k x4).bind fun t515 => (wire_TakeVary.j1 k x1 x4 x18 (rd x16 x18) x16 x17 x18 (decide (t515 > 57))))) else ((bits_Len64.f k x4).bind fun t516 => (wire_TakeVary.j1 k x1 x4 x18 (rd x16 x18) x16 x17 x18 (decide (t516 > 57))))) else (none)) else (none)) else (some (0, 0, 3))
def wire_TakeVary.j1 : Nat → Int → Int → Int → Int → List Int → Int → Int → Bool → Option (Int × Int × Int)
 | 0, _, _, _, _, _, _, _, _ => none
 | k + 1, x1, x4, x7, x8, x16, x17, x18, x33 => if x33 = true then (some (0, 0, 4)) else (if (Go.bits .and .u8 x8 128) = 0 then (some (Go.bits .or .u64 (IntKind.u64.wrap (x4 * 128)) (IntKind.u64.wrap (Go.bits .and .u8 x8 127)), wrap64 ((wrap64 (x1 + x7)) + 1), 0)) else (wire_TakeVary.l0 k x1 (Go.bits .or .u64 (IntKind.u64.wrap (x4 * 128)) (IntKind.u64.wrap (Go.bits .and .u8 x8 127))) x16 x17 (wrap64 (x18 + 1))))
end
def wire_TakeVary.f (k : Nat) (l0 : List Int) (a1 : Int) : Option (Int × Int × Int) := if a1 < 0 then (some (0, 0, 1)) else (if 0 ≤ (mn a1 (l0.length : Int)) then (if (mn a1 (l0.length : Int)) ≤ (l0.length : Int) then (wire_TakeVary.l0 k a1 0 (l0.drop ((mn a1 (l0.length : Int)) : Int).toNat) ((l0.drop ((mn a1 (l0.length : Int)) : Int).toNat).length : Int) 0) else (none)) else (none))
theorem wire_TakeVary.calls (k : Nat) (A0 : Option Addr) (c0 : Nat) (l0 : List Int) (a1 r1 r2 r3 : Int) (w : World) (hr0 : Kd.C (Kd.int .u8) w A0 l0.length l0) (hc0 : l0.length ≤ c0) (h : wire_TakeVary.f k l0 a1 = some (r1, r2, r3)) :
  Calls Tryz.prog 47 #[.slice A0 l0.length c0, .int .i64 a1] w fun e w' => e = .returned (.tuple #[.int .u64 r1, .int .i64 r2, .int .i64 r3]) ∧ Below w.heap.size w w' := by
 have HR0 := asd hr0
 have HC0 := asd hc0
 clear hr0 hc0
 have HB := asd (Below.refl w.heap.size w)
 have H : (if a1 < 0 then (some (0, 0, 1)) else (if 0 ≤ (mn a1 (l0.length : Int)) then (if (mn a1 (l0.length : Int)) ≤ (l0.length : Int) then (wire_TakeVary.l0 k a1 0 (l0.drop ((mn a1 (l0.length : Int)) : Int).toNat) ((l0.drop ((mn a1 (l0.length : Int)) : Int).toNat).length : Int) 0) else (none)) else (none))) = some (r1, r2, r3) := h
 clear h
 by_cases c3 : a1 < 0
 ·rw [if_pos c3] at H
  have c3b0 := decide_eq_true c3
  clear c3
  simp only [Option.some.injEq, Prod.mk.injEq] at H
  obtain ⟨rfl, rfl, rfl⟩ := H
  go_enter Tryz.func47, Tryz.ntmps47
  go_wp2
  go_ret3
  exact xo (bse HB)
 rw [if_neg c3] at H
 have c3b0 := decide_eq_false c3
 clear c3
 obtain ⟨ji4, hji4⟩ : ∃ j_ : Int, (mn a1 (l0.length : Int)) = j_ := ⟨_, rfl⟩
 replace H : (if 0 ≤ (ji4) then (if (ji4) ≤ (l0.length : Int) then (wire_TakeVary.l0 k a1 0 (l0.drop ((ji4) : Int).toNat) ((l0.drop ((ji4) : Int).toNat).length : Int) 0) else (none)) else (none)) = some (r1, r2, r3) := by first | (rw [hji4] at H; exact H) | (simp only [hji4] at H ⊢; exact H)
 have hji4_ : (if (l0.length : Int) < a1 then (l0.length : Int) else a1) = ji4 := hji4
 by_cases c5 : 0 ≤ (ji4)
 ·rw [if_pos c5] at H
  have c5b0 := eq_true c5
  have c5b1 := decide_eq_true c5
  clear c5
  by_cases c6 : (ji4) ≤ (l0.length : Int)
  ·rw [if_pos c6] at H
   have c6b0 := eq_true c6
   have c6b1 := decide_eq_true c6
   clear c6
   have H' := asd H
   clear H
   obtain ⟨i07, hi07, _, hsz7, _⟩ := info_parts info5
   obtain ⟨A7, hcut7, hA7, hC7⟩ := print_drop_of (P := Tryz.prog) (Value.int .u8) 0 33 5 .i64 Tryz.underlying33 hi07 hsz7 A0 c0 l0 (ji4) (of_decide_eq_true (by first | (with_reducible assumption) | assumption)) (of_decide_eq_true (by first | (with_reducible assumption) | assumption)) HC0.out
   have HR513 := asd (Kd.C_of_reads (h1 := fun _ => rfl) (hA7 _ (Kd.reads_of_C HR0.out)))
   have HC513 := asd hC7
   clear hA7 hC7 hi07 hsz7
   go_enter Tryz.func47, Tryz.ntmps47
   go_wp2
   go_loopg [4, 18] k (fun kq v4 v18 w' => ∃ (x4_1 x18_1 : Int), v4 = .int .u64 x4_1 ∧ v18 = .int .i64 x18_1 ∧ Aside0 (wire_TakeVary.l0 kq a1 x4_1 (l0.drop ((ji4) : Int).toNat) ((l0.drop ((ji4) : Int).toNat).length : Int) x18_1 = some (r1, r2, r3)) ∧ Aside0 (kq ≤ k) ∧ Aside0 (Below w.heap.size w w'))
   case atStart => exact ⟨(0), (0), au, au, H', ⟨Nat.le_refl _⟩, ⟨bse HB⟩⟩
   case round =>
    clear H'
    try clear p2
    try clear c3
    try clear c3b0
    try clear c4
    try clear c5
    try clear c5b0
    try clear c5b1
    try clear c6
    try clear c6b0
    try clear c6b1
    obtain ⟨x4_1, x18_1, rfl, rfl, HA, HK1, HB⟩ := hrel
    cases gk with
    | zero => exact absurd HA.out (by simp [wire_TakeVary.l0])
    | succ k1 =>
     have H := HA.out
     clear HA
     simp only [wire_TakeVary.l0] at H
     by_cases c8 : x18_1 < ((l0.drop ((ji4) : Int).toNat).length : Int)
     ·rw [if_pos c8] at H
      have c8b0 := decide_eq_true c8
      (try have c8n0 : decide (x18_1 < ((l0.length - ((ji4) : Int).toNat : Nat) : Int)) = true := by have h_ := of_decide_eq_true c8b0; rw [List.length_drop] at h_; exact decide_eq_true (by omega))
      clear c8
      by_cases c9 : 0 ≤ x18_1
      ·rw [if_pos c9] at H
       have c9b0 := decide_eq_true c9
       clear c9
       by_cases c10 : x18_1 < ((l0.drop ((ji4) : Int).toNat).length : Int)
       ·rw [if_pos c10] at H
        have c10b0 := decide_eq_true c10
        (try have c10n0 : decide (x18_1 < ((l0.length - ((ji4) : Int).toNat : Nat) : Int)) = true := by have h_ := of_decide_eq_true c10b0; rw [List.length_drop] at h_; exact decide_eq_true (by omega))
        clear c10
        have HC11 := asd H
        clear H
        have p514 : 0 ≤ (x18_1 : Int) := of_decide_eq_true (by first | (with_reducible assumption) | assumption)
        have q514 : x18_1 < ((l0.drop ((ji4) : Int).toNat).length : Int) := of_decide_eq_true (by first | (with_reducible assumption) | assumption)
        (try have qn514 := eq_true (show x18_1 < ((l0.length - ((ji4) : Int).toNat : Nat) : Int) from (by have h_ := q514; rw [List.length_drop] at h_; omega)))
        obtain ⟨ad514, e514, hx514_0⟩ := Kd.at_int HR513.out x18_1 p514 q514
        cases e514
        replace hx514_0 := (HB.out.cell (World.block_lt_of_cell? w _ hx514_0)).trans hx514_0
        replace p514 := eq_true p514
        replace q514 := eq_true q514
        go_upto_region 6 with (fail)
        go_cut [33] (fun v33 wc => ∃ (kq : Nat) (x33_10 : Bool), v33 = .bool x33_10 ∧ Aside0 (wire_TakeVary.j1 kq a1 x4_1 x18_1 (rd (l0.drop ((ji4) : Int).toNat) x18_1) (l0.drop ((ji4) : Int).toNat) ((l0.drop ((ji4) : Int).toNat).length : Int) x18_1 x33_10 = some (r1, r2, r3)) ∧ Aside0 (kq ≤ k1) ∧ Aside0 (Below w.heap.size w wc))
        case first =>
         have H := HC11.out
         clear HC11
         by_cases c12 : x18_1 = 0
         ·rw [if_pos c12] at H
          have c12b0 := beq_iff_eq.mpr c12
          have c12b1 := bne_eq_false_iff_eq.mpr c12
          clear c12
          (first | rw [c12b0] | (simp only [i64_w, i32_w]; rw [c12b0]) | skip)
          by_cases c13 : (rd (l0.drop ((ji4) : Int).toNat) x18_1) = 128
          ·rw [if_pos c13] at H
           have c13b0 := beq_iff_eq.mpr c13
           have c13b1 := bne_eq_false_iff_eq.mpr c13
           clear c13
           have H' := asd H
           clear H
           go_wp2
           go_meet
           case rel => exact ⟨_, (true), au, H', ⟨by have := HK1.out; first | omega | exact Nat.le_refl _⟩, ⟨bse HB⟩⟩
          rw [if_neg c13] at H
          have c13b0 := beq_eq_false_iff_ne.mpr c13
          have c13b1 := bne_iff_ne.mpr c13
          obtain ⟨t515, A14, H⟩ := bio H
          have H' := asd H
          clear H
          go_wp2_with (first | (go_at_call 92; (with_reducible refine (bits_Len64.calls k1 x4_1 t515 _ A14.out).mono ?_); rintro e w' ⟨rfl, ⟨nd, rfl⟩⟩))
          go_meet
          case rel => exact ⟨_, (decide (t515 > 57)), au, H', ⟨by have := HK1.out; first | omega | exact Nat.le_refl _⟩, ⟨bse HB⟩⟩
         rw [if_neg c12] at H
         have c12b0 := beq_eq_false_iff_ne.mpr c12
         have c12b1 := bne_iff_ne.mpr c12
         (first | rw [c12b0] | (simp only [i64_w, i32_w]; rw [c12b0]) | skip)
         obtain ⟨t516, A15, H⟩ := bio H
         have H' := asd H
         clear H
         go_wp2_with (first | (go_at_call 92; (with_reducible refine (bits_Len64.calls k1 x4_1 t516 _ A15.out).mono ?_); rintro e w' ⟨rfl, ⟨nd, rfl⟩⟩))
         go_meet
         case rel => exact ⟨_, (decide (t516 > 57)), au, H', ⟨by have := HK1.out; first | omega | exact Nat.le_refl _⟩, ⟨bse HB⟩⟩
        case rest =>
         clear HC11
         try clear c1
         try clear p2
         try clear c3
         try clear c3b0
         try clear c4
         try clear c5
         try clear c5b0
         try clear c5b1
         try clear p5
         try clear q5
         try clear hx5
         try clear c6
         try clear c6b0
         try clear c6b1
         try clear c8
         try clear c8b0
         try clear c9
         try clear c9b0
         try clear c10
         try clear c10b0
         try clear c12
         try clear c12b0
         try clear c12b1
         try clear c13
         try clear c13b0
         try clear c13b1
         try clear hx514_0
         try clear p2
         try clear p514
         try clear q514
         obtain ⟨kq, x33_10, rfl, HA, HJ10, HB⟩ := hcut
         cases kq with
         | zero => exact absurd HA.out (by simp [wire_TakeVary.j1])
         | succ kj10 =>
          have H := HA.out
          clear HA
          simp only [wire_TakeVary.j1] at H
          by_cases c16 : x33_10 = true
          ·subst c16
           rw [if_pos rfl] at H
           simp only [Option.some.injEq, Prod.mk.injEq] at H
           obtain ⟨rfl, rfl, rfl⟩ := H
           go_wp2
           go_ret3
           exact ⟨by first | rfl | (simp [errW_none, errW_some] <;> rfl) | (simp only [← hji4]; first | rfl | (simp [errW_none, errW_some] <;> rfl)) | (simp [*, errW_none, errW_some] <;> rfl), bse HB⟩
          replace c16 := Bool.eq_false_iff.mpr c16
          subst c16
          rw [if_neg (show ¬ (false = true) by decide)] at H
          by_cases c17 : (Go.bits .and .u8 (rd (l0.drop ((ji4) : Int).toNat) x18_1) 128) = 0
          ·rw [if_pos c17] at H
           have c17b0 := beq_iff_eq.mpr c17
           have c17b1 := bne_eq_false_iff_eq.mpr c17
           clear c17
           simp only [Option.some.injEq, Prod.mk.injEq] at H
           obtain ⟨rfl, rfl, rfl⟩ := H
           go_wp2
           go_ret3
           exact ⟨by first | rfl | (simp [errW_none, errW_some] <;> rfl) | (simp only [← hji4]; first | rfl | (simp [errW_none, errW_some] <;> rfl)) | (simp [*, errW_none, errW_some] <;> rfl), bse HB⟩
          rw [if_neg c17] at H
          have c17b0 := beq_eq_false_iff_ne.mpr c17
          have c17b1 := bne_iff_ne.mpr c17
          have H' := asd H
          clear H
          go_wp2
          go_roundg kj10
          case measure => have := HK1.out; have := HJ10.out; omega
          case rel => exact ⟨(Go.bits .or .u64 (IntKind.u64.wrap (x4_1 * 128)) (IntKind.u64.wrap (Go.bits .and .u8 (rd (l0.drop ((ji4) : Int).toNat) x18_1) 127))), (wrap64 (x18_1 + 1)), (by first | rfl | (simp; done) | (simp only [← hji4] <;> (first | rfl | simp)) | (simp [*]; done)), au, H', ⟨by have := HK1.out; have := HJ10.out; omega⟩, ⟨bse HB⟩⟩
       rw [if_neg c10] at H
       exact absurd H (by simp)
      rw [if_neg c9] at H
      exact absurd H (by simp)
     rw [if_neg c8] at H
     have c8b0 := decide_eq_false c8
     (try have c8n0 : decide (x18_1 < ((l0.length - ((ji4) : Int).toNat : Nat) : Int)) = false := by have h_ := of_decide_eq_false c8b0; rw [List.length_drop] at h_; exact decide_eq_false (by omega))
     clear c8
     simp only [Option.some.injEq, Prod.mk.injEq] at H
     obtain ⟨rfl, rfl, rfl⟩ := H
     go_wp2
     go_ret3
     exact ⟨by first | rfl | (simp [errW_none, errW_some] <;> rfl) | (simp only [← hji4]; first | rfl | (simp [errW_none, errW_some] <;> rfl)) | (simp [*, errW_none, errW_some] <;> rfl), bse HB⟩
  rw [if_neg c6] at H
  exact absurd H (by simp)
 rw [if_neg c5] at H
 exact absurd H (by simp)


/-! ### frame_Check: function 48 -/
def frame_Check.j0 : Nat → Bool → Int → Int → Int → Int → Option (Int)
 | 0, _, _, _, _, _ => none
 | k + 1, x3, x518000, x518001, x518002, x518003 => if x3 = true then (some 1) else (if x518001 < 0 then (some 1) else (if x518001 ≥ 16 then (some 1) else (if x518002 > 4294967296 then (some 1) else (some 0))))
def frame_Check.f (k : Nat) (a0_0 a0_1 a0_2 a0_3 : Int) : Option (Int) := if a0_0 = 1 then (frame_Check.j0 k false a0_0 a0_1 a0_2 a0_3) else (frame_Check.j0 k (a0_0 != 2) a0_0 a0_1 a0_2 a0_3)
theorem frame_Check.calls (k : Nat) (a0_0 a0_1 a0_2 a0_3 r : Int) (w : World) (h : frame_Check.f k a0_0 a0_1 a0_2 a0_3 = some r) :
  Calls Tryz.prog 48 #[.agg #[.int .i64 a0_0, .int .i64 a0_1, .int .u64 a0_2, .int .u16 a0_3]] w fun e w' => e = .returned (.int .i64 r) ∧ Below w.heap.size w w' := by
 have hu43 := Tryz.underlying43
 have HB := asd (Below.refl w.heap.size w)
 unfold frame_Check.f at h
 have H := h
 clear h
 have HC2 := asd H
 clear H
 go_enter Tryz.func48, Tryz.ntmps48
 go_upto_region 1 with (first | (refine bG 1 #[.int .i64 a0_0, .int .i64 a0_1, .int .u64 a0_2, .int .u16 a0_3] 43 ?_; intro gb517 hg w3 BK517 hb; have GW517 := bz HB hg; have GE517 := bz HB hg; replace HB := bs HB hb; clear hb hg))
 (try simp only [Act.put, List.setIfInBounds_toArray, List.set_cons_zero, List.set_cons_succ])
 go_cut [3] (fun v3 wc => ∃ (kq : Nat) (x3_1 : Bool), v3 = .bool x3_1 ∧ Aside0 (frame_Check.j0 kq x3_1 a0_0 a0_1 a0_2 a0_3 = some r) ∧ Aside0 (kq ≤ k) ∧ Aside0 (wc.heap[gb517]? = some (.cells #[.int .i64 a0_0, .int .i64 a0_1, .int .u64 a0_2, .int .u16 a0_3] 43 (0, 0))) ∧ Aside0 (Below w.heap.size w wc))
 case first =>
  have H := HC2.out
  clear HC2
  by_cases c4 : a0_0 = 1
  ·rw [if_pos c4] at H
   have c4b0 := beq_iff_eq.mpr c4
   have c4b1 := bne_eq_false_iff_eq.mpr c4
   clear c4
   (first | rw [c4b0] | (simp only [i64_w, i32_w]; rw [c4b0]) | skip)
   have H' := asd H
   clear H
   have hcz5 := cf4 BK517
   go_wp2
   go_meet
   case rel => exact ⟨_, (false), au, H', ⟨by first | omega | exact Nat.le_refl _⟩, be BK517, ⟨bse HB⟩⟩
  rw [if_neg c4] at H
  have c4b0 := beq_eq_false_iff_ne.mpr c4
  have c4b1 := bne_iff_ne.mpr c4
  (first | rw [c4b0] | (simp only [i64_w, i32_w]; rw [c4b0]) | skip)
  have H' := asd H
  clear H
  have hcz6 := cf4 BK517
  go_wp2
  go_meet
  case rel => exact ⟨_, ((a0_0 != 2)), au, H', ⟨by first | omega | exact Nat.le_refl _⟩, be BK517, ⟨bse HB⟩⟩
 case rest =>
  clear HC2
  try clear p2
  try clear c4
  try clear c4b0
  try clear c4b1
  try clear hcz5
  try clear hcz6
  try clear hcz5
  try clear hcz6
  obtain ⟨kq, x3_1, rfl, HA, HJ1, BK517, HB⟩ := hcut
  cases kq with
  | zero => exact absurd HA.out (by simp [frame_Check.j0])
  | succ kj1 =>
   have H := HA.out
   clear HA
   simp only [frame_Check.j0] at H
   by_cases c7 : x3_1 = true
   ·subst c7
    rw [if_pos rfl] at H
    obtain rfl := Option.some.inj H
    go_wp2
    go_ret
    exact xo (bse HB)
   replace c7 := Bool.eq_false_iff.mpr c7
   subst c7
   rw [if_neg (show ¬ (false = true) by decide)] at H
   by_cases c8 : a0_1 < 0
   ·rw [if_pos c8] at H
    have c8b0 := decide_eq_true c8
    clear c8
    obtain rfl := Option.some.inj H
    have hcz9 := cf4 BK517
    go_wp2
    go_ret
    exact xo (bse HB)
   rw [if_neg c8] at H
   have c8b0 := decide_eq_false c8
   clear c8
   by_cases c10 : a0_1 ≥ 16
   ·rw [if_pos c10] at H
    have c10b0 := decide_eq_true c10
    clear c10
    obtain rfl := Option.some.inj H
    have hcz11 := cf4 BK517
    go_wp2
    go_ret
    exact xo (bse HB)
   rw [if_neg c10] at H
   have c10b0 := decide_eq_false c10
   clear c10
   by_cases c12 : a0_2 > 4294967296
   ·rw [if_pos c12] at H
    have c12b0 := decide_eq_true c12
    clear c12
    obtain rfl := Option.some.inj H
    have hcz13 := cf4 BK517
    go_wp2
    go_ret
    exact xo (bse HB)
   rw [if_neg c12] at H
   have c12b0 := decide_eq_false c12
   clear c12
   obtain rfl := Option.some.inj H
   have hcz14 := cf4 BK517
   go_wp2
   go_ret
   exact xo (bse HB)

end Go.Proofs.YtcofclkgfandfaaGreat.Print
