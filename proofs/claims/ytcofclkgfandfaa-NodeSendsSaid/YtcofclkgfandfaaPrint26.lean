-- PRINTED by print.py (a twelfth state) out of the translation. Not trusted: Lean checks it.
import Derived.Test.YtcofclkgfandfaaSq
import Derived.Test.YtcofclkgfandfaaPrint0
import Derived.Test.YtcofclkgfandfaaPrint12
import Derived.Test.YtcofclkgfandfaaPrint13
import Derived.Test.YtcofclkgfandfaaPrint25
namespace Go.Proofs.Ytcofclkgfandfaa.Print
open Go.RowKit Go.Proofs.YtcofclkgfandfaaW.PrintWords Go.Proofs.YtcofclkgfandfaaW.PrintLast Go.Proofs.YtcofclkgfandfaaW.PrintMore Go.Proofs.YtcofclkgfandfaaX
attribute [local go_sem] str_lss str_geq max2_int min2_int max_two min_two max_three min_three max_four min_four   -- for this text's walks alone
set_option linter.unusedVariables false
set_option linter.unusedSimpArgs false

/-! ### palletlaw13_four: function 10 -/
def palletlaw13_four.f  : Option (Int × Int × Int × Int × Int) := some (4, 100, 20, 30, 10)
set_option maxHeartbeats 8000000 in
set_option maxRecDepth 100000 in
theorem palletlaw13_four.calls  (r1 : Int) (r2 : Int) (r3 : Int) (r4 : Int) (r5 : Int) (w : World) (h : palletlaw13_four.f  = some (r1, r2, r3, r4, r5)) :
  Calls Try.prog 10 #[] w fun e w' => e = .returned (.agg #[.int .i64 r1, .int .i64 r2, .int .i64 r3, .int .i64 r4, .int .i64 r5]) ∧ Below w.heap.size w w' := by
 have hu23 := Try.underlying23
 have HB := asd (Below.refl w.heap.size w)
 have H : (some (4, 100, 20, 30, 10)) = some (r1, r2, r3, r4, r5) := h
 clear h
 simp only [Option.some.injEq, Prod.mk.injEq] at H
 obtain ⟨rfl, rfl, rfl, rfl, rfl⟩ := H
 go_enter Try.func10, Try.ntmps10
 go_wp2_with (first | ((with_reducible refine gate_dst (N := 0) rfl ?_); refine bx (N := 0) (cs := #[.int .i64 0, .int .i64 0, .int .i64 0, .int .i64 0, .int .i64 0]) (t := 23) ?_; intro gb416 hg w1 hbox hb; have BK416 := asd (hbox); have GW416 := bz HB hg; have GE416 := bz HB hg; replace HB := bs HB hb; clear hb hbox hg; have hcz2 := cf5 BK416))
 refine bodyPost_ret (results_cell_row rfl _ _ gb416 23 #[.int .i64 4, .int .i64 100, .int .i64 20, .int .i64 30, .int .i64 10] (0, 0) _ rfl (by (with_reducible repeat (first | refine blk_drewN ?_ _ | refine blk_drew ?_ | refine blk_alloc ?_ _)); refine blk_put (cs := #[.int .i64 4, .int .i64 100, .int .i64 20, .int .i64 30, .int .i64 0]) ?_ 4 _ rfl; (with_reducible repeat (first | refine blk_drewN ?_ _ | refine blk_drew ?_ | refine blk_alloc ?_ _)); refine blk_put (cs := #[.int .i64 4, .int .i64 100, .int .i64 20, .int .i64 0, .int .i64 0]) ?_ 3 _ rfl; (with_reducible repeat (first | refine blk_drewN ?_ _ | refine blk_drew ?_ | refine blk_alloc ?_ _)); refine blk_put (cs := #[.int .i64 4, .int .i64 100, .int .i64 0, .int .i64 0, .int .i64 0]) ?_ 2 _ rfl; (with_reducible repeat (first | refine blk_drewN ?_ _ | refine blk_drew ?_ | refine blk_alloc ?_ _)); refine blk_put (cs := #[.int .i64 4, .int .i64 0, .int .i64 0, .int .i64 0, .int .i64 0]) ?_ 1 _ rfl; (with_reducible repeat (first | refine blk_drewN ?_ _ | refine blk_drew ?_ | refine blk_alloc ?_ _)); refine blk_put (cs := #[.int .i64 0, .int .i64 0, .int .i64 0, .int .i64 0, .int .i64 0]) ?_ 0 _ rfl; (with_reducible repeat (first | refine blk_drewN ?_ _ | refine blk_drew ?_ | refine blk_alloc ?_ _)); exact BK416.out) Try.underlying23 rfl (by kernel_rfl)) rfl ?_
 exact ⟨by first | rfl | (simp [errW_none, errW_some] <;> rfl) | (simp [*, errW_none, errW_some] <;> rfl), bse HB⟩


/-! ### palletlaw13_live: function 4 -/
def palletlaw13_live.f (k : Nat)  : Option (Bool) := (palletlaw13_four.f).bind fun bt417 => ((node_New.f k bt417.1 bt417.2.1 bt417.2.2.1 bt417.2.2.2.1 bt417.2.2.2.2 1 10 0 0).bind fun bt422 => ((palletlaw13_four.f).bind fun bt440 => ((node_Wake.f k bt440.1 bt440.2.1 bt440.2.2.1 bt440.2.2.2.1 bt440.2.2.2.2 bt422.1 bt422.2.1 bt422.2.2.1 bt422.2.2.2.1 bt422.2.2.2.2.1 bt422.2.2.2.2.2.1 bt422.2.2.2.2.2.2.1 bt422.2.2.2.2.2.2.2.1 bt422.2.2.2.2.2.2.2.2.1 bt422.2.2.2.2.2.2.2.2.2.1 bt422.2.2.2.2.2.2.2.2.2.2.1 bt422.2.2.2.2.2.2.2.2.2.2.2.1 bt422.2.2.2.2.2.2.2.2.2.2.2.2.1 bt422.2.2.2.2.2.2.2.2.2.2.2.2.2.1 0).bind fun bt445 => ((palletlaw13_four.f).bind fun bt465 => ((node_Timer.f k bt465.1 bt465.2.1 bt465.2.2.1 bt465.2.2.2.1 bt465.2.2.2.2 bt445.1 bt445.2.1 bt445.2.2.1 bt445.2.2.2.1 bt445.2.2.2.2.1 bt445.2.2.2.2.2.1 bt445.2.2.2.2.2.2.1 bt445.2.2.2.2.2.2.2.1 bt445.2.2.2.2.2.2.2.2.1 bt445.2.2.2.2.2.2.2.2.2.1 bt445.2.2.2.2.2.2.2.2.2.2.1 bt445.2.2.2.2.2.2.2.2.2.2.2.1 bt445.2.2.2.2.2.2.2.2.2.2.2.2.1 bt445.2.2.2.2.2.2.2.2.2.2.2.2.2.1 10000).bind fun bt470 => (if bt422.2.2.2.2.2.2.2.2.2.2.2.2.2.2 = 0 then (if bt445.2.2.2.2.2.2.2.2.2.2.2.2.2.2.2 = 0 then (if bt470.2.2.2.2.2.2.2.2.2.2.2.2.2.2.2 = 0 then (if (bt445.2.2.2.2.2.2.2.2.2.2.2.2.2.2.1.length : Int) = 2 then (if 1 < (bt445.2.2.2.2.2.2.2.2.2.2.2.2.2.2.1.length : Int) then (if ((rd_T44 bt445.2.2.2.2.2.2.2.2.2.2.2.2.2.2.1 1).f1) = 10000 then (if (bt470.2.2.2.2.2.2.2.2.2.2.2.2.2.2.1.length : Int) = 2 then (if 1 < (bt470.2.2.2.2.2.2.2.2.2.2.2.2.2.2.1.length : Int) then (if ((rd_T44 bt470.2.2.2.2.2.2.2.2.2.2.2.2.2.2.1 1).f1) = 10200 then (some (bt470.2.1 == 2)) else (none)) else (none)) else (none)) else (none)) else (none)) else (none)) else (none)) else (none)) else (none)))))))
def palletlaw13_live.T2 : Bool × List (List Nat × List Nat) := (true, [([], []), ([], []), ([0, 1, 0], [0, 1]), ([2], [2]), ([3], [3]), ([3], [3]), ([3], [3]), ([4, 2, 0, 1, 2, 3, 4], [4]), ([5, 7, 0, 1, 2, 3, 4, 5, 7], [5]), ([6, 8, 0, 1, 2, 3, 4, 5, 6, 7, 8], [6])])
def palletlaw13_live.B2 : List Nat := [0, 0, 3, 7, 15, 15, 15, 31, 191, 511]
theorem palletlaw13_live.tab2 : rtab .any (opsOf Try.f4 2) = palletlaw13_live.T2 := by kernel_rfl
theorem palletlaw13_live.bits2 : waitsOk palletlaw13_live.T2.2 palletlaw13_live.B2 = true := by kernel_rfl
def palletlaw13_live.T3 : Bool × List (List Nat × List Nat) := (true, [([], []), ([], []), ([0, 1, 0], [0, 1]), ([2], [2]), ([3], [3]), ([3], [3]), ([3], [3]), ([4, 2, 0, 1, 2, 3, 4], [4]), ([5, 7, 0, 1, 2, 3, 4, 5, 7], [5]), ([6, 8, 0, 1, 2, 3, 4, 5, 6, 7, 8], [6])])
def palletlaw13_live.B3 : List Nat := [0, 0, 3, 7, 15, 15, 15, 31, 191, 511]
theorem palletlaw13_live.tab3 : rtab .any (opsOf Try.f4 3) = palletlaw13_live.T3 := by kernel_rfl
theorem palletlaw13_live.bits3 : waitsOk palletlaw13_live.T3.2 palletlaw13_live.B3 = true := by kernel_rfl
set_option maxHeartbeats 8000000 in
set_option maxRecDepth 100000 in
theorem palletlaw13_live.calls (k : Nat)  (r : Bool) (w : World) (h : palletlaw13_live.f k  = some r) :
  Calls Try.prog 4 #[] w fun e w' => e = .returned (.bool r) ∧ Below w.heap.size w w' := by
 have hu25 := Try.underlying25
 have hu33 := Try.underlying33
 have HB := asd (Below.refl w.heap.size w)
 have H : ((palletlaw13_four.f).bind fun bt417 => ((node_New.f k bt417.1 bt417.2.1 bt417.2.2.1 bt417.2.2.2.1 bt417.2.2.2.2 1 10 0 0).bind fun bt422 => ((palletlaw13_four.f).bind fun bt440 => ((node_Wake.f k bt440.1 bt440.2.1 bt440.2.2.1 bt440.2.2.2.1 bt440.2.2.2.2 bt422.1 bt422.2.1 bt422.2.2.1 bt422.2.2.2.1 bt422.2.2.2.2.1 bt422.2.2.2.2.2.1 bt422.2.2.2.2.2.2.1 bt422.2.2.2.2.2.2.2.1 bt422.2.2.2.2.2.2.2.2.1 bt422.2.2.2.2.2.2.2.2.2.1 bt422.2.2.2.2.2.2.2.2.2.2.1 bt422.2.2.2.2.2.2.2.2.2.2.2.1 bt422.2.2.2.2.2.2.2.2.2.2.2.2.1 bt422.2.2.2.2.2.2.2.2.2.2.2.2.2.1 0).bind fun bt445 => ((palletlaw13_four.f).bind fun bt465 => ((node_Timer.f k bt465.1 bt465.2.1 bt465.2.2.1 bt465.2.2.2.1 bt465.2.2.2.2 bt445.1 bt445.2.1 bt445.2.2.1 bt445.2.2.2.1 bt445.2.2.2.2.1 bt445.2.2.2.2.2.1 bt445.2.2.2.2.2.2.1 bt445.2.2.2.2.2.2.2.1 bt445.2.2.2.2.2.2.2.2.1 bt445.2.2.2.2.2.2.2.2.2.1 bt445.2.2.2.2.2.2.2.2.2.2.1 bt445.2.2.2.2.2.2.2.2.2.2.2.1 bt445.2.2.2.2.2.2.2.2.2.2.2.2.1 bt445.2.2.2.2.2.2.2.2.2.2.2.2.2.1 10000).bind fun bt470 => (if bt422.2.2.2.2.2.2.2.2.2.2.2.2.2.2 = 0 then (if bt445.2.2.2.2.2.2.2.2.2.2.2.2.2.2.2 = 0 then (if bt470.2.2.2.2.2.2.2.2.2.2.2.2.2.2.2 = 0 then (if (bt445.2.2.2.2.2.2.2.2.2.2.2.2.2.2.1.length : Int) = 2 then (if 1 < (bt445.2.2.2.2.2.2.2.2.2.2.2.2.2.2.1.length : Int) then (if ((rd_T44 bt445.2.2.2.2.2.2.2.2.2.2.2.2.2.2.1 1).f1) = 10000 then (if (bt470.2.2.2.2.2.2.2.2.2.2.2.2.2.2.1.length : Int) = 2 then (if 1 < (bt470.2.2.2.2.2.2.2.2.2.2.2.2.2.2.1.length : Int) then (if ((rd_T44 bt470.2.2.2.2.2.2.2.2.2.2.2.2.2.2.1 1).f1) = 10200 then (some (bt470.2.1 == 2)) else (none)) else (none)) else (none)) else (none)) else (none)) else (none)) else (none)) else (none)) else (none)))))))) = some r := h
 clear h
 replace H := Option.bind_eq_some_iff.mp H
 obtain ⟨⟨t417, t418, t419, t420, t421⟩, A10, H⟩ := H
 replace H : ((node_New.f k t417 t418 t419 t420 t421 1 10 0 0).bind fun bt422 => ((palletlaw13_four.f).bind fun bt440 => ((node_Wake.f k bt440.1 bt440.2.1 bt440.2.2.1 bt440.2.2.2.1 bt440.2.2.2.2 bt422.1 bt422.2.1 bt422.2.2.1 bt422.2.2.2.1 bt422.2.2.2.2.1 bt422.2.2.2.2.2.1 bt422.2.2.2.2.2.2.1 bt422.2.2.2.2.2.2.2.1 bt422.2.2.2.2.2.2.2.2.1 bt422.2.2.2.2.2.2.2.2.2.1 bt422.2.2.2.2.2.2.2.2.2.2.1 bt422.2.2.2.2.2.2.2.2.2.2.2.1 bt422.2.2.2.2.2.2.2.2.2.2.2.2.1 bt422.2.2.2.2.2.2.2.2.2.2.2.2.2.1 0).bind fun bt445 => ((palletlaw13_four.f).bind fun bt465 => ((node_Timer.f k bt465.1 bt465.2.1 bt465.2.2.1 bt465.2.2.2.1 bt465.2.2.2.2 bt445.1 bt445.2.1 bt445.2.2.1 bt445.2.2.2.1 bt445.2.2.2.2.1 bt445.2.2.2.2.2.1 bt445.2.2.2.2.2.2.1 bt445.2.2.2.2.2.2.2.1 bt445.2.2.2.2.2.2.2.2.1 bt445.2.2.2.2.2.2.2.2.2.1 bt445.2.2.2.2.2.2.2.2.2.2.1 bt445.2.2.2.2.2.2.2.2.2.2.2.1 bt445.2.2.2.2.2.2.2.2.2.2.2.2.1 bt445.2.2.2.2.2.2.2.2.2.2.2.2.2.1 10000).bind fun bt470 => (if bt422.2.2.2.2.2.2.2.2.2.2.2.2.2.2 = 0 then (if bt445.2.2.2.2.2.2.2.2.2.2.2.2.2.2.2 = 0 then (if bt470.2.2.2.2.2.2.2.2.2.2.2.2.2.2.2 = 0 then (if (bt445.2.2.2.2.2.2.2.2.2.2.2.2.2.2.1.length : Int) = 2 then (if 1 < (bt445.2.2.2.2.2.2.2.2.2.2.2.2.2.2.1.length : Int) then (if ((rd_T44 bt445.2.2.2.2.2.2.2.2.2.2.2.2.2.2.1 1).f1) = 10000 then (if (bt470.2.2.2.2.2.2.2.2.2.2.2.2.2.2.1.length : Int) = 2 then (if 1 < (bt470.2.2.2.2.2.2.2.2.2.2.2.2.2.2.1.length : Int) then (if ((rd_T44 bt470.2.2.2.2.2.2.2.2.2.2.2.2.2.2.1 1).f1) = 10200 then (some (bt470.2.1 == 2)) else (none)) else (none)) else (none)) else (none)) else (none)) else (none)) else (none)) else (none)) else (none))))))) = some r := H
 have A1 := asd A10
 clear A10
 replace H := Option.bind_eq_some_iff.mp H
 obtain ⟨⟨t422, t423, t424, t425, t426, t427, t428, t429, t430, t431, t432, t433, t436, t437, t438⟩, A20, H⟩ := H
 replace H : ((palletlaw13_four.f).bind fun bt440 => ((node_Wake.f k bt440.1 bt440.2.1 bt440.2.2.1 bt440.2.2.2.1 bt440.2.2.2.2 t422 t423 t424 t425 t426 t427 t428 t429 t430 t431 t432 t433 t436 t437 0).bind fun bt445 => ((palletlaw13_four.f).bind fun bt465 => ((node_Timer.f k bt465.1 bt465.2.1 bt465.2.2.1 bt465.2.2.2.1 bt465.2.2.2.2 bt445.1 bt445.2.1 bt445.2.2.1 bt445.2.2.2.1 bt445.2.2.2.2.1 bt445.2.2.2.2.2.1 bt445.2.2.2.2.2.2.1 bt445.2.2.2.2.2.2.2.1 bt445.2.2.2.2.2.2.2.2.1 bt445.2.2.2.2.2.2.2.2.2.1 bt445.2.2.2.2.2.2.2.2.2.2.1 bt445.2.2.2.2.2.2.2.2.2.2.2.1 bt445.2.2.2.2.2.2.2.2.2.2.2.2.1 bt445.2.2.2.2.2.2.2.2.2.2.2.2.2.1 10000).bind fun bt470 => (if t438 = 0 then (if bt445.2.2.2.2.2.2.2.2.2.2.2.2.2.2.2 = 0 then (if bt470.2.2.2.2.2.2.2.2.2.2.2.2.2.2.2 = 0 then (if (bt445.2.2.2.2.2.2.2.2.2.2.2.2.2.2.1.length : Int) = 2 then (if 1 < (bt445.2.2.2.2.2.2.2.2.2.2.2.2.2.2.1.length : Int) then (if ((rd_T44 bt445.2.2.2.2.2.2.2.2.2.2.2.2.2.2.1 1).f1) = 10000 then (if (bt470.2.2.2.2.2.2.2.2.2.2.2.2.2.2.1.length : Int) = 2 then (if 1 < (bt470.2.2.2.2.2.2.2.2.2.2.2.2.2.2.1.length : Int) then (if ((rd_T44 bt470.2.2.2.2.2.2.2.2.2.2.2.2.2.2.1 1).f1) = 10200 then (some (bt470.2.1 == 2)) else (none)) else (none)) else (none)) else (none)) else (none)) else (none)) else (none)) else (none)) else (none)))))) = some r := H
 have A2 := asd A20
 clear A20
 replace H := Option.bind_eq_some_iff.mp H
 obtain ⟨⟨t440, t441, t442, t443, t444⟩, A30, H⟩ := H
 replace H : ((node_Wake.f k t440 t441 t442 t443 t444 t422 t423 t424 t425 t426 t427 t428 t429 t430 t431 t432 t433 t436 t437 0).bind fun bt445 => ((palletlaw13_four.f).bind fun bt465 => ((node_Timer.f k bt465.1 bt465.2.1 bt465.2.2.1 bt465.2.2.2.1 bt465.2.2.2.2 bt445.1 bt445.2.1 bt445.2.2.1 bt445.2.2.2.1 bt445.2.2.2.2.1 bt445.2.2.2.2.2.1 bt445.2.2.2.2.2.2.1 bt445.2.2.2.2.2.2.2.1 bt445.2.2.2.2.2.2.2.2.1 bt445.2.2.2.2.2.2.2.2.2.1 bt445.2.2.2.2.2.2.2.2.2.2.1 bt445.2.2.2.2.2.2.2.2.2.2.2.1 bt445.2.2.2.2.2.2.2.2.2.2.2.2.1 bt445.2.2.2.2.2.2.2.2.2.2.2.2.2.1 10000).bind fun bt470 => (if t438 = 0 then (if bt445.2.2.2.2.2.2.2.2.2.2.2.2.2.2.2 = 0 then (if bt470.2.2.2.2.2.2.2.2.2.2.2.2.2.2.2 = 0 then (if (bt445.2.2.2.2.2.2.2.2.2.2.2.2.2.2.1.length : Int) = 2 then (if 1 < (bt445.2.2.2.2.2.2.2.2.2.2.2.2.2.2.1.length : Int) then (if ((rd_T44 bt445.2.2.2.2.2.2.2.2.2.2.2.2.2.2.1 1).f1) = 10000 then (if (bt470.2.2.2.2.2.2.2.2.2.2.2.2.2.2.1.length : Int) = 2 then (if 1 < (bt470.2.2.2.2.2.2.2.2.2.2.2.2.2.2.1.length : Int) then (if ((rd_T44 bt470.2.2.2.2.2.2.2.2.2.2.2.2.2.2.1 1).f1) = 10200 then (some (bt470.2.1 == 2)) else (none)) else (none)) else (none)) else (none)) else (none)) else (none)) else (none)) else (none)) else (none))))) = some r := H
 have A3 := asd A30
 clear A30
 replace H := Option.bind_eq_some_iff.mp H
 obtain ⟨⟨t445, t446, t447, t448, t449, t450, t451, t452, t453, t454, t455, t456, t459, t460, t461, t464⟩, A40, H⟩ := H
 replace H : ((palletlaw13_four.f).bind fun bt465 => ((node_Timer.f k bt465.1 bt465.2.1 bt465.2.2.1 bt465.2.2.2.1 bt465.2.2.2.2 t445 t446 t447 t448 t449 t450 t451 t452 t453 t454 t455 t456 t459 t460 10000).bind fun bt470 => (if t438 = 0 then (if t464 = 0 then (if bt470.2.2.2.2.2.2.2.2.2.2.2.2.2.2.2 = 0 then (if (t461.length : Int) = 2 then (if 1 < (t461.length : Int) then (if ((rd_T44 t461 1).f1) = 10000 then (if (bt470.2.2.2.2.2.2.2.2.2.2.2.2.2.2.1.length : Int) = 2 then (if 1 < (bt470.2.2.2.2.2.2.2.2.2.2.2.2.2.2.1.length : Int) then (if ((rd_T44 bt470.2.2.2.2.2.2.2.2.2.2.2.2.2.2.1 1).f1) = 10200 then (some (bt470.2.1 == 2)) else (none)) else (none)) else (none)) else (none)) else (none)) else (none)) else (none)) else (none)) else (none)))) = some r := H
 have A4 := asd A40
 clear A40
 replace H := Option.bind_eq_some_iff.mp H
 obtain ⟨⟨t465, t466, t467, t468, t469⟩, A50, H⟩ := H
 replace H : ((node_Timer.f k t465 t466 t467 t468 t469 t445 t446 t447 t448 t449 t450 t451 t452 t453 t454 t455 t456 t459 t460 10000).bind fun bt470 => (if t438 = 0 then (if t464 = 0 then (if bt470.2.2.2.2.2.2.2.2.2.2.2.2.2.2.2 = 0 then (if (t461.length : Int) = 2 then (if 1 < (t461.length : Int) then (if ((rd_T44 t461 1).f1) = 10000 then (if (bt470.2.2.2.2.2.2.2.2.2.2.2.2.2.2.1.length : Int) = 2 then (if 1 < (bt470.2.2.2.2.2.2.2.2.2.2.2.2.2.2.1.length : Int) then (if ((rd_T44 bt470.2.2.2.2.2.2.2.2.2.2.2.2.2.2.1 1).f1) = 10200 then (some (bt470.2.1 == 2)) else (none)) else (none)) else (none)) else (none)) else (none)) else (none)) else (none)) else (none)) else (none))) = some r := H
 have A5 := asd A50
 clear A50
 replace H := Option.bind_eq_some_iff.mp H
 obtain ⟨⟨t470, t471, t472, t473, t474, t475, t476, t477, t478, t479, t480, t481, t484, t485, t486, t489⟩, A60, H⟩ := H
 replace H : (if t438 = 0 then (if t464 = 0 then (if t489 = 0 then (if (t461.length : Int) = 2 then (if 1 < (t461.length : Int) then (if ((rd_T44 t461 1).f1) = 10000 then (if (t486.length : Int) = 2 then (if 1 < (t486.length : Int) then (if ((rd_T44 t486 1).f1) = 10200 then (some (t471 == 2)) else (none)) else (none)) else (none)) else (none)) else (none)) else (none)) else (none)) else (none)) else (none)) = some r := H
 have A6 := asd A60
 clear A60
 by_cases c7 : t438 = 0
 ·rw [if_pos c7] at H
  have c7b0 : (t438 == 0) = true := beq_iff_eq.mpr c7
  have c7b1 : (t438 != 0) = false := bne_eq_false_iff_eq.mpr c7
  clear c7
  by_cases c8 : t464 = 0
  ·rw [if_pos c8] at H
   have c8b0 : (t464 == 0) = true := beq_iff_eq.mpr c8
   have c8b1 : (t464 != 0) = false := bne_eq_false_iff_eq.mpr c8
   clear c8
   by_cases c9 : t489 = 0
   ·rw [if_pos c9] at H
    have c9b0 : (t489 == 0) = true := beq_iff_eq.mpr c9
    have c9b1 : (t489 != 0) = false := bne_eq_false_iff_eq.mpr c9
    clear c9
    by_cases c10 : (t461.length : Int) = 2
    ·rw [if_pos c10] at H
     have c10b0 : ((t461.length : Int) == 2) = true := beq_iff_eq.mpr c10
     have c10b1 : ((t461.length : Int) != 2) = false := bne_eq_false_iff_eq.mpr c10
     clear c10
     by_cases c11 : 1 < (t461.length : Int)
     ·rw [if_pos c11] at H
      have c11b0 : decide (1 < (t461.length : Int)) = true := decide_eq_true c11
      have c11b1 : decide (1 < t461.length) = true := decide_eq_true (by omega)
      clear c11
      by_cases c12 : ((rd_T44 t461 1).f1) = 10000
      ·rw [if_pos c12] at H
       have c12b0 : (((rd_T44 t461 1).f1) == 10000) = true := beq_iff_eq.mpr c12
       have c12b1 : (((rd_T44 t461 1).f1) != 10000) = false := bne_eq_false_iff_eq.mpr c12
       clear c12
       by_cases c13 : (t486.length : Int) = 2
       ·rw [if_pos c13] at H
        have c13b0 : ((t486.length : Int) == 2) = true := beq_iff_eq.mpr c13
        have c13b1 : ((t486.length : Int) != 2) = false := bne_eq_false_iff_eq.mpr c13
        clear c13
        by_cases c14 : 1 < (t486.length : Int)
        ·rw [if_pos c14] at H
         have c14b0 : decide (1 < (t486.length : Int)) = true := decide_eq_true c14
         have c14b1 : decide (1 < t486.length) = true := decide_eq_true (by omega)
         clear c14
         by_cases c15 : ((rd_T44 t486 1).f1) = 10200
         ·rw [if_pos c15] at H
          have c15b0 : (((rd_T44 t486 1).f1) == 10200) = true := beq_iff_eq.mpr c15
          have c15b1 : (((rd_T44 t486 1).f1) != 10200) = false := bne_eq_false_iff_eq.mpr c15
          clear c15
          obtain rfl := Option.some.inj H
          go_enter Try.func4, Try.ntmps4
          try go_wp2_with (first | ((with_reducible refine gate_callee (f := 10) rfl ?_); refine gL (some 8) Try.func10 #[] ?_; (with_reducible refine (palletlaw13_four.calls  t417 t418 t419 t420 t421 _ A1.out).mono ?_); rintro e w16 ⟨rfl, hb⟩; refine ⟨_, rfl, ?_⟩; replace HB := bs HB hb; (try clear hb)) | ((with_reducible refine gate_callee (f := 5) rfl ?_); refine gL (some 10) Try.func5 #[.agg #[.int .i64 t417, .int .i64 t418, .int .i64 t419, .int .i64 t420, .int .i64 t421], .int .i64 1, .agg #[.int .i64 10, .int .i64 0, .int .i64 0]] ?_; (with_reducible refine (node_New.calls k t417 t418 t419 t420 t421 1 10 0 0 t422 t423 t424 t425 t426 t427 t428 t429 t430 t431 t432 t433 t436 t437 t438 _ A2.out).mono ?_); rintro e w17 ⟨v434, rfl, ho0, hb⟩; refine ⟨_, rfl, ?_⟩; have HO435 := rl ho0 HB; replace HB := bs HB hb; (try clear hb); (try clear ho0)) | ((with_reducible refine gate_dst (N := 1) rfl ?_); (try (refine gate_guard (by rfl) ?_; dsimp only)); refine bx (N := 1) (cs := #[.int .i64 0, .int .i64 0, .int .u64 0, .int .i64 0, .int .i64 0, .int .i64 0, .int .i64 0, .int .i64 0, .int .u16 0, .int .i64 0, .int .i64 0, .slice none 0 0, .bool false, .int .i64 0]) (t := 33) ?_; intro gb439 hg w18 hbox hb; have BK439 := asd (hbox); have GW439 := bz HB hg; have GE439 := bz HB hg; replace HO435 := rb HO435 hb; replace HB := bs HB hb; clear hb hbox hg; have hcz19 := cf14 BK439; obtain ⟨Ao20, co20, eo20⟩ := Kd.R_slice HO435.out; subst eo20))
          have n0_ : Aside0 (Kd.R (Kd.int .i64) 2 ((((((((((((((w18.setCell ⟨gb439, 0, none⟩ (.int .i64 t422)).setCell ⟨gb439, 1, none⟩ (.int .i64 t423)).setCell ⟨gb439, 2, none⟩ (.int .u64 t424)).setCell ⟨gb439, 3, none⟩ (.int .i64 t425)).setCell ⟨gb439, 4, none⟩ (.int .i64 t426)).setCell ⟨gb439, 5, none⟩ (.int .i64 t427)).setCell ⟨gb439, 6, none⟩ (.int .i64 t428)).setCell ⟨gb439, 7, none⟩ (.int .i64 t429)).setCell ⟨gb439, 8, none⟩ (.int .u16 t430)).setCell ⟨gb439, 9, none⟩ (.int .i64 t431)).setCell ⟨gb439, 10, none⟩ (.int .i64 t432)).setCell ⟨gb439, 11, none⟩ (.slice Ao20 t433.length co20)).setCell ⟨gb439, 12, none⟩ (.bool t436)).setCell ⟨gb439, 13, none⟩ (.int .i64 t437)) w.heap.size (fun _ => True) (.slice Ao20 t433.length co20) t433) := rf HO435 BK439 (by decide) (fun _ hk => trivial)
          have n1_ : Aside0 (((((((((((((((w18.setCell ⟨gb439, 0, none⟩ (.int .i64 t422)).setCell ⟨gb439, 1, none⟩ (.int .i64 t423)).setCell ⟨gb439, 2, none⟩ (.int .u64 t424)).setCell ⟨gb439, 3, none⟩ (.int .i64 t425)).setCell ⟨gb439, 4, none⟩ (.int .i64 t426)).setCell ⟨gb439, 5, none⟩ (.int .i64 t427)).setCell ⟨gb439, 6, none⟩ (.int .i64 t428)).setCell ⟨gb439, 7, none⟩ (.int .i64 t429)).setCell ⟨gb439, 8, none⟩ (.int .u16 t430)).setCell ⟨gb439, 9, none⟩ (.int .i64 t431)).setCell ⟨gb439, 10, none⟩ (.int .i64 t432)).setCell ⟨gb439, 11, none⟩ (.slice Ao20 t433.length co20)).setCell ⟨gb439, 12, none⟩ (.bool t436)).setCell ⟨gb439, 13, none⟩ (.int .i64 t437)).heap[gb439]? = some (.cells #[.int .i64 t422, .int .i64 t423, .int .u64 t424, .int .i64 t425, .int .i64 t426, .int .i64 t427, .int .i64 t428, .int .i64 t429, .int .u16 t430, .int .i64 t431, .int .i64 t432, .slice Ao20 t433.length co20, .bool t436, .int .i64 t437] 33 (0, 0))) := bp14 BK439
          have n2_ : Aside0 (Below w.heap.size w ((((((((((((((w18.setCell ⟨gb439, 0, none⟩ (.int .i64 t422)).setCell ⟨gb439, 1, none⟩ (.int .i64 t423)).setCell ⟨gb439, 2, none⟩ (.int .u64 t424)).setCell ⟨gb439, 3, none⟩ (.int .i64 t425)).setCell ⟨gb439, 4, none⟩ (.int .i64 t426)).setCell ⟨gb439, 5, none⟩ (.int .i64 t427)).setCell ⟨gb439, 6, none⟩ (.int .i64 t428)).setCell ⟨gb439, 7, none⟩ (.int .i64 t429)).setCell ⟨gb439, 8, none⟩ (.int .u16 t430)).setCell ⟨gb439, 9, none⟩ (.int .i64 t431)).setCell ⟨gb439, 10, none⟩ (.int .i64 t432)).setCell ⟨gb439, 11, none⟩ (.slice Ao20 t433.length co20)).setCell ⟨gb439, 12, none⟩ (.bool t436)).setCell ⟨gb439, 13, none⟩ (.int .i64 t437))) := ⟨bse HB⟩
          (try clear HO435)
          (try clear BK439)
          (try clear HB)
          generalize ((((((((((((((w18.setCell ⟨gb439, 0, none⟩ (.int .i64 t422)).setCell ⟨gb439, 1, none⟩ (.int .i64 t423)).setCell ⟨gb439, 2, none⟩ (.int .u64 t424)).setCell ⟨gb439, 3, none⟩ (.int .i64 t425)).setCell ⟨gb439, 4, none⟩ (.int .i64 t426)).setCell ⟨gb439, 5, none⟩ (.int .i64 t427)).setCell ⟨gb439, 6, none⟩ (.int .i64 t428)).setCell ⟨gb439, 7, none⟩ (.int .i64 t429)).setCell ⟨gb439, 8, none⟩ (.int .u16 t430)).setCell ⟨gb439, 9, none⟩ (.int .i64 t431)).setCell ⟨gb439, 10, none⟩ (.int .i64 t432)).setCell ⟨gb439, 11, none⟩ (.slice Ao20 t433.length co20)).setCell ⟨gb439, 12, none⟩ (.bool t436)).setCell ⟨gb439, 13, none⟩ (.int .i64 t437)) = w21 at n0_ n1_ n2_ ⊢
          have HO435 := n0_
          have BK439 := n1_
          have HB := n2_
          clear n0_ n1_ n2_
          replace HO435 := asd (Kd.R_drew HO435.out)
          replace BK439 := asd (blk_drew BK439.out)
          replace HB := asd (below_drew1 HB.out)
          refine start_ (n := 10) (S := fun w' => w'.cell? ⟨gb439, 0, none⟩ = some (.int .i64 t422) ∧ w'.cell? ⟨gb439, 1, none⟩ = some (.int .i64 t423) ∧ w'.cell? ⟨gb439, 2, none⟩ = some (.int .u64 t424) ∧ w'.cell? ⟨gb439, 3, none⟩ = some (.int .i64 t425) ∧ w'.cell? ⟨gb439, 4, none⟩ = some (.int .i64 t426) ∧ w'.cell? ⟨gb439, 5, none⟩ = some (.int .i64 t427) ∧ w'.cell? ⟨gb439, 6, none⟩ = some (.int .i64 t428) ∧ w'.cell? ⟨gb439, 7, none⟩ = some (.int .i64 t429) ∧ w'.cell? ⟨gb439, 8, none⟩ = some (.int .u16 t430) ∧ w'.cell? ⟨gb439, 9, none⟩ = some (.int .i64 t431) ∧ w'.cell? ⟨gb439, 10, none⟩ = some (.int .i64 t432) ∧ w'.cell? ⟨gb439, 11, none⟩ = some (.slice Ao20 t433.length co20) ∧ w'.cell? ⟨gb439, 12, none⟩ = some (.bool t436) ∧ w'.cell? ⟨gb439, 13, none⟩ = some (.int .i64 t437)) (ds := [7]) (fb 10 0) (by kernel_rfl) rfl rfl ⟨(blk_cell BK439.out 0).trans rfl, (blk_cell BK439.out 1).trans rfl, (blk_cell BK439.out 2).trans rfl, (blk_cell BK439.out 3).trans rfl, (blk_cell BK439.out 4).trans rfl, (blk_cell BK439.out 5).trans rfl, (blk_cell BK439.out 6).trans rfl, (blk_cell BK439.out 7).trans rfl, (blk_cell BK439.out 8).trans rfl, (blk_cell BK439.out 9).trans rfl, (blk_cell BK439.out 10).trans rfl, (blk_cell BK439.out 11).trans rfl, (blk_cell BK439.out 12).trans rfl, (blk_cell BK439.out 13).trans rfl⟩ (fun hHeld => ?_); refine with_tabW palletlaw13_live.tab2 palletlaw13_live.bits2 (fun HT_ HW_ => ?_)
          generalize w21.drew = w22 at HO435 BK439 HB hHeld ⊢
          refine tz (i := 1) (N := some 15) (fb 10 2) hHeld ?_ (hc := take_ofW HT_.out HW_.out (by kernel_rfl))
          refine one_ (i := 0) (N := some 14) (fb 10 3) rfl rfl (one_of HT_.out (by kernel_rfl)) (by decide) (fun K hK => ?_)
          refine goes_ Try.func10 (by kernel_rfl) rfl #[] (by rfl) rfl rfl (by (try simp only [List.map_toArray, List.map_cons, List.map_nil]); first | done | rfl | (simp only [List.length_drop, List.length_take]; first | rfl | (rw [Nat.min_eq_left (Int.toNat_le.2 (of_decide_eq_true (by assumption)))]; rfl))) ?_
          with_reducible refine (palletlaw13_four.calls  t440 t441 t442 t443 t444 _ A3.out).mono ?_
          rintro e w23 ⟨rfl, hb⟩
          refine ⟨_, rfl, ?_⟩
          replace HO435 := rb HO435 hb
          replace BK439 := bb BK439 hb
          replace HB := bs HB hb
          (try clear hb)
          (try clear hb2)
          (try clear hk)
          (try clear hi)
          refine hK.out _ _ ⟨(blk_cell BK439.out 0).trans rfl, (blk_cell BK439.out 1).trans rfl, (blk_cell BK439.out 2).trans rfl, (blk_cell BK439.out 3).trans rfl, (blk_cell BK439.out 4).trans rfl, (blk_cell BK439.out 5).trans rfl, (blk_cell BK439.out 6).trans rfl, (blk_cell BK439.out 7).trans rfl, (blk_cell BK439.out 8).trans rfl, (blk_cell BK439.out 9).trans rfl, (blk_cell BK439.out 10).trans rfl, (blk_cell BK439.out 11).trans rfl, (blk_cell BK439.out 12).trans rfl, (blk_cell BK439.out 13).trans rfl⟩ (fun hHeld => ?_)
          clear hK K
          refine norm_ (a' := ?_) ?_ ?_
          rotate_left
          ·show Act.put _ (some 14) _ = _
           simp only [Act.put, List.setIfInBounds_toArray, List.set_cons_zero, List.set_cons_succ, i64_w, i32_w]
           rfl
          refine one_ (i := 2) (N := some 16) (fb 10 7) rfl rfl (one_of HT_.out (by kernel_rfl)) (by decide) (fun K hK => ?_)
          refine goes_ Try.func6 (by kernel_rfl) rfl #[.agg #[.int .i64 t440, .int .i64 t441, .int .i64 t442, .int .i64 t443, .int .i64 t444], .agg #[.int .i64 t422, .int .i64 t423, .int .u64 t424, .int .i64 t425, .int .i64 t426, .int .i64 t427, .int .i64 t428, .int .i64 t429, .int .u16 t430, .int .i64 t431, .int .i64 t432, .slice Ao20 t433.length co20, .bool t436, .int .i64 t437], .int .i64 0] (by rfl) rfl rfl (by (try simp only [List.map_toArray, List.map_cons, List.map_nil]); first | done | rfl | (simp only [List.length_drop, List.length_take]; first | rfl | (rw [Nat.min_eq_left (Int.toNat_le.2 (of_decide_eq_true (by assumption)))]; rfl))) ?_
          with_reducible refine (node_Wake.calls k t440 t441 t442 t443 t444 t422 t423 t424 t425 t426 t427 t428 t429 t430 t431 t432 _ _ t433 t436 t437 0 t445 t446 t447 t448 t449 t450 t451 t452 t453 t454 t455 t456 t459 t460 t461 t464 _ ?side1 ?side2 A4.out).mono ?_
          (case side1 => exact cr (Kd.R_reads' HO435.out).2.2)
          (case side2 => exact (Kd.R_reads' HO435.out).2.1)
          rintro e w24 ⟨v457, v462, rfl, ho0, ho1, hb⟩
          refine ⟨_, rfl, ?_⟩
          have HO458 := asd (Kd.R_lower (Kd.R_new' ho0 (Kd.R_lt (re HO435).out)) (below_size (bse HB)))
          have HO463 := rl ho1 HB
          replace HO435 := asd (Kd.R_elder' (re HO435).out (Kd.R_base ho0) hb)
          replace BK439 := bb BK439 hb
          replace HB := bs HB hb
          (try clear hb)
          (try clear hb2)
          (try clear hk)
          (try clear hi)
          (try clear ho0)
          (try clear ho1)
          obtain ⟨Ao36, co36, eo36⟩ := Kd.R_slice HO458.out
          (first | subst eo36 | (injection eo36 with f1_ f2_ f3_; have f4_ := f1_.symm; have f5_ := f3_.symm; clear f1_ f2_ f3_; subst f4_; subst f5_))
          refine hK.out _ _ ⟨(blk_cell BK439.out 0).trans rfl, (blk_cell BK439.out 1).trans rfl, (blk_cell BK439.out 2).trans rfl, (blk_cell BK439.out 3).trans rfl, (blk_cell BK439.out 4).trans rfl, (blk_cell BK439.out 5).trans rfl, (blk_cell BK439.out 6).trans rfl, (blk_cell BK439.out 7).trans rfl, (blk_cell BK439.out 8).trans rfl, (blk_cell BK439.out 9).trans rfl, (blk_cell BK439.out 10).trans rfl, (blk_cell BK439.out 11).trans rfl, (blk_cell BK439.out 12).trans rfl, (blk_cell BK439.out 13).trans rfl⟩ (fun hHeld => ?_)
          clear hK K
          refine norm_ (a' := ?_) ?_ ?_
          rotate_left
          ·show Act.put _ (some 16) _ = _
           simp only [Act.put, List.setIfInBounds_toArray, List.set_cons_zero, List.set_cons_succ, i64_w, i32_w]
           rfl
          refine pz (i := 3) (N := some 13) (fb 10 15) ?_ (hc := any_of HT_.out (by kernel_rfl))
          refine pz (i := 4) (N := some 17) (fb 10 31) ?_ (hc := any_of HT_.out (by kernel_rfl))
          refine pz (i := 5) (N := some 18) (fb 10 63) ?_ (hc := any_of HT_.out (by kernel_rfl))
          refine pz (i := 6) (N := some 19) (fb 10 127) ?_ (hc := any_of HT_.out (by kernel_rfl))
          refine last_ (i := 7) (N := none) (fb 10 255) rfl rfl (one_of HT_.out (by kernel_rfl)) (by decide) (fun K hK => ?_)
          have hs25 : w24.cell? ⟨gb439, 0, none⟩ = some (.int .i64 t422) := (blk_cell BK439.out 0).trans rfl
          have hfs25 := blk_frozen BK439.out 0
          have hs26 : w24.cell? ⟨gb439, 1, none⟩ = some (.int .i64 t423) := (blk_cell BK439.out 1).trans rfl
          have hfs26 := blk_frozen BK439.out 1
          have hs27 : w24.cell? ⟨gb439, 2, none⟩ = some (.int .u64 t424) := (blk_cell BK439.out 2).trans rfl
          have hfs27 := blk_frozen BK439.out 2
          have hs28 : w24.cell? ⟨gb439, 3, none⟩ = some (.int .i64 t425) := (blk_cell BK439.out 3).trans rfl
          have hfs28 := blk_frozen BK439.out 3
          have hs29 : w24.cell? ⟨gb439, 4, none⟩ = some (.int .i64 t426) := (blk_cell BK439.out 4).trans rfl
          have hfs29 := blk_frozen BK439.out 4
          have hs30 : w24.cell? ⟨gb439, 5, none⟩ = some (.int .i64 t427) := (blk_cell BK439.out 5).trans rfl
          have hfs30 := blk_frozen BK439.out 5
          have hs31 : w24.cell? ⟨gb439, 6, none⟩ = some (.int .i64 t428) := (blk_cell BK439.out 6).trans rfl
          have hfs31 := blk_frozen BK439.out 6
          have hs32 : w24.cell? ⟨gb439, 7, none⟩ = some (.int .i64 t429) := (blk_cell BK439.out 7).trans rfl
          have hfs32 := blk_frozen BK439.out 7
          have hs33 : w24.cell? ⟨gb439, 8, none⟩ = some (.int .u16 t430) := (blk_cell BK439.out 8).trans rfl
          have hfs33 := blk_frozen BK439.out 8
          have hs34 : w24.cell? ⟨gb439, 9, none⟩ = some (.int .i64 t431) := (blk_cell BK439.out 9).trans rfl
          have hfs34 := blk_frozen BK439.out 9
          have hs35 : w24.cell? ⟨gb439, 10, none⟩ = some (.int .i64 t432) := (blk_cell BK439.out 10).trans rfl
          have hfs35 := blk_frozen BK439.out 10
          have hs37 : w24.cell? ⟨gb439, 11, none⟩ = some (.slice Ao20 t433.length co20) := (blk_cell BK439.out 11).trans rfl
          have hfs37 := blk_frozen BK439.out 11
          have hs38 : w24.cell? ⟨gb439, 12, none⟩ = some (.bool t436) := (blk_cell BK439.out 12).trans rfl
          have hfs38 := blk_frozen BK439.out 12
          have hs39 : w24.cell? ⟨gb439, 13, none⟩ = some (.int .i64 t437) := (blk_cell BK439.out 13).trans rfl
          have hfs39 := blk_frozen BK439.out 13
          refine skip_ (w1 := ?_) (by rfl) rfl ?_ ?_
          rotate_left
          ·go_simp
           rfl
          refine hK.out _ _ ?_
          clear hK K
          refine pz (i := 8) (N := some 3) (fb 10 511) ?_ (hc := any_of HT_.out (by kernel_rfl))
          refine pz (i := 9) (N := some 4) (fb 10 1023) ?_ (hc := any_of HT_.out (by kernel_rfl))
          refine done_ (done_of HT_.out (by kernel_rfl)) ?_
          try go_wp2
          have n0_ : Aside0 (Kd.R (Kd.int .i64) 2 ((((((((((((((w24.setCell ⟨gb439, 0, none⟩ (.int .i64 t445)).setCell ⟨gb439, 1, none⟩ (.int .i64 t446)).setCell ⟨gb439, 2, none⟩ (.int .u64 t447)).setCell ⟨gb439, 3, none⟩ (.int .i64 t448)).setCell ⟨gb439, 4, none⟩ (.int .i64 t449)).setCell ⟨gb439, 5, none⟩ (.int .i64 t450)).setCell ⟨gb439, 6, none⟩ (.int .i64 t451)).setCell ⟨gb439, 7, none⟩ (.int .i64 t452)).setCell ⟨gb439, 8, none⟩ (.int .u16 t453)).setCell ⟨gb439, 9, none⟩ (.int .i64 t454)).setCell ⟨gb439, 10, none⟩ (.int .i64 t455)).setCell ⟨gb439, 11, none⟩ (.slice Ao36 t456.length co36)).setCell ⟨gb439, 12, none⟩ (.bool t459)).setCell ⟨gb439, 13, none⟩ (.int .i64 t460)) w.heap.size (fun k_ => some k_ ≠ (.slice Ao36 t456.length co36 : Value).ownBlock) (.slice Ao20 t433.length co20) t433) := rf HO435 BK439 (by decide) (fun _ hk => hk.2)
          have n1_ : Aside0 (Kd.R (Kd.int .i64) 2 ((((((((((((((w24.setCell ⟨gb439, 0, none⟩ (.int .i64 t445)).setCell ⟨gb439, 1, none⟩ (.int .i64 t446)).setCell ⟨gb439, 2, none⟩ (.int .u64 t447)).setCell ⟨gb439, 3, none⟩ (.int .i64 t448)).setCell ⟨gb439, 4, none⟩ (.int .i64 t449)).setCell ⟨gb439, 5, none⟩ (.int .i64 t450)).setCell ⟨gb439, 6, none⟩ (.int .i64 t451)).setCell ⟨gb439, 7, none⟩ (.int .i64 t452)).setCell ⟨gb439, 8, none⟩ (.int .u16 t453)).setCell ⟨gb439, 9, none⟩ (.int .i64 t454)).setCell ⟨gb439, 10, none⟩ (.int .i64 t455)).setCell ⟨gb439, 11, none⟩ (.slice Ao36 t456.length co36)).setCell ⟨gb439, 12, none⟩ (.bool t459)).setCell ⟨gb439, 13, none⟩ (.int .i64 t460)) w.heap.size (fun k_ => some k_ ≠ (.slice Ao20 t433.length co20 : Value).ownBlock) (.slice Ao36 t456.length co36) t456) := rf HO458 BK439 (by decide) (fun _ hk => hk.2)
          have n2_ : Aside0 (Kd.R k44 44 ((((((((((((((w24.setCell ⟨gb439, 0, none⟩ (.int .i64 t445)).setCell ⟨gb439, 1, none⟩ (.int .i64 t446)).setCell ⟨gb439, 2, none⟩ (.int .u64 t447)).setCell ⟨gb439, 3, none⟩ (.int .i64 t448)).setCell ⟨gb439, 4, none⟩ (.int .i64 t449)).setCell ⟨gb439, 5, none⟩ (.int .i64 t450)).setCell ⟨gb439, 6, none⟩ (.int .i64 t451)).setCell ⟨gb439, 7, none⟩ (.int .i64 t452)).setCell ⟨gb439, 8, none⟩ (.int .u16 t453)).setCell ⟨gb439, 9, none⟩ (.int .i64 t454)).setCell ⟨gb439, 10, none⟩ (.int .i64 t455)).setCell ⟨gb439, 11, none⟩ (.slice Ao36 t456.length co36)).setCell ⟨gb439, 12, none⟩ (.bool t459)).setCell ⟨gb439, 13, none⟩ (.int .i64 t460)) w.heap.size (fun _ => True) v462 t461) := rf HO463 BK439 (by decide) (fun _ hk => trivial)
          have n3_ : Aside0 (((((((((((((((w24.setCell ⟨gb439, 0, none⟩ (.int .i64 t445)).setCell ⟨gb439, 1, none⟩ (.int .i64 t446)).setCell ⟨gb439, 2, none⟩ (.int .u64 t447)).setCell ⟨gb439, 3, none⟩ (.int .i64 t448)).setCell ⟨gb439, 4, none⟩ (.int .i64 t449)).setCell ⟨gb439, 5, none⟩ (.int .i64 t450)).setCell ⟨gb439, 6, none⟩ (.int .i64 t451)).setCell ⟨gb439, 7, none⟩ (.int .i64 t452)).setCell ⟨gb439, 8, none⟩ (.int .u16 t453)).setCell ⟨gb439, 9, none⟩ (.int .i64 t454)).setCell ⟨gb439, 10, none⟩ (.int .i64 t455)).setCell ⟨gb439, 11, none⟩ (.slice Ao36 t456.length co36)).setCell ⟨gb439, 12, none⟩ (.bool t459)).setCell ⟨gb439, 13, none⟩ (.int .i64 t460)).heap[gb439]? = some (.cells #[.int .i64 t445, .int .i64 t446, .int .u64 t447, .int .i64 t448, .int .i64 t449, .int .i64 t450, .int .i64 t451, .int .i64 t452, .int .u16 t453, .int .i64 t454, .int .i64 t455, .slice Ao36 t456.length co36, .bool t459, .int .i64 t460] 33 (0, 0))) := bp14 BK439
          have n4_ : Aside0 (Below w.heap.size w ((((((((((((((w24.setCell ⟨gb439, 0, none⟩ (.int .i64 t445)).setCell ⟨gb439, 1, none⟩ (.int .i64 t446)).setCell ⟨gb439, 2, none⟩ (.int .u64 t447)).setCell ⟨gb439, 3, none⟩ (.int .i64 t448)).setCell ⟨gb439, 4, none⟩ (.int .i64 t449)).setCell ⟨gb439, 5, none⟩ (.int .i64 t450)).setCell ⟨gb439, 6, none⟩ (.int .i64 t451)).setCell ⟨gb439, 7, none⟩ (.int .i64 t452)).setCell ⟨gb439, 8, none⟩ (.int .u16 t453)).setCell ⟨gb439, 9, none⟩ (.int .i64 t454)).setCell ⟨gb439, 10, none⟩ (.int .i64 t455)).setCell ⟨gb439, 11, none⟩ (.slice Ao36 t456.length co36)).setCell ⟨gb439, 12, none⟩ (.bool t459)).setCell ⟨gb439, 13, none⟩ (.int .i64 t460))) := ⟨bse HB⟩
          (try clear HO435)
          (try clear HO458)
          (try clear HO463)
          (try clear BK439)
          (try clear HB)
          generalize ((((((((((((((w24.setCell ⟨gb439, 0, none⟩ (.int .i64 t445)).setCell ⟨gb439, 1, none⟩ (.int .i64 t446)).setCell ⟨gb439, 2, none⟩ (.int .u64 t447)).setCell ⟨gb439, 3, none⟩ (.int .i64 t448)).setCell ⟨gb439, 4, none⟩ (.int .i64 t449)).setCell ⟨gb439, 5, none⟩ (.int .i64 t450)).setCell ⟨gb439, 6, none⟩ (.int .i64 t451)).setCell ⟨gb439, 7, none⟩ (.int .i64 t452)).setCell ⟨gb439, 8, none⟩ (.int .u16 t453)).setCell ⟨gb439, 9, none⟩ (.int .i64 t454)).setCell ⟨gb439, 10, none⟩ (.int .i64 t455)).setCell ⟨gb439, 11, none⟩ (.slice Ao36 t456.length co36)).setCell ⟨gb439, 12, none⟩ (.bool t459)).setCell ⟨gb439, 13, none⟩ (.int .i64 t460)) = w40 at n0_ n1_ n2_ n3_ n4_ ⊢
          have HO435 := n0_
          have HO458 := n1_
          have HO463 := n2_
          have BK439 := n3_
          have HB := n4_
          clear n0_ n1_ n2_ n3_ n4_
          replace HO435 := asd (Kd.R_drew HO435.out)
          replace HO458 := asd (Kd.R_drew HO458.out)
          replace HO463 := asd (Kd.R_drew HO463.out)
          replace BK439 := asd (blk_drew BK439.out)
          replace HB := asd (below_drew1 HB.out)
          refine start_ (n := 10) (S := fun w' => w'.cell? ⟨gb439, 0, none⟩ = some (.int .i64 t445) ∧ w'.cell? ⟨gb439, 1, none⟩ = some (.int .i64 t446) ∧ w'.cell? ⟨gb439, 2, none⟩ = some (.int .u64 t447) ∧ w'.cell? ⟨gb439, 3, none⟩ = some (.int .i64 t448) ∧ w'.cell? ⟨gb439, 4, none⟩ = some (.int .i64 t449) ∧ w'.cell? ⟨gb439, 5, none⟩ = some (.int .i64 t450) ∧ w'.cell? ⟨gb439, 6, none⟩ = some (.int .i64 t451) ∧ w'.cell? ⟨gb439, 7, none⟩ = some (.int .i64 t452) ∧ w'.cell? ⟨gb439, 8, none⟩ = some (.int .u16 t453) ∧ w'.cell? ⟨gb439, 9, none⟩ = some (.int .i64 t454) ∧ w'.cell? ⟨gb439, 10, none⟩ = some (.int .i64 t455) ∧ w'.cell? ⟨gb439, 11, none⟩ = some (.slice Ao36 t456.length co36) ∧ w'.cell? ⟨gb439, 12, none⟩ = some (.bool t459) ∧ w'.cell? ⟨gb439, 13, none⟩ = some (.int .i64 t460)) (ds := [7]) (fb 10 0) (by kernel_rfl) rfl rfl ⟨(blk_cell BK439.out 0).trans rfl, (blk_cell BK439.out 1).trans rfl, (blk_cell BK439.out 2).trans rfl, (blk_cell BK439.out 3).trans rfl, (blk_cell BK439.out 4).trans rfl, (blk_cell BK439.out 5).trans rfl, (blk_cell BK439.out 6).trans rfl, (blk_cell BK439.out 7).trans rfl, (blk_cell BK439.out 8).trans rfl, (blk_cell BK439.out 9).trans rfl, (blk_cell BK439.out 10).trans rfl, (blk_cell BK439.out 11).trans rfl, (blk_cell BK439.out 12).trans rfl, (blk_cell BK439.out 13).trans rfl⟩ (fun hHeld => ?_); refine with_tabW palletlaw13_live.tab3 palletlaw13_live.bits3 (fun HT_ HW_ => ?_)
          generalize w40.drew = w41 at HO435 HO458 HO463 BK439 HB hHeld ⊢
          refine tz (i := 1) (N := some 22) (fb 10 2) hHeld ?_ (hc := take_ofW HT_.out HW_.out (by kernel_rfl))
          refine one_ (i := 0) (N := some 21) (fb 10 3) rfl rfl (one_of HT_.out (by kernel_rfl)) (by decide) (fun K hK => ?_)
          refine goes_ Try.func10 (by kernel_rfl) rfl #[] (by rfl) rfl rfl (by (try simp only [List.map_toArray, List.map_cons, List.map_nil]); first | done | rfl | (simp only [List.length_drop, List.length_take]; first | rfl | (rw [Nat.min_eq_left (Int.toNat_le.2 (of_decide_eq_true (by assumption)))]; rfl))) ?_
          with_reducible refine (palletlaw13_four.calls  t465 t466 t467 t468 t469 _ A5.out).mono ?_
          rintro e w42 ⟨rfl, hb⟩
          refine ⟨_, rfl, ?_⟩
          replace HO435 := rb HO435 hb
          replace HO458 := rb HO458 hb
          replace HO463 := rb HO463 hb
          replace BK439 := bb BK439 hb
          replace HB := bs HB hb
          (try clear hb)
          (try clear hb2)
          (try clear hk)
          (try clear hi)
          refine hK.out _ _ ⟨(blk_cell BK439.out 0).trans rfl, (blk_cell BK439.out 1).trans rfl, (blk_cell BK439.out 2).trans rfl, (blk_cell BK439.out 3).trans rfl, (blk_cell BK439.out 4).trans rfl, (blk_cell BK439.out 5).trans rfl, (blk_cell BK439.out 6).trans rfl, (blk_cell BK439.out 7).trans rfl, (blk_cell BK439.out 8).trans rfl, (blk_cell BK439.out 9).trans rfl, (blk_cell BK439.out 10).trans rfl, (blk_cell BK439.out 11).trans rfl, (blk_cell BK439.out 12).trans rfl, (blk_cell BK439.out 13).trans rfl⟩ (fun hHeld => ?_)
          clear hK K
          refine norm_ (a' := ?_) ?_ ?_
          rotate_left
          ·show Act.put _ (some 21) _ = _
           simp only [Act.put, List.setIfInBounds_toArray, List.set_cons_zero, List.set_cons_succ, i64_w, i32_w]
           rfl
          refine one_ (i := 2) (N := some 23) (fb 10 7) rfl rfl (one_of HT_.out (by kernel_rfl)) (by decide) (fun K hK => ?_)
          refine goes_ Try.func8 (by kernel_rfl) rfl #[.agg #[.int .i64 t465, .int .i64 t466, .int .i64 t467, .int .i64 t468, .int .i64 t469], .agg #[.int .i64 t445, .int .i64 t446, .int .u64 t447, .int .i64 t448, .int .i64 t449, .int .i64 t450, .int .i64 t451, .int .i64 t452, .int .u16 t453, .int .i64 t454, .int .i64 t455, .slice Ao36 t456.length co36, .bool t459, .int .i64 t460], .int .i64 10000] (by rfl) rfl rfl (by (try simp only [List.map_toArray, List.map_cons, List.map_nil]); first | done | rfl | (simp only [List.length_drop, List.length_take]; first | rfl | (rw [Nat.min_eq_left (Int.toNat_le.2 (of_decide_eq_true (by assumption)))]; rfl))) ?_
          with_reducible refine (node_Timer.calls k t465 t466 t467 t468 t469 t445 t446 t447 t448 t449 t450 t451 t452 t453 t454 t455 _ _ t456 t459 t460 10000 t470 t471 t472 t473 t474 t475 t476 t477 t478 t479 t480 t481 t484 t485 t486 t489 _ ?side1 ?side2 A6.out).mono ?_
          (case side1 => exact cr (Kd.R_reads' HO458.out).2.2)
          (case side2 => exact (Kd.R_reads' HO458.out).2.1)
          rintro e w43 ⟨v482, v487, rfl, ho0, ho1, hb⟩
          refine ⟨_, rfl, ?_⟩
          have HO483 := asd (Kd.R_lower (Kd.R_new' (Kd.R_new' ho0 (Kd.R_lt (re HO435).out)) (Kd.R_lt (re HO458).out)) (below_size (bse HB)))
          have HO488 := asd (Kd.R_lower (Kd.R_new' ho1 (Kd.R_lt (re HO463).out)) (below_size (bse HB)))
          replace HO435 := asd (Kd.R_elder' (re HO435).out (Kd.R_base ho0) hb)
          replace HO458 := asd (Kd.R_elder' (re HO458).out (Kd.R_base ho0) hb)
          replace HO463 := asd (Kd.R_elder' (re HO463).out (Kd.R_base ho1) hb)
          replace BK439 := bb BK439 hb
          replace HB := bs HB hb
          (try clear hb)
          (try clear hb2)
          (try clear hk)
          (try clear hi)
          (try clear ho0)
          (try clear ho1)
          obtain ⟨Ao55, co55, eo55⟩ := Kd.R_slice HO483.out
          (first | subst eo55 | (injection eo55 with f1_ f2_ f3_; have f4_ := f1_.symm; have f5_ := f3_.symm; clear f1_ f2_ f3_; subst f4_; subst f5_))
          refine hK.out _ _ ⟨(blk_cell BK439.out 0).trans rfl, (blk_cell BK439.out 1).trans rfl, (blk_cell BK439.out 2).trans rfl, (blk_cell BK439.out 3).trans rfl, (blk_cell BK439.out 4).trans rfl, (blk_cell BK439.out 5).trans rfl, (blk_cell BK439.out 6).trans rfl, (blk_cell BK439.out 7).trans rfl, (blk_cell BK439.out 8).trans rfl, (blk_cell BK439.out 9).trans rfl, (blk_cell BK439.out 10).trans rfl, (blk_cell BK439.out 11).trans rfl, (blk_cell BK439.out 12).trans rfl, (blk_cell BK439.out 13).trans rfl⟩ (fun hHeld => ?_)
          clear hK K
          refine norm_ (a' := ?_) ?_ ?_
          rotate_left
          ·show Act.put _ (some 23) _ = _
           simp only [Act.put, List.setIfInBounds_toArray, List.set_cons_zero, List.set_cons_succ, i64_w, i32_w]
           rfl
          refine pz (i := 3) (N := some 20) (fb 10 15) ?_ (hc := any_of HT_.out (by kernel_rfl))
          refine pz (i := 4) (N := some 24) (fb 10 31) ?_ (hc := any_of HT_.out (by kernel_rfl))
          refine pz (i := 5) (N := some 25) (fb 10 63) ?_ (hc := any_of HT_.out (by kernel_rfl))
          refine pz (i := 6) (N := some 26) (fb 10 127) ?_ (hc := any_of HT_.out (by kernel_rfl))
          refine last_ (i := 7) (N := none) (fb 10 255) rfl rfl (one_of HT_.out (by kernel_rfl)) (by decide) (fun K hK => ?_)
          have hs44 : w43.cell? ⟨gb439, 0, none⟩ = some (.int .i64 t445) := (blk_cell BK439.out 0).trans rfl
          have hfs44 := blk_frozen BK439.out 0
          have hs45 : w43.cell? ⟨gb439, 1, none⟩ = some (.int .i64 t446) := (blk_cell BK439.out 1).trans rfl
          have hfs45 := blk_frozen BK439.out 1
          have hs46 : w43.cell? ⟨gb439, 2, none⟩ = some (.int .u64 t447) := (blk_cell BK439.out 2).trans rfl
          have hfs46 := blk_frozen BK439.out 2
          have hs47 : w43.cell? ⟨gb439, 3, none⟩ = some (.int .i64 t448) := (blk_cell BK439.out 3).trans rfl
          have hfs47 := blk_frozen BK439.out 3
          have hs48 : w43.cell? ⟨gb439, 4, none⟩ = some (.int .i64 t449) := (blk_cell BK439.out 4).trans rfl
          have hfs48 := blk_frozen BK439.out 4
          have hs49 : w43.cell? ⟨gb439, 5, none⟩ = some (.int .i64 t450) := (blk_cell BK439.out 5).trans rfl
          have hfs49 := blk_frozen BK439.out 5
          have hs50 : w43.cell? ⟨gb439, 6, none⟩ = some (.int .i64 t451) := (blk_cell BK439.out 6).trans rfl
          have hfs50 := blk_frozen BK439.out 6
          have hs51 : w43.cell? ⟨gb439, 7, none⟩ = some (.int .i64 t452) := (blk_cell BK439.out 7).trans rfl
          have hfs51 := blk_frozen BK439.out 7
          have hs52 : w43.cell? ⟨gb439, 8, none⟩ = some (.int .u16 t453) := (blk_cell BK439.out 8).trans rfl
          have hfs52 := blk_frozen BK439.out 8
          have hs53 : w43.cell? ⟨gb439, 9, none⟩ = some (.int .i64 t454) := (blk_cell BK439.out 9).trans rfl
          have hfs53 := blk_frozen BK439.out 9
          have hs54 : w43.cell? ⟨gb439, 10, none⟩ = some (.int .i64 t455) := (blk_cell BK439.out 10).trans rfl
          have hfs54 := blk_frozen BK439.out 10
          have hs56 : w43.cell? ⟨gb439, 11, none⟩ = some (.slice Ao36 t456.length co36) := (blk_cell BK439.out 11).trans rfl
          have hfs56 := blk_frozen BK439.out 11
          have hs57 : w43.cell? ⟨gb439, 12, none⟩ = some (.bool t459) := (blk_cell BK439.out 12).trans rfl
          have hfs57 := blk_frozen BK439.out 12
          have hs58 : w43.cell? ⟨gb439, 13, none⟩ = some (.int .i64 t460) := (blk_cell BK439.out 13).trans rfl
          have hfs58 := blk_frozen BK439.out 13
          refine skip_ (w1 := ?_) (by rfl) rfl ?_ ?_
          rotate_left
          ·go_simp
           rfl
          refine hK.out _ _ ?_
          clear hK K
          refine pz (i := 8) (N := some 5) (fb 10 511) ?_ (hc := any_of HT_.out (by kernel_rfl))
          refine pz (i := 9) (N := some 6) (fb 10 1023) ?_ (hc := any_of HT_.out (by kernel_rfl))
          refine done_ (done_of HT_.out (by kernel_rfl)) ?_
          obtain ⟨Ao59, co59, eo59⟩ := Kd.R_slice HO463.out
          subst eo59
          have p490 : 0 ≤ (1 : Int) := (by omega)
          have q490 : 1 < (t461.length : Int) := of_decide_eq_true (by first | (with_reducible assumption) | assumption)
          obtain ⟨ad490, e490, hx490_0, hx490_1, hx490_2, hx490_3, hx490_4, hx490_5, hx490_6, hx490_7⟩ := at_T44 (Kd.R_reads' HO463.out).2.2 1 p490 q490
          cases e490
          (try simp only [show (1 : Int).toNat = 1 from rfl, Nat.reduceMul, Nat.reduceEqDiff, Go.Addr.add, ↓reduceIte] at hx490_0)
          (try simp only [show (1 : Int).toNat = 1 from rfl, Nat.reduceMul, Nat.reduceEqDiff, Go.Addr.add, ↓reduceIte] at hx490_1)
          (try simp only [show (1 : Int).toNat = 1 from rfl, Nat.reduceMul, Nat.reduceEqDiff, Go.Addr.add, ↓reduceIte] at hx490_2)
          (try simp only [show (1 : Int).toNat = 1 from rfl, Nat.reduceMul, Nat.reduceEqDiff, Go.Addr.add, ↓reduceIte] at hx490_3)
          (try simp only [show (1 : Int).toNat = 1 from rfl, Nat.reduceMul, Nat.reduceEqDiff, Go.Addr.add, ↓reduceIte] at hx490_4)
          (try simp only [show (1 : Int).toNat = 1 from rfl, Nat.reduceMul, Nat.reduceEqDiff, Go.Addr.add, ↓reduceIte] at hx490_5)
          (try simp only [show (1 : Int).toNat = 1 from rfl, Nat.reduceMul, Nat.reduceEqDiff, Go.Addr.add, ↓reduceIte] at hx490_6)
          (try simp only [show (1 : Int).toNat = 1 from rfl, Nat.reduceMul, Nat.reduceEqDiff, Go.Addr.add, ↓reduceIte] at hx490_7)
          have qi490 : (1 < t461.length) = True := eq_true (by omega)
          (try rw [show ((1 : Int)).toNat = 1 from rfl] at hx490_0)
          (try rw [show 1 * 8 = 8 from rfl] at hx490_0)
          (try rw [show ((1 : Int)).toNat = 1 from rfl] at hx490_1)
          (try rw [show 1 * 8 = 8 from rfl] at hx490_1)
          (try rw [show ((1 : Int)).toNat = 1 from rfl] at hx490_2)
          (try rw [show 1 * 8 = 8 from rfl] at hx490_2)
          (try rw [show ((1 : Int)).toNat = 1 from rfl] at hx490_3)
          (try rw [show 1 * 8 = 8 from rfl] at hx490_3)
          (try rw [show ((1 : Int)).toNat = 1 from rfl] at hx490_4)
          (try rw [show 1 * 8 = 8 from rfl] at hx490_4)
          (try rw [show ((1 : Int)).toNat = 1 from rfl] at hx490_5)
          (try rw [show 1 * 8 = 8 from rfl] at hx490_5)
          (try rw [show ((1 : Int)).toNat = 1 from rfl] at hx490_6)
          (try rw [show 1 * 8 = 8 from rfl] at hx490_6)
          (try rw [show ((1 : Int)).toNat = 1 from rfl] at hx490_7)
          (try rw [show 1 * 8 = 8 from rfl] at hx490_7)
          have hn490_0 : ad490.block ≠ gb439 := Kd.own_blk (Kd.R_ne HO463.out BK439.out (by decide))
          have hn490_1 : ad490.block ≠ gb439 := Kd.own_blk (Kd.R_ne HO463.out BK439.out (by decide))
          have hn490_2 : ad490.block ≠ gb439 := Kd.own_blk (Kd.R_ne HO463.out BK439.out (by decide))
          have hn490_3 : ad490.block ≠ gb439 := Kd.own_blk (Kd.R_ne HO463.out BK439.out (by decide))
          have hn490_4 : ad490.block ≠ gb439 := Kd.own_blk (Kd.R_ne HO463.out BK439.out (by decide))
          have hn490_5 : ad490.block ≠ gb439 := Kd.own_blk (Kd.R_ne HO463.out BK439.out (by decide))
          have hn490_6 : ad490.block ≠ gb439 := Kd.own_blk (Kd.R_ne HO463.out BK439.out (by decide))
          have hn490_7 : ad490.block ≠ gb439 := Kd.own_blk (Kd.R_ne HO463.out BK439.out (by decide))
          have hn490_8 : ad490.block ≠ gb439 := Kd.own_blk (Kd.R_ne HO463.out BK439.out (by decide))
          have hn490_9 : ad490.block ≠ gb439 := Kd.own_blk (Kd.R_ne HO463.out BK439.out (by decide))
          have hn490_10 : ad490.block ≠ gb439 := Kd.own_blk (Kd.R_ne HO463.out BK439.out (by decide))
          have hn490_11 : ad490.block ≠ gb439 := Kd.own_blk (Kd.R_ne HO463.out BK439.out (by decide))
          have hn490_12 : ad490.block ≠ gb439 := Kd.own_blk (Kd.R_ne HO463.out BK439.out (by decide))
          have hn490_13 : ad490.block ≠ gb439 := Kd.own_blk (Kd.R_ne HO463.out BK439.out (by decide))
          have q_ := fun w_ => (((((((((((((((Wq.refl gb439 w_).set 0 (.int .i64 t470)).set 1 (.int .i64 t471)).set 2 (.int .u64 t472)).set 3 (.int .i64 t473)).set 4 (.int .i64 t474)).set 5 (.int .i64 t475)).set 6 (.int .i64 t476)).set 7 (.int .i64 t477)).set 8 (.int .u16 t478)).set 9 (.int .i64 t479)).set 10 (.int .i64 t480)).set 11 (.slice Ao55 t481.length co55)).set 12 (.bool t484)).set 13 (.int .i64 t485))
          replace hx490_0 := cq hx490_0 (q_ _) (by first | (rw [add_block]; exact hn490_0) | (show (Addr.add _ _).block ≠ _; rw [add_block]; exact hn490_0) | exact hn490_0)
          replace hx490_1 := cq hx490_1 (q_ _) (by first | (rw [add_block]; exact hn490_0) | (show (Addr.add _ _).block ≠ _; rw [add_block]; exact hn490_0) | exact hn490_0)
          replace hx490_2 := cq hx490_2 (q_ _) (by first | (rw [add_block]; exact hn490_0) | (show (Addr.add _ _).block ≠ _; rw [add_block]; exact hn490_0) | exact hn490_0)
          replace hx490_3 := cq hx490_3 (q_ _) (by first | (rw [add_block]; exact hn490_0) | (show (Addr.add _ _).block ≠ _; rw [add_block]; exact hn490_0) | exact hn490_0)
          replace hx490_4 := cq hx490_4 (q_ _) (by first | (rw [add_block]; exact hn490_0) | (show (Addr.add _ _).block ≠ _; rw [add_block]; exact hn490_0) | exact hn490_0)
          replace hx490_5 := cq hx490_5 (q_ _) (by first | (rw [add_block]; exact hn490_0) | (show (Addr.add _ _).block ≠ _; rw [add_block]; exact hn490_0) | exact hn490_0)
          replace hx490_6 := cq hx490_6 (q_ _) (by first | (rw [add_block]; exact hn490_0) | (show (Addr.add _ _).block ≠ _; rw [add_block]; exact hn490_0) | exact hn490_0)
          replace hx490_7 := cq hx490_7 (q_ _) (by first | (rw [add_block]; exact hn490_0) | (show (Addr.add _ _).block ≠ _; rw [add_block]; exact hn490_0) | exact hn490_0)
          clear q_
          clear hn490_0
          clear hn490_1
          clear hn490_2
          clear hn490_3
          clear hn490_4
          clear hn490_5
          clear hn490_6
          clear hn490_7
          clear hn490_8
          clear hn490_9
          clear hn490_10
          clear hn490_11
          clear hn490_12
          clear hn490_13
          replace p490 := eq_true p490
          replace q490 := eq_true q490
          obtain ⟨Ao60, co60, eo60⟩ := Kd.R_slice HO488.out
          subst eo60
          have p491 : 0 ≤ (1 : Int) := (by omega)
          have q491 : 1 < (t486.length : Int) := of_decide_eq_true (by first | (with_reducible assumption) | assumption)
          obtain ⟨ad491, e491, hx491_0, hx491_1, hx491_2, hx491_3, hx491_4, hx491_5, hx491_6, hx491_7⟩ := at_T44 (Kd.R_reads' HO488.out).2.2 1 p491 q491
          cases e491
          (try simp only [show (1 : Int).toNat = 1 from rfl, Nat.reduceMul, Nat.reduceEqDiff, Go.Addr.add, ↓reduceIte] at hx491_0)
          (try simp only [show (1 : Int).toNat = 1 from rfl, Nat.reduceMul, Nat.reduceEqDiff, Go.Addr.add, ↓reduceIte] at hx491_1)
          (try simp only [show (1 : Int).toNat = 1 from rfl, Nat.reduceMul, Nat.reduceEqDiff, Go.Addr.add, ↓reduceIte] at hx491_2)
          (try simp only [show (1 : Int).toNat = 1 from rfl, Nat.reduceMul, Nat.reduceEqDiff, Go.Addr.add, ↓reduceIte] at hx491_3)
          (try simp only [show (1 : Int).toNat = 1 from rfl, Nat.reduceMul, Nat.reduceEqDiff, Go.Addr.add, ↓reduceIte] at hx491_4)
          (try simp only [show (1 : Int).toNat = 1 from rfl, Nat.reduceMul, Nat.reduceEqDiff, Go.Addr.add, ↓reduceIte] at hx491_5)
          (try simp only [show (1 : Int).toNat = 1 from rfl, Nat.reduceMul, Nat.reduceEqDiff, Go.Addr.add, ↓reduceIte] at hx491_6)
          (try simp only [show (1 : Int).toNat = 1 from rfl, Nat.reduceMul, Nat.reduceEqDiff, Go.Addr.add, ↓reduceIte] at hx491_7)
          have qi491 : (1 < t486.length) = True := eq_true (by omega)
          (try rw [show ((1 : Int)).toNat = 1 from rfl] at hx491_0)
          (try rw [show 1 * 8 = 8 from rfl] at hx491_0)
          (try rw [show ((1 : Int)).toNat = 1 from rfl] at hx491_1)
          (try rw [show 1 * 8 = 8 from rfl] at hx491_1)
          (try rw [show ((1 : Int)).toNat = 1 from rfl] at hx491_2)
          (try rw [show 1 * 8 = 8 from rfl] at hx491_2)
          (try rw [show ((1 : Int)).toNat = 1 from rfl] at hx491_3)
          (try rw [show 1 * 8 = 8 from rfl] at hx491_3)
          (try rw [show ((1 : Int)).toNat = 1 from rfl] at hx491_4)
          (try rw [show 1 * 8 = 8 from rfl] at hx491_4)
          (try rw [show ((1 : Int)).toNat = 1 from rfl] at hx491_5)
          (try rw [show 1 * 8 = 8 from rfl] at hx491_5)
          (try rw [show ((1 : Int)).toNat = 1 from rfl] at hx491_6)
          (try rw [show 1 * 8 = 8 from rfl] at hx491_6)
          (try rw [show ((1 : Int)).toNat = 1 from rfl] at hx491_7)
          (try rw [show 1 * 8 = 8 from rfl] at hx491_7)
          have hn491_0 : ad491.block ≠ gb439 := Kd.own_blk (Kd.R_ne HO488.out BK439.out (by decide))
          have hn491_1 : ad491.block ≠ gb439 := Kd.own_blk (Kd.R_ne HO488.out BK439.out (by decide))
          have hn491_2 : ad491.block ≠ gb439 := Kd.own_blk (Kd.R_ne HO488.out BK439.out (by decide))
          have hn491_3 : ad491.block ≠ gb439 := Kd.own_blk (Kd.R_ne HO488.out BK439.out (by decide))
          have hn491_4 : ad491.block ≠ gb439 := Kd.own_blk (Kd.R_ne HO488.out BK439.out (by decide))
          have hn491_5 : ad491.block ≠ gb439 := Kd.own_blk (Kd.R_ne HO488.out BK439.out (by decide))
          have hn491_6 : ad491.block ≠ gb439 := Kd.own_blk (Kd.R_ne HO488.out BK439.out (by decide))
          have hn491_7 : ad491.block ≠ gb439 := Kd.own_blk (Kd.R_ne HO488.out BK439.out (by decide))
          have hn491_8 : ad491.block ≠ gb439 := Kd.own_blk (Kd.R_ne HO488.out BK439.out (by decide))
          have hn491_9 : ad491.block ≠ gb439 := Kd.own_blk (Kd.R_ne HO488.out BK439.out (by decide))
          have hn491_10 : ad491.block ≠ gb439 := Kd.own_blk (Kd.R_ne HO488.out BK439.out (by decide))
          have hn491_11 : ad491.block ≠ gb439 := Kd.own_blk (Kd.R_ne HO488.out BK439.out (by decide))
          have hn491_12 : ad491.block ≠ gb439 := Kd.own_blk (Kd.R_ne HO488.out BK439.out (by decide))
          have hn491_13 : ad491.block ≠ gb439 := Kd.own_blk (Kd.R_ne HO488.out BK439.out (by decide))
          have q_ := fun w_ => (((((((((((((((Wq.refl gb439 w_).set 0 (.int .i64 t470)).set 1 (.int .i64 t471)).set 2 (.int .u64 t472)).set 3 (.int .i64 t473)).set 4 (.int .i64 t474)).set 5 (.int .i64 t475)).set 6 (.int .i64 t476)).set 7 (.int .i64 t477)).set 8 (.int .u16 t478)).set 9 (.int .i64 t479)).set 10 (.int .i64 t480)).set 11 (.slice Ao55 t481.length co55)).set 12 (.bool t484)).set 13 (.int .i64 t485))
          replace hx491_0 := cq hx491_0 (q_ _) (by first | (rw [add_block]; exact hn491_0) | (show (Addr.add _ _).block ≠ _; rw [add_block]; exact hn491_0) | exact hn491_0)
          replace hx491_1 := cq hx491_1 (q_ _) (by first | (rw [add_block]; exact hn491_0) | (show (Addr.add _ _).block ≠ _; rw [add_block]; exact hn491_0) | exact hn491_0)
          replace hx491_2 := cq hx491_2 (q_ _) (by first | (rw [add_block]; exact hn491_0) | (show (Addr.add _ _).block ≠ _; rw [add_block]; exact hn491_0) | exact hn491_0)
          replace hx491_3 := cq hx491_3 (q_ _) (by first | (rw [add_block]; exact hn491_0) | (show (Addr.add _ _).block ≠ _; rw [add_block]; exact hn491_0) | exact hn491_0)
          replace hx491_4 := cq hx491_4 (q_ _) (by first | (rw [add_block]; exact hn491_0) | (show (Addr.add _ _).block ≠ _; rw [add_block]; exact hn491_0) | exact hn491_0)
          replace hx491_5 := cq hx491_5 (q_ _) (by first | (rw [add_block]; exact hn491_0) | (show (Addr.add _ _).block ≠ _; rw [add_block]; exact hn491_0) | exact hn491_0)
          replace hx491_6 := cq hx491_6 (q_ _) (by first | (rw [add_block]; exact hn491_0) | (show (Addr.add _ _).block ≠ _; rw [add_block]; exact hn491_0) | exact hn491_0)
          replace hx491_7 := cq hx491_7 (q_ _) (by first | (rw [add_block]; exact hn491_0) | (show (Addr.add _ _).block ≠ _; rw [add_block]; exact hn491_0) | exact hn491_0)
          clear q_
          clear hn491_0
          clear hn491_1
          clear hn491_2
          clear hn491_3
          clear hn491_4
          clear hn491_5
          clear hn491_6
          clear hn491_7
          clear hn491_8
          clear hn491_9
          clear hn491_10
          clear hn491_11
          clear hn491_12
          clear hn491_13
          replace p491 := eq_true p491
          replace q491 := eq_true q491
          have hcz61 := cf14 BK439
          try go_wp2
          go_ret
          exact ⟨by first | rfl | (simp [errW_none, errW_some] <;> rfl) | (simp [*, errW_none, errW_some] <;> rfl), bse HB⟩
         ·rw [if_neg c15] at H
          exact absurd H (by simp)
        ·rw [if_neg c14] at H
         exact absurd H (by simp)
       ·rw [if_neg c13] at H
        exact absurd H (by simp)
      ·rw [if_neg c12] at H
       exact absurd H (by simp)
     ·rw [if_neg c11] at H
      exact absurd H (by simp)
    ·rw [if_neg c10] at H
     exact absurd H (by simp)
   ·rw [if_neg c9] at H
    exact absurd H (by simp)
  ·rw [if_neg c8] at H
   exact absurd H (by simp)
 ·rw [if_neg c7] at H
  exact absurd H (by simp)


/-! ### palletlaw13_timers: function 7 -/
def palletlaw13_timers.l0 : Nat → List Int → List (S44) → Int → Int → Option (List Int)
 | 0, _, _, _, _ => none
 | k + 1, x3, x6, x7, x8 => if x8 < x7 then (if 0 ≤ x8 then (if x8 < (x6.length : Int) then (if ((rd_T44 x6 x8).f0) = 1 then (if x3.length < 17592186044416 then (palletlaw13_timers.l0 k (x3 ++ [(rd_T44 x6 x8).f1]) x6 x7 (wrap64 (x8 + 1))) else (none)) else (palletlaw13_timers.l0 k x3 x6 x7 (wrap64 (x8 + 1)))) else (none)) else (none)) else (some x3)
def palletlaw13_timers.f (k : Nat) (l0 : List (S44)) : Option (List Int) := palletlaw13_timers.l0 k ([] : List Int) l0 (l0.length : Int) 0
set_option maxHeartbeats 8000000 in
set_option maxRecDepth 100000 in
theorem palletlaw13_timers.calls (k : Nat) (A0 : Option Addr) (c0 : Nat) (l0 : List (S44)) (r : List Int) (w : World) (hr0 : Kd.C k44 w A0 l0.length l0) (hc0 : l0.length ≤ c0) (h : palletlaw13_timers.f k l0 = some r) :
  Calls Try.prog 7 #[.slice A0 l0.length c0] w fun e w' => ∃ v0_ : Value, e = .returned (v0_) ∧ Kd.R (Kd.int .i64) 2 w' w.heap.size (fun _ => True) v0_ r ∧ Below w.heap.size w w' := by
 have hu44 := Try.underlying44
 have HR0 := asd hr0
 have HC0 := asd hc0
 clear hr0 hc0
 have HB := asd (Below.refl w.heap.size w)
 have H : (palletlaw13_timers.l0 k ([] : List Int) l0 (l0.length : Int) 0) = some r := h
 clear h
 have H' := asd H
 clear H
 go_enter Try.func7, Try.ntmps7
 go_wp2
 go_loopg [3, 8] k (fun kq v3 v8 w' => ∃ (x3_1 : List Int) (x8_1 : Int), v8 = .int .i64 x8_1 ∧ Aside0 (palletlaw13_timers.l0 kq x3_1 l0 (l0.length : Int) x8_1 = some r) ∧ Aside0 (kq ≤ k) ∧ Aside0 (Kd.R (Kd.int .i64) 2 w' w.heap.size (fun _ => True) v3 x3_1) ∧ Aside0 (Below w.heap.size w w'))
 case atStart => exact ⟨(([] : List Int)), (0), (by first | rfl | (simp; done) | (simp [*]; done)), H', ⟨Nat.le_refl _⟩, ⟨by first | exact Kd.R_nil _ _ _ _ _ | exact Kd.N_nil _ _ _ _ _ | exact Kd.V_nil _ _ _ _ _ | exact Kd.Q_nil _ _ _ _ _ | exact Kd.S_nil _ _ _ _ _⟩, ⟨bse HB⟩⟩
 case round =>
  clear H'
  obtain ⟨x3_1, x8_1, rfl, HA, HK1, HO_3, HB⟩ := hrel
  cases gk with
  | zero => exact absurd HA.out (by simp [palletlaw13_timers.l0])
  | succ k1 =>
   have H := HA.out
   clear HA
   simp only [palletlaw13_timers.l0] at H
   by_cases c2 : x8_1 < (l0.length : Int)
   ·rw [if_pos c2] at H
    have c2b0 : decide (x8_1 < (l0.length : Int)) = true := decide_eq_true c2
    clear c2
    by_cases c3 : 0 ≤ x8_1
    ·rw [if_pos c3] at H
     have c3b0 : decide (0 ≤ x8_1) = true := decide_eq_true c3
     clear c3
     by_cases c4 : x8_1 < (l0.length : Int)
     ·rw [if_pos c4] at H
      have c4b0 : decide (x8_1 < (l0.length : Int)) = true := decide_eq_true c4
      clear c4
      by_cases c5 : ((rd_T44 l0 x8_1).f0) = 1
      ·rw [if_pos c5] at H
       have c5b0 : (((rd_T44 l0 x8_1).f0) == 1) = true := beq_iff_eq.mpr c5
       have c5b1 : (((rd_T44 l0 x8_1).f0) != 1) = false := bne_eq_false_iff_eq.mpr c5
       clear c5
       by_cases c6 : x3_1.length < 17592186044416
       ·rw [if_pos c6] at H
        have LMc6 := asd c6
        clear c6
        obtain ⟨y494, hy494⟩ : ∃ y_ : List Int, y_ = (x3_1 ++ [(rd_T44 l0 x8_1).f1]) := ⟨_, rfl⟩
        replace H : (palletlaw13_timers.l0 k1 y494 l0 (l0.length : Int) (wrap64 (x8_1 + 1))) = some r := by first | (rw [hy494]; with_reducible exact H) | (have H2_ := (Option.bind_some _ _).symm.trans H; rw [hy494]; with_reducible exact H2_) | (have H2_ := (Option.bind_some _ _).symm.trans H; with_reducible exact H2_) | with_reducible exact H | (rw [hy494]; exact H) | exact H
        have Ny494 := asd hy494
        clear hy494
        have H' := asd H
        clear H
        have p492 : 0 ≤ (x8_1 : Int) := of_decide_eq_true (by first | (with_reducible assumption) | assumption)
        have q492 : x8_1 < (l0.length : Int) := of_decide_eq_true (by first | (with_reducible assumption) | assumption)
        obtain ⟨ad492, e492, hx492_0, hx492_1, hx492_2, hx492_3, hx492_4, hx492_5, hx492_6, hx492_7⟩ := at_T44 HR0.out x8_1 p492 q492
        cases e492
        replace hx492_0 := (HB.out.cell (World.block_lt_of_cell? w _ hx492_0)).trans hx492_0
        replace hx492_1 := (HB.out.cell (World.block_lt_of_cell? w _ hx492_1)).trans hx492_1
        replace hx492_2 := (HB.out.cell (World.block_lt_of_cell? w _ hx492_2)).trans hx492_2
        replace hx492_3 := (HB.out.cell (World.block_lt_of_cell? w _ hx492_3)).trans hx492_3
        replace hx492_4 := (HB.out.cell (World.block_lt_of_cell? w _ hx492_4)).trans hx492_4
        replace hx492_5 := (HB.out.cell (World.block_lt_of_cell? w _ hx492_5)).trans hx492_5
        replace hx492_6 := (HB.out.cell (World.block_lt_of_cell? w _ hx492_6)).trans hx492_6
        replace hx492_7 := (HB.out.cell (World.block_lt_of_cell? w _ hx492_7)).trans hx492_7
        replace p492 := eq_true p492
        replace q492 := eq_true q492
        go_wp2_with (first | ((with_reducible refine gate_dst (N := 5) rfl ?_); refine bx (N := 5) (cs := #[.int .i64 0, .int .i64 0, .int .i64 0, .int .i64 0, .int .u64 0, .int .u16 0, .int .i64 0, .int .i64 0]) (t := 44) ?_; intro gb493 hg w7 hbox hb; have BK493 := asd (hbox); have GW493 := bz HB hg; have GE493 := bz HB hg; replace HO_3 := rb HO_3 hb; replace HB := bs HB hb; clear hb hbox hg; have hcz8_0 : w7.cell? ⟨gb493, 0, none⟩ = some (.int .i64 0) := (blk_cell BK493.out 0).trans rfl; have hcz8_1 : w7.cell? ⟨gb493, 1, none⟩ = some (.int .i64 0) := (blk_cell BK493.out 1).trans rfl; have hcz8_2 : w7.cell? ⟨gb493, 2, none⟩ = some (.int .i64 0) := (blk_cell BK493.out 2).trans rfl; have hcz8_3 : w7.cell? ⟨gb493, 3, none⟩ = some (.int .i64 0) := (blk_cell BK493.out 3).trans rfl; have hcz8_4 : w7.cell? ⟨gb493, 4, none⟩ = some (.int .u64 0) := (blk_cell BK493.out 4).trans rfl; have hcz8_5 : w7.cell? ⟨gb493, 5, none⟩ = some (.int .u16 0) := (blk_cell BK493.out 5).trans rfl; have hcz8_6 : w7.cell? ⟨gb493, 6, none⟩ = some (.int .i64 0) := (blk_cell BK493.out 6).trans rfl; have hcz8_7 : w7.cell? ⟨gb493, 7, none⟩ = some (.int .i64 0) := (blk_cell BK493.out 7).trans rfl; have hfz8_0 := blk_frozen BK493.out 0; have hfz8_1 := blk_frozen BK493.out 1; have hfz8_2 := blk_frozen BK493.out 2; have hfz8_3 := blk_frozen BK493.out 3; have hfz8_4 := blk_frozen BK493.out 4; have hfz8_5 := blk_frozen BK493.out 5; have hfz8_6 := blk_frozen BK493.out 6; have hfz8_7 := blk_frozen BK493.out 7) | ((with_reducible refine gate_builtin (b := .append) (xs := #[.tmp 15, .tmp 18]) rfl ?_); at_builtin; refine Kd.R_append (Kd.int .i64) (w0 := w) w.heap.size rfl (.tmp 15) (.tmp 18) 31 2 (.int .i64 0) 8 rfl Try.underlying31 info2 rfl (by decide) (by omega) u3 x3_1 ((rd_T44 l0 x8_1).f1) [.int .i64 ((rd_T44 l0 x8_1).f1)] (fun _ => True) (fun _ => False) rfl (by first | (go_simp; done) | (go_simp; rfl)) ?aP (fun _ hk => hk.elim) ?aF ?aO ?aB ?aS ?aL ?_; (case aP => exact rfl); (case aB => exact (bse HB)); (case aF => exact (fun _ _ => trivial)); (case aO => exact (by (with_reducible repeat (first | apply Kd.R_alloc | apply Kd.R_drewN | apply Kd.R_drew)); exact Kd.R_mono (Kd.R_far (p := ⟨gb493, 7, none⟩) (Kd.R_far (p := ⟨gb493, 6, none⟩) (Kd.R_far (p := ⟨gb493, 5, none⟩) (Kd.R_far (p := ⟨gb493, 4, none⟩) (Kd.R_far (p := ⟨gb493, 3, none⟩) (Kd.R_far (p := ⟨gb493, 2, none⟩) (Kd.R_far (p := ⟨gb493, 1, none⟩) (Kd.R_far (p := ⟨gb493, 0, none⟩) (Kd.R_types HO_3.out BK493.out (by decide)) (fun _ hk => hk.2) (.int .i64 ((rd_T44 l0 x8_1).f0))) (fun _ hk => hk.2) (.int .i64 ((rd_T44 l0 x8_1).f1))) (fun _ hk => hk.2) (.int .i64 ((rd_T44 l0 x8_1).f2.f0))) (fun _ hk => hk.2) (.int .i64 ((rd_T44 l0 x8_1).f2.f1))) (fun _ hk => hk.2) (.int .u64 ((rd_T44 l0 x8_1).f2.f2))) (fun _ hk => hk.2) (.int .u16 ((rd_T44 l0 x8_1).f2.f3))) (fun _ hk => hk.2) (.int .i64 ((rd_T44 l0 x8_1).f3))) (fun _ hk => hk.2) (.int .i64 ((rd_T44 l0 x8_1).f4))) (fun _ hk => trivial))); (case aS => exact (below_size (bse HB))); (case aL => have := LMc6.out; omega); intro v495 w9 ho hb hg hat; rw [← Ny494.out] at ho; have n0_ := asd (blk_grown (g := gb493) (o := .cells #[.int .i64 ((rd_T44 l0 x8_1).f0), .int .i64 ((rd_T44 l0 x8_1).f1), .int .i64 ((rd_T44 l0 x8_1).f2.f0), .int .i64 ((rd_T44 l0 x8_1).f2.f1), .int .u64 ((rd_T44 l0 x8_1).f2.f2), .int .u16 ((rd_T44 l0 x8_1).f2.f3), .int .i64 ((rd_T44 l0 x8_1).f3), .int .i64 ((rd_T44 l0 x8_1).f4)] 44 (0, 0)) (by (with_reducible repeat (first | refine blk_drewN ?_ _ | refine blk_drew ?_ | refine blk_alloc ?_ _)); refine blk_put (cs := #[.int .i64 ((rd_T44 l0 x8_1).f0), .int .i64 ((rd_T44 l0 x8_1).f1), .int .i64 ((rd_T44 l0 x8_1).f2.f0), .int .i64 ((rd_T44 l0 x8_1).f2.f1), .int .u64 ((rd_T44 l0 x8_1).f2.f2), .int .u16 ((rd_T44 l0 x8_1).f2.f3), .int .i64 ((rd_T44 l0 x8_1).f3), .int .i64 0]) ?_ 7 _ rfl; (with_reducible repeat (first | refine blk_drewN ?_ _ | refine blk_drew ?_ | refine blk_alloc ?_ _)); refine blk_put (cs := #[.int .i64 ((rd_T44 l0 x8_1).f0), .int .i64 ((rd_T44 l0 x8_1).f1), .int .i64 ((rd_T44 l0 x8_1).f2.f0), .int .i64 ((rd_T44 l0 x8_1).f2.f1), .int .u64 ((rd_T44 l0 x8_1).f2.f2), .int .u16 ((rd_T44 l0 x8_1).f2.f3), .int .i64 0, .int .i64 0]) ?_ 6 _ rfl; (with_reducible repeat (first | refine blk_drewN ?_ _ | refine blk_drew ?_ | refine blk_alloc ?_ _)); refine blk_put (cs := #[.int .i64 ((rd_T44 l0 x8_1).f0), .int .i64 ((rd_T44 l0 x8_1).f1), .int .i64 ((rd_T44 l0 x8_1).f2.f0), .int .i64 ((rd_T44 l0 x8_1).f2.f1), .int .u64 ((rd_T44 l0 x8_1).f2.f2), .int .u16 0, .int .i64 0, .int .i64 0]) ?_ 5 _ rfl; (with_reducible repeat (first | refine blk_drewN ?_ _ | refine blk_drew ?_ | refine blk_alloc ?_ _)); refine blk_put (cs := #[.int .i64 ((rd_T44 l0 x8_1).f0), .int .i64 ((rd_T44 l0 x8_1).f1), .int .i64 ((rd_T44 l0 x8_1).f2.f0), .int .i64 ((rd_T44 l0 x8_1).f2.f1), .int .u64 0, .int .u16 0, .int .i64 0, .int .i64 0]) ?_ 4 _ rfl; (with_reducible repeat (first | refine blk_drewN ?_ _ | refine blk_drew ?_ | refine blk_alloc ?_ _)); refine blk_put (cs := #[.int .i64 ((rd_T44 l0 x8_1).f0), .int .i64 ((rd_T44 l0 x8_1).f1), .int .i64 ((rd_T44 l0 x8_1).f2.f0), .int .i64 0, .int .u64 0, .int .u16 0, .int .i64 0, .int .i64 0]) ?_ 3 _ rfl; (with_reducible repeat (first | refine blk_drewN ?_ _ | refine blk_drew ?_ | refine blk_alloc ?_ _)); refine blk_put (cs := #[.int .i64 ((rd_T44 l0 x8_1).f0), .int .i64 ((rd_T44 l0 x8_1).f1), .int .i64 0, .int .i64 0, .int .u64 0, .int .u16 0, .int .i64 0, .int .i64 0]) ?_ 2 _ rfl; (with_reducible repeat (first | refine blk_drewN ?_ _ | refine blk_drew ?_ | refine blk_alloc ?_ _)); refine blk_put (cs := #[.int .i64 ((rd_T44 l0 x8_1).f0), .int .i64 0, .int .i64 0, .int .i64 0, .int .u64 0, .int .u16 0, .int .i64 0, .int .i64 0]) ?_ 1 _ rfl; (with_reducible repeat (first | refine blk_drewN ?_ _ | refine blk_drew ?_ | refine blk_alloc ?_ _)); refine blk_put (cs := #[.int .i64 0, .int .i64 0, .int .i64 0, .int .i64 0, .int .u64 0, .int .u16 0, .int .i64 0, .int .i64 0]) ?_ 0 _ rfl; (with_reducible repeat (first | refine blk_drewN ?_ _ | refine blk_drew ?_ | refine blk_alloc ?_ _)); exact BK493.out) hg (Kd.R_ne HO_3.out BK493.out (by decide))); have n1_ := asd (hb); have n2_ := asd (ho); clear BK493 HB HO_3; have BK493 := n0_; have HB := n1_; have HO496 := n2_; clear n0_ n1_ n2_ ho hb hg hat))
        go_roundg k1
        case measure => have := HK1.out; omega
        case rel => exact ⟨(y494), (wrap64 (x8_1 + 1)), (by first | rfl | (simp; done) | (simp [*]; done)), H', ⟨by have := HK1.out; omega⟩, re HO496, ⟨bse HB⟩⟩
       ·rw [if_neg c6] at H
        exact absurd H (by simp)
      ·rw [if_neg c5] at H
       have c5b0 : (((rd_T44 l0 x8_1).f0) == 1) = false := beq_eq_false_iff_ne.mpr c5
       have c5b1 : (((rd_T44 l0 x8_1).f0) != 1) = true := bne_iff_ne.mpr c5
       have H' := asd H
       clear H
       have p492 : 0 ≤ (x8_1 : Int) := of_decide_eq_true (by first | (with_reducible assumption) | assumption)
       have q492 : x8_1 < (l0.length : Int) := of_decide_eq_true (by first | (with_reducible assumption) | assumption)
       obtain ⟨ad492, e492, hx492_0, hx492_1, hx492_2, hx492_3, hx492_4, hx492_5, hx492_6, hx492_7⟩ := at_T44 HR0.out x8_1 p492 q492
       cases e492
       replace hx492_0 := (HB.out.cell (World.block_lt_of_cell? w _ hx492_0)).trans hx492_0
       replace hx492_1 := (HB.out.cell (World.block_lt_of_cell? w _ hx492_1)).trans hx492_1
       replace hx492_2 := (HB.out.cell (World.block_lt_of_cell? w _ hx492_2)).trans hx492_2
       replace hx492_3 := (HB.out.cell (World.block_lt_of_cell? w _ hx492_3)).trans hx492_3
       replace hx492_4 := (HB.out.cell (World.block_lt_of_cell? w _ hx492_4)).trans hx492_4
       replace hx492_5 := (HB.out.cell (World.block_lt_of_cell? w _ hx492_5)).trans hx492_5
       replace hx492_6 := (HB.out.cell (World.block_lt_of_cell? w _ hx492_6)).trans hx492_6
       replace hx492_7 := (HB.out.cell (World.block_lt_of_cell? w _ hx492_7)).trans hx492_7
       replace p492 := eq_true p492
       replace q492 := eq_true q492
       go_wp2_with (first | ((with_reducible refine gate_dst (N := 5) rfl ?_); refine bx (N := 5) (cs := #[.int .i64 0, .int .i64 0, .int .i64 0, .int .i64 0, .int .u64 0, .int .u16 0, .int .i64 0, .int .i64 0]) (t := 44) ?_; intro gb493 hg w10 hbox hb; have BK493 := asd (hbox); have GW493 := bz HB hg; have GE493 := bz HB hg; replace HO_3 := rb HO_3 hb; replace HB := bs HB hb; clear hb hbox hg; have hcz11_0 : w10.cell? ⟨gb493, 0, none⟩ = some (.int .i64 0) := (blk_cell BK493.out 0).trans rfl; have hcz11_1 : w10.cell? ⟨gb493, 1, none⟩ = some (.int .i64 0) := (blk_cell BK493.out 1).trans rfl; have hcz11_2 : w10.cell? ⟨gb493, 2, none⟩ = some (.int .i64 0) := (blk_cell BK493.out 2).trans rfl; have hcz11_3 : w10.cell? ⟨gb493, 3, none⟩ = some (.int .i64 0) := (blk_cell BK493.out 3).trans rfl; have hcz11_4 : w10.cell? ⟨gb493, 4, none⟩ = some (.int .u64 0) := (blk_cell BK493.out 4).trans rfl; have hcz11_5 : w10.cell? ⟨gb493, 5, none⟩ = some (.int .u16 0) := (blk_cell BK493.out 5).trans rfl; have hcz11_6 : w10.cell? ⟨gb493, 6, none⟩ = some (.int .i64 0) := (blk_cell BK493.out 6).trans rfl; have hcz11_7 : w10.cell? ⟨gb493, 7, none⟩ = some (.int .i64 0) := (blk_cell BK493.out 7).trans rfl; have hfz11_0 := blk_frozen BK493.out 0; have hfz11_1 := blk_frozen BK493.out 1; have hfz11_2 := blk_frozen BK493.out 2; have hfz11_3 := blk_frozen BK493.out 3; have hfz11_4 := blk_frozen BK493.out 4; have hfz11_5 := blk_frozen BK493.out 5; have hfz11_6 := blk_frozen BK493.out 6; have hfz11_7 := blk_frozen BK493.out 7))
       go_roundg k1
       case measure => have := HK1.out; omega
       case rel => exact ⟨(x3_1), (wrap64 (x8_1 + 1)), (by first | rfl | (simp; done) | (simp [*]; done)), H', ⟨by have := HK1.out; omega⟩, ⟨by (with_reducible repeat (first | apply Kd.R_alloc | apply Kd.R_drewN | apply Kd.R_drew)); exact Kd.R_mono (Kd.R_far (p := ⟨gb493, 7, none⟩) (Kd.R_far (p := ⟨gb493, 6, none⟩) (Kd.R_far (p := ⟨gb493, 5, none⟩) (Kd.R_far (p := ⟨gb493, 4, none⟩) (Kd.R_far (p := ⟨gb493, 3, none⟩) (Kd.R_far (p := ⟨gb493, 2, none⟩) (Kd.R_far (p := ⟨gb493, 1, none⟩) (Kd.R_far (p := ⟨gb493, 0, none⟩) (Kd.R_types HO_3.out BK493.out (by decide)) (fun _ hk => hk.2) (.int .i64 ((rd_T44 l0 x8_1).f0))) (fun _ hk => hk.2) (.int .i64 ((rd_T44 l0 x8_1).f1))) (fun _ hk => hk.2) (.int .i64 ((rd_T44 l0 x8_1).f2.f0))) (fun _ hk => hk.2) (.int .i64 ((rd_T44 l0 x8_1).f2.f1))) (fun _ hk => hk.2) (.int .u64 ((rd_T44 l0 x8_1).f2.f2))) (fun _ hk => hk.2) (.int .u16 ((rd_T44 l0 x8_1).f2.f3))) (fun _ hk => hk.2) (.int .i64 ((rd_T44 l0 x8_1).f3))) (fun _ hk => hk.2) (.int .i64 ((rd_T44 l0 x8_1).f4))) (fun _ hk => trivial)⟩, ⟨bse HB⟩⟩
     ·rw [if_neg c4] at H
      exact absurd H (by simp)
    ·rw [if_neg c3] at H
     exact absurd H (by simp)
   ·rw [if_neg c2] at H
    have c2b0 : decide (x8_1 < (l0.length : Int)) = false := decide_eq_false c2
    clear c2
    obtain rfl := Option.some.inj H
    go_wp2
    go_ret
    exact ⟨_, by first | rfl | (simp [errW_none, errW_some] <;> rfl) | (simp [*, errW_none, errW_some] <;> rfl), by (with_reducible repeat (first | apply Kd.R_alloc | apply Kd.R_drewN | apply Kd.R_drew)); exact HO_3.out, bse HB⟩

end Go.Proofs.Ytcofclkgfandfaa.Print
