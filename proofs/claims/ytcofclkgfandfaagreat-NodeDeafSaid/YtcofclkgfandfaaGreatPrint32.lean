-- PRINTED by print.py (a twelfth state) out of the translation. Not trusted: Lean checks it.
import Derived.Test.YtcofclkgfandfaaGreatSq
import Derived.Test.YtcofclkgfandfaaGreatPrint0
import Derived.Test.YtcofclkgfandfaaGreatPrint12
import Derived.Test.YtcofclkgfandfaaGreatPrint26
namespace Go.Proofs.YtcofclkgfandfaaGreat.Print
open Go.RowKit Go.Proofs.YtcofclkgfandfaaGreatW.PrintWords Go.Proofs.YtcofclkgfandfaaGreatW.PrintLast Go.Proofs.YtcofclkgfandfaaGreatW.PrintMore Go.Proofs.YtcofclkgfandfaaGreatX
attribute [local go_sem] str_lss str_geq max2_int min2_int max_two min_two max_three min_three max_four min_four   -- for this text's walks alone
set_option linter.unusedVariables false
set_option linter.unusedSimpArgs false

/-! ### member_Judge: function 86 -/
mutual
def member_Judge.j0 : Nat → Int → Int → Int → Int → Int → Int → Int → Int → Int → Int → Option (Int × Int)
 | 0, _, _, _, _, _, _, _, _, _, _ => none
 | k + 1, x1, x2, x3, x13, x569000, x569001, x569002, x569003, x573000, x573001 => if x13 = 0 then ((frame_With.f x2 x573001).bind fun t574 => (if x569001 = x573001 then (member_Judge.j1 k x1 x2 t574 (x569002 != x3) x569000 x569001 x569002 x569003 x573000 x573001) else (member_Judge.j1 k x1 x2 t574 true x569000 x569001 x569002 x569003 x573000 x573001))) else (some (0, 1))
def member_Judge.j1 : Nat → Int → Int → Int → Bool → Int → Int → Int → Int → Int → Int → Option (Int × Int)
 | 0, _, _, _, _, _, _, _, _, _, _ => none
 | k + 1, x1, x2, x14, x32, x569000, x569001, x569002, x569003, x573000, x573001 => if x32 = true then (some (3, 0)) else (if x569003 = x14 then (some (1, 0)) else (if x573000 = x573001 then (some (3, 0)) else ((frame_Has.f x2 x1).bind fun t575 => (if t575 = true then ((frame_Without.f x14 x1).bind fun t576 => (if x569003 = t576 then (some (2, 0)) else (some (3, 0)))) else (some (3, 0))))))
end
def member_Judge.f (k : Nat) (a0_0 : Int) (a0_1 : Int) (a0_2 : Int) (a0_3 : Int) (a0_4 : Int) (a1 : Int) (a2 : Int) (a3 : Int) (a4_0 : Int) (a4_1 : Int) (a4_2 : Int) (a4_3 : Int) : Option (Int × Int) := (member_sit.f a0_0 a0_1 a0_2 a0_3 a0_4 a1 a3).bind fun bt569 => (if bt569.2.2 = 0 then ((frame_Check.f k a4_0 a4_1 a4_2 a4_3).bind fun t573 => (member_Judge.j0 k a1 a2 a3 t573 a4_0 a4_1 a4_2 a4_3 bt569.1 bt569.2.1)) else (member_Judge.j0 k a1 a2 a3 bt569.2.2 a4_0 a4_1 a4_2 a4_3 bt569.1 bt569.2.1))
set_option maxHeartbeats 8000000 in
set_option maxRecDepth 100000 in
theorem member_Judge.calls (k : Nat) (a0_0 : Int) (a0_1 : Int) (a0_2 : Int) (a0_3 : Int) (a0_4 : Int) (a1 : Int) (a2 : Int) (a3 : Int) (a4_0 : Int) (a4_1 : Int) (a4_2 : Int) (a4_3 : Int) (r1 : Int) (r2 : Int) (w : World) (h : member_Judge.f k a0_0 a0_1 a0_2 a0_3 a0_4 a1 a2 a3 a4_0 a4_1 a4_2 a4_3 = some (r1, r2)) :
  Calls Tryz.prog 86 #[.agg #[.int .i64 a0_0, .int .i64 a0_1, .int .i64 a0_2, .int .i64 a0_3, .int .i64 a0_4], .int .i64 a1, .int .u16 a2, .int .u64 a3, .agg #[.int .i64 a4_0, .int .i64 a4_1, .int .u64 a4_2, .int .u16 a4_3]] w fun e w' => e = .returned (.tuple #[.int .i64 r1, .int .i64 r2]) ∧ Below w.heap.size w w' := by
 have hu23 := Tryz.underlying23
 have hu43 := Tryz.underlying43
 have hu148 := Tryz.underlying148
 have HB := asd (Below.refl w.heap.size w)
 have H : ((member_sit.f a0_0 a0_1 a0_2 a0_3 a0_4 a1 a3).bind fun bt569 => (if bt569.2.2 = 0 then ((frame_Check.f k a4_0 a4_1 a4_2 a4_3).bind fun t573 => (member_Judge.j0 k a1 a2 a3 t573 a4_0 a4_1 a4_2 a4_3 bt569.1 bt569.2.1)) else (member_Judge.j0 k a1 a2 a3 bt569.2.2 a4_0 a4_1 a4_2 a4_3 bt569.1 bt569.2.1))) = some (r1, r2) := h
 clear h
 replace H := Option.bind_eq_some_iff.mp H
 obtain ⟨⟨t569, t570, t571⟩, A60, H⟩ := H
 replace H : (if t571 = 0 then ((frame_Check.f k a4_0 a4_1 a4_2 a4_3).bind fun t573 => (member_Judge.j0 k a1 a2 a3 t573 a4_0 a4_1 a4_2 a4_3 t569 t570)) else (member_Judge.j0 k a1 a2 a3 t571 a4_0 a4_1 a4_2 a4_3 t569 t570)) = some (r1, r2) := H
 have A6 := asd A60
 clear A60
 have HC7 := asd H
 clear H
 go_enter Tryz.func86, Tryz.ntmps86
 go_upto_if 23 with (first | ((with_reducible refine gate_dst (N := 5) rfl ?_); refine bx (N := 5) (cs := #[.int .i64 a0_0, .int .i64 a0_1, .int .i64 a0_2, .int .i64 a0_3, .int .i64 a0_4]) (t := 23) ?_; intro gb567 hg w8 hbox hb; have BK567 := asd (hbox); have GW567 := bz HB hg; have GE567 := bz HB hg; replace HB := bs HB hb; clear hb hbox hg) | ((with_reducible refine gate_dst (N := 9) rfl ?_); refine bx (N := 9) (cs := #[.int .i64 a4_0, .int .i64 a4_1, .int .u64 a4_2, .int .u16 a4_3]) (t := 43) ?_; intro gb568 hg w9 hbox hb; have BK568 := asd (hbox); have GW568 := bz HB hg; have GE568 := bz HB hg; have NB567_568 := nl BK567 hg; have NB568_567 := nr BK567 hg; replace BK567 := bb BK567 hb; replace HB := bs HB hb; clear hb hbox hg; have hnb10 := NB567_568.out; have hnc10 := NB568_567.out; obtain ⟨hcz11_0, hcz11_1, hcz11_2, hcz11_3, hcz11_4, hfz11_0, hfz11_1, hfz11_2, hfz11_3, hfz11_4⟩ := cf5 BK567) | (go_at_call 128; (with_reducible refine (member_sit.calls a0_0 a0_1 a0_2 a0_3 a0_4 a1 a3 t569 t570 t571 _ A6.out).mono ?_); rintro e w12 ⟨rfl, hb⟩; replace BK567 := bb BK567 hb; replace BK568 := bb BK568 hb; replace HB := bs HB hb; (try clear hb)) | ((with_reducible refine gate_dst (N := 12) rfl ?_); refine bx (N := 12) (cs := #[.int .i64 0, .int .i64 0]) (t := 148) ?_; intro gb572 hg w13 hbox hb; have BK572 := asd (hbox); have GW572 := bz HB hg; have GE572 := bz HB hg; have NB567_572 := nl BK567 hg; have NB572_567 := nr BK567 hg; have NB568_572 := nl BK568 hg; have NB572_568 := nr BK568 hg; replace BK567 := bb BK567 hb; replace BK568 := bb BK568 hb; replace HB := bs HB hb; clear hb hbox hg; have hnb14 := NB572_567.out; have hnc14 := NB567_572.out; have hnb15 := NB572_568.out; have hnc15 := NB568_572.out; have hcz16_0 : w13.cell? ⟨gb572, 0, none⟩ = some (.int .i64 0) := (blk_cell BK572.out 0).trans rfl; have hcz16_1 : w13.cell? ⟨gb572, 1, none⟩ = some (.int .i64 0) := (blk_cell BK572.out 1).trans rfl; have hfz16_0 := blk_frozen BK572.out 0; have hfz16_1 := blk_frozen BK572.out 1))
 repeat (go_quiet (first | ((with_reducible refine gate_dst (N := 5) rfl ?_); refine bx (N := 5) (cs := #[.int .i64 a0_0, .int .i64 a0_1, .int .i64 a0_2, .int .i64 a0_3, .int .i64 a0_4]) (t := 23) ?_; intro gb567 hg w8 hbox hb; have n0_ := asd (below_step (by repeat (first | (with_reducible first | exact HB.out | apply below_alloc | apply pw_below_drewN | apply below_drew1) | exact HB.out)) hb); have n1_ := asd (hbox); have n2_ := asd ((by rw [hg]; exact (below_size (by repeat (first | (with_reducible first | exact HB.out | apply below_alloc | apply pw_below_drewN | apply below_drew1) | exact HB.out))) : w.heap.size ≤ gb567)); have n3_ := asd ((by rw [hg]; exact (below_size (by repeat (first | (with_reducible first | exact HB.out | apply below_alloc | apply pw_below_drewN | apply below_drew1) | exact HB.out))) : w.heap.size ≤ gb567)); clear HB; have HB := n0_; have BK567 := n1_; have GW567 := n2_; have GE567 := n3_; clear n0_ n1_ n2_ n3_; clear hb hbox hg) | ((with_reducible refine gate_dst (N := 9) rfl ?_); refine bx (N := 9) (cs := #[.int .i64 a4_0, .int .i64 a4_1, .int .u64 a4_2, .int .u16 a4_3]) (t := 43) ?_; intro gb568 hg w9 hbox hb; have n0_ := asd (blk_below (g := gb567) (o := .cells #[.int .i64 a0_0, .int .i64 a0_1, .int .i64 a0_2, .int .i64 a0_3, .int .i64 a0_4] 23 (0, 0)) (by (with_reducible repeat (first | refine blk_drewN ?_ _ | refine blk_drew ?_ | refine blk_alloc ?_ _)); exact BK567.out) hb); have n1_ := asd (below_step (by repeat (first | (with_reducible first | exact HB.out | apply below_alloc | apply pw_below_drewN | apply below_drew1 | refine below_set ?_ GE567.out) | exact HB.out)) hb); have n2_ := asd (hbox); have n3_ := asd ((by rw [hg]; exact (below_size (by repeat (first | (with_reducible first | exact HB.out | apply below_alloc | apply pw_below_drewN | apply below_drew1 | refine below_set ?_ GE567.out) | exact HB.out))) : w.heap.size ≤ gb568)); have n4_ := asd ((by rw [hg]; exact (below_size (by repeat (first | (with_reducible first | exact HB.out | apply below_alloc | apply pw_below_drewN | apply below_drew1 | refine below_set ?_ GE567.out) | exact HB.out))) : w.heap.size ≤ gb568)); have n5_ := asd ((by rw [hg]; exact Nat.ne_of_lt (blk_lt (g := gb567) (o := .cells #[.int .i64 a0_0, .int .i64 a0_1, .int .i64 a0_2, .int .i64 a0_3, .int .i64 a0_4] 23 (0, 0)) (by (with_reducible repeat (first | refine blk_drewN ?_ _ | refine blk_drew ?_ | refine blk_alloc ?_ _)); exact BK567.out)) : gb567 ≠ gb568)); have n6_ := asd ((by rw [hg]; exact Nat.ne_of_gt (blk_lt (g := gb567) (o := .cells #[.int .i64 a0_0, .int .i64 a0_1, .int .i64 a0_2, .int .i64 a0_3, .int .i64 a0_4] 23 (0, 0)) (by (with_reducible repeat (first | refine blk_drewN ?_ _ | refine blk_drew ?_ | refine blk_alloc ?_ _)); exact BK567.out)) : gb568 ≠ gb567)); clear BK567; clear HB; have BK567 := n0_; have HB := n1_; have BK568 := n2_; have GW568 := n3_; have GE568 := n4_; have NB567_568 := n5_; have NB568_567 := n6_; clear n0_ n1_ n2_ n3_ n4_ n5_ n6_; clear hb hbox hg; have hnb10 := NB567_568.out; have hnc10 := NB568_567.out; have hcz11_0 : w9.cell? ⟨gb567, 0, none⟩ = some (.int .i64 a0_0) := (blk_cell BK567.out 0).trans rfl; have hcz11_1 : w9.cell? ⟨gb567, 1, none⟩ = some (.int .i64 a0_1) := (blk_cell BK567.out 1).trans rfl; have hcz11_2 : w9.cell? ⟨gb567, 2, none⟩ = some (.int .i64 a0_2) := (blk_cell BK567.out 2).trans rfl; have hcz11_3 : w9.cell? ⟨gb567, 3, none⟩ = some (.int .i64 a0_3) := (blk_cell BK567.out 3).trans rfl; have hcz11_4 : w9.cell? ⟨gb567, 4, none⟩ = some (.int .i64 a0_4) := (blk_cell BK567.out 4).trans rfl; have hfz11_0 := blk_frozen BK567.out 0; have hfz11_1 := blk_frozen BK567.out 1; have hfz11_2 := blk_frozen BK567.out 2; have hfz11_3 := blk_frozen BK567.out 3; have hfz11_4 := blk_frozen BK567.out 4) | (go_at_call 128; (with_reducible refine (member_sit.calls a0_0 a0_1 a0_2 a0_3 a0_4 a1 a3 t569 t570 t571 _ A6.out).mono ?_); rintro e w12 ⟨rfl, hb⟩; have n0_ := asd (blk_below (g := gb567) (o := .cells #[.int .i64 a0_0, .int .i64 a0_1, .int .i64 a0_2, .int .i64 a0_3, .int .i64 a0_4] 23 (0, 0)) (by (with_reducible repeat (first | refine blk_drewN ?_ _ | refine blk_drew ?_ | refine blk_alloc ?_ _)); exact BK567.out) hb); have n1_ := asd (blk_below (g := gb568) (o := .cells #[.int .i64 a4_0, .int .i64 a4_1, .int .u64 a4_2, .int .u16 a4_3] 43 (0, 0)) (by (with_reducible repeat (first | refine blk_drewN ?_ _ | refine blk_drew ?_ | refine blk_alloc ?_ _)); exact BK568.out) hb); have n2_ := asd (below_step (by repeat (first | (with_reducible first | exact HB.out | apply below_alloc | apply pw_below_drewN | apply below_drew1 | refine below_set ?_ GE567.out | refine below_set ?_ GE568.out) | exact HB.out)) hb); clear BK567; clear BK568; clear HB; have BK567 := n0_; have BK568 := n1_; have HB := n2_; clear n0_ n1_ n2_; (try clear hb); (try clear hb2); (try clear hk); (try clear hi)) | ((with_reducible refine gate_dst (N := 12) rfl ?_); refine bx (N := 12) (cs := #[.int .i64 0, .int .i64 0]) (t := 148) ?_; intro gb572 hg w13 hbox hb; have n0_ := asd (blk_below (g := gb567) (o := .cells #[.int .i64 a0_0, .int .i64 a0_1, .int .i64 a0_2, .int .i64 a0_3, .int .i64 a0_4] 23 (0, 0)) (by (with_reducible repeat (first | refine blk_drewN ?_ _ | refine blk_drew ?_ | refine blk_alloc ?_ _)); exact BK567.out) hb); have n1_ := asd (blk_below (g := gb568) (o := .cells #[.int .i64 a4_0, .int .i64 a4_1, .int .u64 a4_2, .int .u16 a4_3] 43 (0, 0)) (by (with_reducible repeat (first | refine blk_drewN ?_ _ | refine blk_drew ?_ | refine blk_alloc ?_ _)); exact BK568.out) hb); have n2_ := asd (below_step (by repeat (first | (with_reducible first | exact HB.out | apply below_alloc | apply pw_below_drewN | apply below_drew1 | refine below_set ?_ GE567.out | refine below_set ?_ GE568.out) | exact HB.out)) hb); have n3_ := asd (hbox); have n4_ := asd ((by rw [hg]; exact (below_size (by repeat (first | (with_reducible first | exact HB.out | apply below_alloc | apply pw_below_drewN | apply below_drew1 | refine below_set ?_ GE567.out | refine below_set ?_ GE568.out) | exact HB.out))) : w.heap.size ≤ gb572)); have n5_ := asd ((by rw [hg]; exact (below_size (by repeat (first | (with_reducible first | exact HB.out | apply below_alloc | apply pw_below_drewN | apply below_drew1 | refine below_set ?_ GE567.out | refine below_set ?_ GE568.out) | exact HB.out))) : w.heap.size ≤ gb572)); have n6_ := asd ((by rw [hg]; exact Nat.ne_of_lt (blk_lt (g := gb567) (o := .cells #[.int .i64 a0_0, .int .i64 a0_1, .int .i64 a0_2, .int .i64 a0_3, .int .i64 a0_4] 23 (0, 0)) (by (with_reducible repeat (first | refine blk_drewN ?_ _ | refine blk_drew ?_ | refine blk_alloc ?_ _)); exact BK567.out)) : gb567 ≠ gb572)); have n7_ := asd ((by rw [hg]; exact Nat.ne_of_gt (blk_lt (g := gb567) (o := .cells #[.int .i64 a0_0, .int .i64 a0_1, .int .i64 a0_2, .int .i64 a0_3, .int .i64 a0_4] 23 (0, 0)) (by (with_reducible repeat (first | refine blk_drewN ?_ _ | refine blk_drew ?_ | refine blk_alloc ?_ _)); exact BK567.out)) : gb572 ≠ gb567)); have n8_ := asd ((by rw [hg]; exact Nat.ne_of_lt (blk_lt (g := gb568) (o := .cells #[.int .i64 a4_0, .int .i64 a4_1, .int .u64 a4_2, .int .u16 a4_3] 43 (0, 0)) (by (with_reducible repeat (first | refine blk_drewN ?_ _ | refine blk_drew ?_ | refine blk_alloc ?_ _)); exact BK568.out)) : gb568 ≠ gb572)); have n9_ := asd ((by rw [hg]; exact Nat.ne_of_gt (blk_lt (g := gb568) (o := .cells #[.int .i64 a4_0, .int .i64 a4_1, .int .u64 a4_2, .int .u16 a4_3] 43 (0, 0)) (by (with_reducible repeat (first | refine blk_drewN ?_ _ | refine blk_drew ?_ | refine blk_alloc ?_ _)); exact BK568.out)) : gb572 ≠ gb568)); clear BK567; clear BK568; clear HB; have BK567 := n0_; have BK568 := n1_; have HB := n2_; have BK572 := n3_; have GW572 := n4_; have GE572 := n5_; have NB567_572 := n6_; have NB572_567 := n7_; have NB568_572 := n8_; have NB572_568 := n9_; clear n0_ n1_ n2_ n3_ n4_ n5_ n6_ n7_ n8_ n9_; clear hb hbox hg; have hnb14 := NB572_567.out; have hnc14 := NB567_572.out; have hnb15 := NB572_568.out; have hnc15 := NB568_572.out; have hcz16_0 : w13.cell? ⟨gb572, 0, none⟩ = some (.int .i64 0) := (blk_cell BK572.out 0).trans rfl; have hcz16_1 : w13.cell? ⟨gb572, 1, none⟩ = some (.int .i64 0) := (blk_cell BK572.out 1).trans rfl; have hfz16_0 := blk_frozen BK572.out 0; have hfz16_1 := blk_frozen BK572.out 1)); go_upto_if 23 with (first | ((with_reducible refine gate_dst (N := 5) rfl ?_); refine bx (N := 5) (cs := #[.int .i64 a0_0, .int .i64 a0_1, .int .i64 a0_2, .int .i64 a0_3, .int .i64 a0_4]) (t := 23) ?_; intro gb567 hg w8 hbox hb; have n0_ := asd (below_step (by repeat (first | (with_reducible first | exact HB.out | apply below_alloc | apply pw_below_drewN | apply below_drew1) | exact HB.out)) hb); have n1_ := asd (hbox); have n2_ := asd ((by rw [hg]; exact (below_size (by repeat (first | (with_reducible first | exact HB.out | apply below_alloc | apply pw_below_drewN | apply below_drew1) | exact HB.out))) : w.heap.size ≤ gb567)); have n3_ := asd ((by rw [hg]; exact (below_size (by repeat (first | (with_reducible first | exact HB.out | apply below_alloc | apply pw_below_drewN | apply below_drew1) | exact HB.out))) : w.heap.size ≤ gb567)); clear HB; have HB := n0_; have BK567 := n1_; have GW567 := n2_; have GE567 := n3_; clear n0_ n1_ n2_ n3_; clear hb hbox hg) | ((with_reducible refine gate_dst (N := 9) rfl ?_); refine bx (N := 9) (cs := #[.int .i64 a4_0, .int .i64 a4_1, .int .u64 a4_2, .int .u16 a4_3]) (t := 43) ?_; intro gb568 hg w9 hbox hb; have n0_ := asd (blk_below (g := gb567) (o := .cells #[.int .i64 a0_0, .int .i64 a0_1, .int .i64 a0_2, .int .i64 a0_3, .int .i64 a0_4] 23 (0, 0)) (by (with_reducible repeat (first | refine blk_drewN ?_ _ | refine blk_drew ?_ | refine blk_alloc ?_ _)); exact BK567.out) hb); have n1_ := asd (below_step (by repeat (first | (with_reducible first | exact HB.out | apply below_alloc | apply pw_below_drewN | apply below_drew1 | refine below_set ?_ GE567.out) | exact HB.out)) hb); have n2_ := asd (hbox); have n3_ := asd ((by rw [hg]; exact (below_size (by repeat (first | (with_reducible first | exact HB.out | apply below_alloc | apply pw_below_drewN | apply below_drew1 | refine below_set ?_ GE567.out) | exact HB.out))) : w.heap.size ≤ gb568)); have n4_ := asd ((by rw [hg]; exact (below_size (by repeat (first | (with_reducible first | exact HB.out | apply below_alloc | apply pw_below_drewN | apply below_drew1 | refine below_set ?_ GE567.out) | exact HB.out))) : w.heap.size ≤ gb568)); have n5_ := asd ((by rw [hg]; exact Nat.ne_of_lt (blk_lt (g := gb567) (o := .cells #[.int .i64 a0_0, .int .i64 a0_1, .int .i64 a0_2, .int .i64 a0_3, .int .i64 a0_4] 23 (0, 0)) (by (with_reducible repeat (first | refine blk_drewN ?_ _ | refine blk_drew ?_ | refine blk_alloc ?_ _)); exact BK567.out)) : gb567 ≠ gb568)); have n6_ := asd ((by rw [hg]; exact Nat.ne_of_gt (blk_lt (g := gb567) (o := .cells #[.int .i64 a0_0, .int .i64 a0_1, .int .i64 a0_2, .int .i64 a0_3, .int .i64 a0_4] 23 (0, 0)) (by (with_reducible repeat (first | refine blk_drewN ?_ _ | refine blk_drew ?_ | refine blk_alloc ?_ _)); exact BK567.out)) : gb568 ≠ gb567)); clear BK567; clear HB; have BK567 := n0_; have HB := n1_; have BK568 := n2_; have GW568 := n3_; have GE568 := n4_; have NB567_568 := n5_; have NB568_567 := n6_; clear n0_ n1_ n2_ n3_ n4_ n5_ n6_; clear hb hbox hg; have hnb10 := NB567_568.out; have hnc10 := NB568_567.out; have hcz11_0 : w9.cell? ⟨gb567, 0, none⟩ = some (.int .i64 a0_0) := (blk_cell BK567.out 0).trans rfl; have hcz11_1 : w9.cell? ⟨gb567, 1, none⟩ = some (.int .i64 a0_1) := (blk_cell BK567.out 1).trans rfl; have hcz11_2 : w9.cell? ⟨gb567, 2, none⟩ = some (.int .i64 a0_2) := (blk_cell BK567.out 2).trans rfl; have hcz11_3 : w9.cell? ⟨gb567, 3, none⟩ = some (.int .i64 a0_3) := (blk_cell BK567.out 3).trans rfl; have hcz11_4 : w9.cell? ⟨gb567, 4, none⟩ = some (.int .i64 a0_4) := (blk_cell BK567.out 4).trans rfl; have hfz11_0 := blk_frozen BK567.out 0; have hfz11_1 := blk_frozen BK567.out 1; have hfz11_2 := blk_frozen BK567.out 2; have hfz11_3 := blk_frozen BK567.out 3; have hfz11_4 := blk_frozen BK567.out 4) | (go_at_call 128; (with_reducible refine (member_sit.calls a0_0 a0_1 a0_2 a0_3 a0_4 a1 a3 t569 t570 t571 _ A6.out).mono ?_); rintro e w12 ⟨rfl, hb⟩; have n0_ := asd (blk_below (g := gb567) (o := .cells #[.int .i64 a0_0, .int .i64 a0_1, .int .i64 a0_2, .int .i64 a0_3, .int .i64 a0_4] 23 (0, 0)) (by (with_reducible repeat (first | refine blk_drewN ?_ _ | refine blk_drew ?_ | refine blk_alloc ?_ _)); exact BK567.out) hb); have n1_ := asd (blk_below (g := gb568) (o := .cells #[.int .i64 a4_0, .int .i64 a4_1, .int .u64 a4_2, .int .u16 a4_3] 43 (0, 0)) (by (with_reducible repeat (first | refine blk_drewN ?_ _ | refine blk_drew ?_ | refine blk_alloc ?_ _)); exact BK568.out) hb); have n2_ := asd (below_step (by repeat (first | (with_reducible first | exact HB.out | apply below_alloc | apply pw_below_drewN | apply below_drew1 | refine below_set ?_ GE567.out | refine below_set ?_ GE568.out) | exact HB.out)) hb); clear BK567; clear BK568; clear HB; have BK567 := n0_; have BK568 := n1_; have HB := n2_; clear n0_ n1_ n2_; (try clear hb); (try clear hb2); (try clear hk); (try clear hi)) | ((with_reducible refine gate_dst (N := 12) rfl ?_); refine bx (N := 12) (cs := #[.int .i64 0, .int .i64 0]) (t := 148) ?_; intro gb572 hg w13 hbox hb; have n0_ := asd (blk_below (g := gb567) (o := .cells #[.int .i64 a0_0, .int .i64 a0_1, .int .i64 a0_2, .int .i64 a0_3, .int .i64 a0_4] 23 (0, 0)) (by (with_reducible repeat (first | refine blk_drewN ?_ _ | refine blk_drew ?_ | refine blk_alloc ?_ _)); exact BK567.out) hb); have n1_ := asd (blk_below (g := gb568) (o := .cells #[.int .i64 a4_0, .int .i64 a4_1, .int .u64 a4_2, .int .u16 a4_3] 43 (0, 0)) (by (with_reducible repeat (first | refine blk_drewN ?_ _ | refine blk_drew ?_ | refine blk_alloc ?_ _)); exact BK568.out) hb); have n2_ := asd (below_step (by repeat (first | (with_reducible first | exact HB.out | apply below_alloc | apply pw_below_drewN | apply below_drew1 | refine below_set ?_ GE567.out | refine below_set ?_ GE568.out) | exact HB.out)) hb); have n3_ := asd (hbox); have n4_ := asd ((by rw [hg]; exact (below_size (by repeat (first | (with_reducible first | exact HB.out | apply below_alloc | apply pw_below_drewN | apply below_drew1 | refine below_set ?_ GE567.out | refine below_set ?_ GE568.out) | exact HB.out))) : w.heap.size ≤ gb572)); have n5_ := asd ((by rw [hg]; exact (below_size (by repeat (first | (with_reducible first | exact HB.out | apply below_alloc | apply pw_below_drewN | apply below_drew1 | refine below_set ?_ GE567.out | refine below_set ?_ GE568.out) | exact HB.out))) : w.heap.size ≤ gb572)); have n6_ := asd ((by rw [hg]; exact Nat.ne_of_lt (blk_lt (g := gb567) (o := .cells #[.int .i64 a0_0, .int .i64 a0_1, .int .i64 a0_2, .int .i64 a0_3, .int .i64 a0_4] 23 (0, 0)) (by (with_reducible repeat (first | refine blk_drewN ?_ _ | refine blk_drew ?_ | refine blk_alloc ?_ _)); exact BK567.out)) : gb567 ≠ gb572)); have n7_ := asd ((by rw [hg]; exact Nat.ne_of_gt (blk_lt (g := gb567) (o := .cells #[.int .i64 a0_0, .int .i64 a0_1, .int .i64 a0_2, .int .i64 a0_3, .int .i64 a0_4] 23 (0, 0)) (by (with_reducible repeat (first | refine blk_drewN ?_ _ | refine blk_drew ?_ | refine blk_alloc ?_ _)); exact BK567.out)) : gb572 ≠ gb567)); have n8_ := asd ((by rw [hg]; exact Nat.ne_of_lt (blk_lt (g := gb568) (o := .cells #[.int .i64 a4_0, .int .i64 a4_1, .int .u64 a4_2, .int .u16 a4_3] 43 (0, 0)) (by (with_reducible repeat (first | refine blk_drewN ?_ _ | refine blk_drew ?_ | refine blk_alloc ?_ _)); exact BK568.out)) : gb568 ≠ gb572)); have n9_ := asd ((by rw [hg]; exact Nat.ne_of_gt (blk_lt (g := gb568) (o := .cells #[.int .i64 a4_0, .int .i64 a4_1, .int .u64 a4_2, .int .u16 a4_3] 43 (0, 0)) (by (with_reducible repeat (first | refine blk_drewN ?_ _ | refine blk_drew ?_ | refine blk_alloc ?_ _)); exact BK568.out)) : gb572 ≠ gb568)); clear BK567; clear BK568; clear HB; have BK567 := n0_; have BK568 := n1_; have HB := n2_; have BK572 := n3_; have GW572 := n4_; have GE572 := n5_; have NB567_572 := n6_; have NB572_567 := n7_; have NB568_572 := n8_; have NB572_568 := n9_; clear n0_ n1_ n2_ n3_ n4_ n5_ n6_ n7_ n8_ n9_; clear hb hbox hg; have hnb14 := NB572_567.out; have hnc14 := NB567_572.out; have hnb15 := NB572_568.out; have hnc15 := NB568_572.out; have hcz16_0 : w13.cell? ⟨gb572, 0, none⟩ = some (.int .i64 0) := (blk_cell BK572.out 0).trans rfl; have hcz16_1 : w13.cell? ⟨gb572, 1, none⟩ = some (.int .i64 0) := (blk_cell BK572.out 1).trans rfl; have hfz16_0 := blk_frozen BK572.out 0; have hfz16_1 := blk_frozen BK572.out 1)))
 (try simp only [Act.put, List.setIfInBounds_toArray, List.set_cons_zero, List.set_cons_succ])
 go_cut [13] (fun v13 wc => ∃ (kq : Nat) (x13_6 : Int), v13 = .int .i64 x13_6 ∧ Aside0 (member_Judge.j0 kq a1 a2 a3 x13_6 a4_0 a4_1 a4_2 a4_3 t569 t570 = some (r1, r2)) ∧ Aside0 (kq ≤ k) ∧ Aside0 (wc.heap[gb567]? = some (.cells #[.int .i64 a0_0, .int .i64 a0_1, .int .i64 a0_2, .int .i64 a0_3, .int .i64 a0_4] 23 (0, 0))) ∧ Aside0 (wc.heap[gb568]? = some (.cells #[.int .i64 a4_0, .int .i64 a4_1, .int .u64 a4_2, .int .u16 a4_3] 43 (0, 0))) ∧ Aside0 (wc.heap[gb572]? = some (.cells #[.int .i64 t569, .int .i64 t570] 148 (0, 0))) ∧ Aside0 (Below w.heap.size w wc))
 case first =>
  have H := HC7.out
  clear HC7
  by_cases c17 : t571 = 0
  ·rw [if_pos c17] at H
   have c17b0 : (t571 == 0) = true := beq_iff_eq.mpr c17
   have c17b1 : (t571 != 0) = false := bne_eq_false_iff_eq.mpr c17
   clear c17
   (first | rw [c17b0] | (simp only [i64_w, i32_w]; rw [c17b0]) | skip)
   replace H := Option.bind_eq_some_iff.mp H
   obtain ⟨t573, A180, H⟩ := H
   replace H : (member_Judge.j0 k a1 a2 a3 t573 a4_0 a4_1 a4_2 a4_3 t569 t570) = some (r1, r2) := H
   have A18 := asd A180
   clear A180
   have H' := asd H
   clear H
   have hnb19 := NB568_567.out
   have hnc19 := NB567_568.out
   have hnb20 := NB568_572.out
   have hnc20 := NB572_568.out
   have hcz21 := cf4 BK568
   go_wp2_with (first | (go_at_call 48; (with_reducible refine (frame_Check.calls k a4_0 a4_1 a4_2 a4_3 t573 _ A18.out).mono ?_); rintro e w22 ⟨rfl, hb⟩; have n0_ := fq NB567_572 BK567 hb; have n1_ := fq NB568_572 BK568 hb; have n2_ := asd (blk_below (g := gb572) (o := .cells #[.int .i64 t569, .int .i64 t570] 148 (0, 0)) (by (with_reducible repeat (first | refine blk_drewN ?_ _ | refine blk_drew ?_ | refine blk_alloc ?_ _)); refine blk_put (cs := #[.int .i64 t569, .int .i64 0]) ?_ 1 _ rfl; (with_reducible repeat (first | refine blk_drewN ?_ _ | refine blk_drew ?_ | refine blk_alloc ?_ _)); refine blk_put (cs := #[.int .i64 0, .int .i64 0]) ?_ 0 _ rfl; (with_reducible repeat (first | refine blk_drewN ?_ _ | refine blk_drew ?_ | refine blk_alloc ?_ _)); exact BK572.out) hb); have n3_ := bs HB hb; clear BK567 BK568 BK572 HB; have BK567 := n0_; have BK568 := n1_; have BK572 := n2_; have HB := n3_; clear n0_ n1_ n2_ n3_; (try clear hb)))
   repeat (go_quiet (first | (go_at_call 48; (with_reducible refine (frame_Check.calls k a4_0 a4_1 a4_2 a4_3 t573 _ A18.out).mono ?_); rintro e w22 ⟨rfl, hb⟩; have n0_ := fq NB567_572 BK567 hb; have n1_ := fq NB568_572 BK568 hb; have n2_ := asd (blk_below (g := gb572) (o := .cells #[.int .i64 t569, .int .i64 t570] 148 (0, 0)) (by (with_reducible repeat (first | refine blk_drewN ?_ _ | refine blk_drew ?_ | refine blk_alloc ?_ _)); refine blk_put (cs := #[.int .i64 t569, .int .i64 0]) ?_ 1 _ rfl; (with_reducible repeat (first | refine blk_drewN ?_ _ | refine blk_drew ?_ | refine blk_alloc ?_ _)); refine blk_put (cs := #[.int .i64 0, .int .i64 0]) ?_ 0 _ rfl; (with_reducible repeat (first | refine blk_drewN ?_ _ | refine blk_drew ?_ | refine blk_alloc ?_ _)); exact BK572.out) hb); have n3_ := asd (below_step (by repeat (first | (with_reducible first | exact HB.out | apply below_alloc | apply pw_below_drewN | apply below_drew1 | refine below_set ?_ GE567.out | refine below_set ?_ GE568.out | refine below_set ?_ GE572.out) | exact HB.out)) hb); clear BK567; clear BK568; clear BK572; clear HB; have BK567 := n0_; have BK568 := n1_; have BK572 := n2_; have HB := n3_; clear n0_ n1_ n2_ n3_; (try clear hb); (try clear hb2); (try clear hk); (try clear hi))); try go_wp2_with (first | (go_at_call 48; (with_reducible refine (frame_Check.calls k a4_0 a4_1 a4_2 a4_3 t573 _ A18.out).mono ?_); rintro e w22 ⟨rfl, hb⟩; have n0_ := fq NB567_572 BK567 hb; have n1_ := fq NB568_572 BK568 hb; have n2_ := asd (blk_below (g := gb572) (o := .cells #[.int .i64 t569, .int .i64 t570] 148 (0, 0)) (by (with_reducible repeat (first | refine blk_drewN ?_ _ | refine blk_drew ?_ | refine blk_alloc ?_ _)); refine blk_put (cs := #[.int .i64 t569, .int .i64 0]) ?_ 1 _ rfl; (with_reducible repeat (first | refine blk_drewN ?_ _ | refine blk_drew ?_ | refine blk_alloc ?_ _)); refine blk_put (cs := #[.int .i64 0, .int .i64 0]) ?_ 0 _ rfl; (with_reducible repeat (first | refine blk_drewN ?_ _ | refine blk_drew ?_ | refine blk_alloc ?_ _)); exact BK572.out) hb); have n3_ := asd (below_step (by repeat (first | (with_reducible first | exact HB.out | apply below_alloc | apply pw_below_drewN | apply below_drew1 | refine below_set ?_ GE567.out | refine below_set ?_ GE568.out | refine below_set ?_ GE572.out) | exact HB.out)) hb); clear BK567; clear BK568; clear BK572; clear HB; have BK567 := n0_; have BK568 := n1_; have BK572 := n2_; have HB := n3_; clear n0_ n1_ n2_ n3_; (try clear hb); (try clear hb2); (try clear hk); (try clear hi))))
   go_meet
   case rel => exact ⟨_, (t573), (by first | rfl | (simp; done) | (simp [*]; done)), H', ⟨by first | omega | exact Nat.le_refl _⟩, ⟨by (with_reducible repeat (first | refine blk_drewN ?_ _ | refine blk_drew ?_ | refine blk_alloc ?_ _)); exact BK567.out⟩, ⟨by (with_reducible repeat (first | refine blk_drewN ?_ _ | refine blk_drew ?_ | refine blk_alloc ?_ _)); exact BK568.out⟩, ⟨by (with_reducible repeat (first | refine blk_drewN ?_ _ | refine blk_drew ?_ | refine blk_alloc ?_ _)); exact BK572.out⟩, ⟨by repeat (first | (with_reducible first | exact HB.out | apply below_alloc | apply pw_below_drewN | apply below_drew1 | refine below_set ?_ GE567.out | refine below_set ?_ GE568.out | refine below_set ?_ GE572.out) | exact HB.out)⟩⟩
  ·rw [if_neg c17] at H
   have c17b0 : (t571 == 0) = false := beq_eq_false_iff_ne.mpr c17
   have c17b1 : (t571 != 0) = true := bne_iff_ne.mpr c17
   (first | rw [c17b0] | (simp only [i64_w, i32_w]; rw [c17b0]) | skip)
   have H' := asd H
   clear H
   go_wp2
   repeat (go_quiet (fail); try go_wp2)
   go_meet
   case rel => exact ⟨_, (t571), (by first | rfl | (simp; done) | (simp [*]; done)), H', ⟨by first | omega | exact Nat.le_refl _⟩, ff NB567_572 BK567, ff NB568_572 BK568, ⟨by (with_reducible repeat (first | refine blk_drewN ?_ _ | refine blk_drew ?_ | refine blk_alloc ?_ _)); refine blk_put (cs := #[.int .i64 t569, .int .i64 0]) ?_ 1 _ rfl; (with_reducible repeat (first | refine blk_drewN ?_ _ | refine blk_drew ?_ | refine blk_alloc ?_ _)); refine blk_put (cs := #[.int .i64 0, .int .i64 0]) ?_ 0 _ rfl; (with_reducible repeat (first | refine blk_drewN ?_ _ | refine blk_drew ?_ | refine blk_alloc ?_ _)); exact BK572.out⟩, ⟨by repeat (first | (with_reducible first | exact HB.out | apply below_alloc | apply pw_below_drewN | apply below_drew1 | refine below_set ?_ GE567.out | refine below_set ?_ GE568.out | refine below_set ?_ GE572.out) | exact HB.out)⟩⟩
 case rest =>
  clear HC7
  try clear c1
  try clear c2
  try clear p2
  try clear c8
  try clear c10
  try clear c14
  try clear c15
  try clear c17
  try clear c17b0
  try clear c17b1
  try clear c19
  try clear c20
  try clear hcz11_0
  try clear hcz11_1
  try clear hcz11_2
  try clear hcz11_3
  try clear hcz11_4
  try clear hcz16_0
  try clear hcz16_1
  try clear hcz21
  try clear hcz21
  try clear hcz21
  try clear hcz21
  try clear hfz11_0
  try clear hfz11_1
  try clear hfz11_2
  try clear hfz11_3
  try clear hfz11_4
  try clear hfz16_0
  try clear hfz16_1
  try clear hcz21
  try clear hcz21
  try clear hcz21
  try clear hcz21
  obtain ⟨kq, x13_6, rfl, HA, HJ6, BK567, BK568, BK572, HB⟩ := hcut
  cases kq with
  | zero => exact absurd HA.out (by simp [member_Judge.j0])
  | succ kj6 =>
   have H := HA.out
   clear HA
   simp only [member_Judge.j0] at H
   by_cases c23 : x13_6 = 0
   ·rw [if_pos c23] at H
    have c23b0 : (x13_6 == 0) = true := beq_iff_eq.mpr c23
    have c23b1 : (x13_6 != 0) = false := bne_eq_false_iff_eq.mpr c23
    clear c23
    replace H := Option.bind_eq_some_iff.mp H
    obtain ⟨t574, A240, H⟩ := H
    replace H : (if a4_1 = t570 then (member_Judge.j1 kj6 a1 a2 t574 (a4_2 != a3) a4_0 a4_1 a4_2 a4_3 t569 t570) else (member_Judge.j1 kj6 a1 a2 t574 true a4_0 a4_1 a4_2 a4_3 t569 t570)) = some (r1, r2) := H
    have A24 := asd A240
    clear A240
    have HC25 := asd H
    clear H
    have hnb26 := NB572_567.out
    have hnc26 := NB567_572.out
    have hnb27 := NB572_568.out
    have hnc27 := NB568_572.out
    have hcz28_0 : wc.cell? ⟨gb572, 0, none⟩ = some (.int .i64 t569) := (blk_cell BK572.out 0).trans rfl
    have hcz28_1 : wc.cell? ⟨gb572, 1, none⟩ = some (.int .i64 t570) := (blk_cell BK572.out 1).trans rfl
    have hfz28_0 := blk_frozen BK572.out 0
    have hfz28_1 := blk_frozen BK572.out 1
    go_upto_region 7 with (first | (go_at_call 83; (with_reducible refine (frame_With.calls a2 t570 t574 _ A24.out).mono ?_); rintro e w' ⟨rfl, ⟨nd, rfl⟩⟩; (try first | exact ⟨rfl, _, World.drewN_drewN _ _ _⟩ | exact ⟨rfl, _, Eq.trans (World.drewN_drewN _ _ _) (congrArg (World.drewN _) (Nat.add_assoc _ _ _))⟩)))
    repeat (go_quiet (first | (go_at_call 83; (with_reducible refine (frame_With.calls a2 t570 t574 _ A24.out).mono ?_); rintro e w' ⟨rfl, ⟨nd, rfl⟩⟩; (try first | exact ⟨rfl, _, World.drewN_drewN _ _ _⟩ | exact ⟨rfl, _, Eq.trans (World.drewN_drewN _ _ _) (congrArg (World.drewN _) (Nat.add_assoc _ _ _))⟩))); go_upto_region 7 with (first | (go_at_call 83; (with_reducible refine (frame_With.calls a2 t570 t574 _ A24.out).mono ?_); rintro e w' ⟨rfl, ⟨nd, rfl⟩⟩; (try first | exact ⟨rfl, _, World.drewN_drewN _ _ _⟩ | exact ⟨rfl, _, Eq.trans (World.drewN_drewN _ _ _) (congrArg (World.drewN _) (Nat.add_assoc _ _ _))⟩))))
    (try simp only [Act.put, List.setIfInBounds_toArray, List.set_cons_zero, List.set_cons_succ])
    go_cut [32] (fun v32 wc => ∃ (kq : Nat) (x32_24 : Bool), v32 = .bool x32_24 ∧ Aside0 (member_Judge.j1 kq a1 a2 t574 x32_24 a4_0 a4_1 a4_2 a4_3 t569 t570 = some (r1, r2)) ∧ Aside0 (kq ≤ kj6) ∧ Aside0 (wc.heap[gb567]? = some (.cells #[.int .i64 a0_0, .int .i64 a0_1, .int .i64 a0_2, .int .i64 a0_3, .int .i64 a0_4] 23 (0, 0))) ∧ Aside0 (wc.heap[gb568]? = some (.cells #[.int .i64 a4_0, .int .i64 a4_1, .int .u64 a4_2, .int .u16 a4_3] 43 (0, 0))) ∧ Aside0 (wc.heap[gb572]? = some (.cells #[.int .i64 t569, .int .i64 t570] 148 (0, 0))) ∧ Aside0 (Below w.heap.size w wc))
    case first =>
     have H := HC25.out
     clear HC25
     by_cases c29 : a4_1 = t570
     ·rw [if_pos c29] at H
      have c29b0 : (a4_1 == t570) = true := beq_iff_eq.mpr c29
      have c29b1 : (a4_1 != t570) = false := bne_eq_false_iff_eq.mpr c29
      clear c29
      (first | rw [c29b0] | (simp only [i64_w, i32_w]; rw [c29b0]) | skip)
      have H' := asd H
      clear H
      have hnb30 := NB568_567.out
      have hnc30 := NB567_568.out
      have hnb31 := NB568_572.out
      have hnc31 := NB572_568.out
      have hcz32 := cf4 BK568
      have hnb33 := NB572_567.out
      have hnc33 := NB567_572.out
      have hcz34_0 : wc.cell? ⟨gb572, 0, none⟩ = some (.int .i64 t569) := (blk_cell BK572.out 0).trans rfl
      have hcz34_1 : wc.cell? ⟨gb572, 1, none⟩ = some (.int .i64 t570) := (blk_cell BK572.out 1).trans rfl
      have hfz34_0 := blk_frozen BK572.out 0
      have hfz34_1 := blk_frozen BK572.out 1
      go_wp2
      repeat (go_quiet (fail); try go_wp2)
      go_meet
      case rel => exact ⟨_, ((a4_2 != a3)), (by first | rfl | (simp; done) | (simp [*]; done)), H', ⟨by have := HJ6.out; first | omega | exact Nat.le_refl _⟩, ⟨by (with_reducible repeat (first | refine blk_drewN ?_ _ | refine blk_drew ?_ | refine blk_alloc ?_ _)); exact BK567.out⟩, ⟨by (with_reducible repeat (first | refine blk_drewN ?_ _ | refine blk_drew ?_ | refine blk_alloc ?_ _)); exact BK568.out⟩, ⟨by (with_reducible repeat (first | refine blk_drewN ?_ _ | refine blk_drew ?_ | refine blk_alloc ?_ _)); exact BK572.out⟩, ⟨by repeat (first | (with_reducible first | exact HB.out | apply below_alloc | apply pw_below_drewN | apply below_drew1 | refine below_set ?_ GE567.out | refine below_set ?_ GE568.out | refine below_set ?_ GE572.out) | exact HB.out)⟩⟩
     ·rw [if_neg c29] at H
      have c29b0 : (a4_1 == t570) = false := beq_eq_false_iff_ne.mpr c29
      have c29b1 : (a4_1 != t570) = true := bne_iff_ne.mpr c29
      (first | rw [c29b0] | (simp only [i64_w, i32_w]; rw [c29b0]) | skip)
      have H' := asd H
      clear H
      have hnb35 := NB568_567.out
      have hnc35 := NB567_568.out
      have hnb36 := NB568_572.out
      have hnc36 := NB572_568.out
      have hcz37 := cf4 BK568
      have hnb38 := NB572_567.out
      have hnc38 := NB567_572.out
      have hcz39_0 : wc.cell? ⟨gb572, 0, none⟩ = some (.int .i64 t569) := (blk_cell BK572.out 0).trans rfl
      have hcz39_1 : wc.cell? ⟨gb572, 1, none⟩ = some (.int .i64 t570) := (blk_cell BK572.out 1).trans rfl
      have hfz39_0 := blk_frozen BK572.out 0
      have hfz39_1 := blk_frozen BK572.out 1
      go_wp2
      repeat (go_quiet (fail); try go_wp2)
      go_meet
      case rel => exact ⟨_, (true), (by first | rfl | (simp; done) | (simp [*]; done)), H', ⟨by have := HJ6.out; first | omega | exact Nat.le_refl _⟩, ⟨by (with_reducible repeat (first | refine blk_drewN ?_ _ | refine blk_drew ?_ | refine blk_alloc ?_ _)); exact BK567.out⟩, ⟨by (with_reducible repeat (first | refine blk_drewN ?_ _ | refine blk_drew ?_ | refine blk_alloc ?_ _)); exact BK568.out⟩, ⟨by (with_reducible repeat (first | refine blk_drewN ?_ _ | refine blk_drew ?_ | refine blk_alloc ?_ _)); exact BK572.out⟩, ⟨by repeat (first | (with_reducible first | exact HB.out | apply below_alloc | apply pw_below_drewN | apply below_drew1 | refine below_set ?_ GE567.out | refine below_set ?_ GE568.out | refine below_set ?_ GE572.out) | exact HB.out)⟩⟩
    case rest =>
     clear HC25
     try clear c1
     try clear c2
     try clear p2
     try clear c3
     try clear c8
     try clear c10
     try clear c14
     try clear c15
     try clear c17
     try clear c17b0
     try clear c17b1
     try clear c19
     try clear c20
     try clear c23
     try clear c23b0
     try clear c23b1
     try clear c26
     try clear c27
     try clear c29
     try clear c29b0
     try clear c29b1
     try clear c30
     try clear c31
     try clear c33
     try clear c35
     try clear c36
     try clear c38
     try clear hcz11_0
     try clear hcz11_1
     try clear hcz11_2
     try clear hcz11_3
     try clear hcz11_4
     try clear hcz16_0
     try clear hcz16_1
     try clear hcz21
     try clear hcz21
     try clear hcz21
     try clear hcz21
     try clear hcz28_0
     try clear hcz28_1
     try clear hcz32
     try clear hcz32
     try clear hcz32
     try clear hcz32
     try clear hcz34_0
     try clear hcz34_1
     try clear hcz37
     try clear hcz37
     try clear hcz37
     try clear hcz37
     try clear hcz39_0
     try clear hcz39_1
     try clear hfz11_0
     try clear hfz11_1
     try clear hfz11_2
     try clear hfz11_3
     try clear hfz11_4
     try clear hfz16_0
     try clear hfz16_1
     try clear hcz21
     try clear hcz21
     try clear hcz21
     try clear hcz21
     try clear hfz28_0
     try clear hfz28_1
     try clear hcz32
     try clear hcz32
     try clear hcz32
     try clear hcz32
     try clear hfz34_0
     try clear hfz34_1
     try clear hcz37
     try clear hcz37
     try clear hcz37
     try clear hcz37
     try clear hfz39_0
     try clear hfz39_1
     try clear p2
     obtain ⟨kq, x32_24, rfl, HA, HJ24, BK567, BK568, BK572, HB⟩ := hcut
     cases kq with
     | zero => exact absurd HA.out (by simp [member_Judge.j1])
     | succ kj24 =>
      have H := HA.out
      clear HA
      simp only [member_Judge.j1] at H
      by_cases c40 : x32_24 = true
      ·subst c40
       have H1 : (some (3, 0)) = some (r1, r2) := by rw [if_pos rfl] at H; exact H
       clear H
       have H := H1
       clear H1
       simp only [Option.some.injEq, Prod.mk.injEq] at H
       obtain ⟨rfl, rfl⟩ := H
       go_wp2
       repeat (go_quiet (fail); try go_wp2)
       go_ret2
       exact ⟨by first | rfl | (simp [errW_none, errW_some] <;> rfl) | (simp [*, errW_none, errW_some] <;> rfl), by repeat (first | (with_reducible first | exact HB.out | apply below_alloc | apply pw_below_drewN | apply below_drew1 | refine below_set ?_ GE567.out | refine below_set ?_ GE568.out | refine below_set ?_ GE572.out) | exact HB.out)⟩
      ·replace c40 := Bool.eq_false_iff.mpr c40
       subst c40
       have H1 : (if a4_3 = t574 then (some (1, 0)) else (if t569 = t570 then (some (3, 0)) else ((frame_Has.f a2 a1).bind fun t575 => (if t575 = true then ((frame_Without.f t574 a1).bind fun t576 => (if a4_3 = t576 then (some (2, 0)) else (some (3, 0)))) else (some (3, 0)))))) = some (r1, r2) := by rw [if_neg (show ¬ (false = true) by decide)] at H; exact H
       clear H
       have H := H1
       clear H1
       by_cases c41 : a4_3 = t574
       ·rw [if_pos c41] at H
        have c41b0 : (a4_3 == t574) = true := beq_iff_eq.mpr c41
        have c41b1 : (a4_3 != t574) = false := bne_eq_false_iff_eq.mpr c41
        clear c41
        simp only [Option.some.injEq, Prod.mk.injEq] at H
        obtain ⟨rfl, rfl⟩ := H
        have hnb42 := NB568_567.out
        have hnc42 := NB567_568.out
        have hnb43 := NB568_572.out
        have hnc43 := NB572_568.out
        have hcz44 := cf4 BK568
        go_wp2
        repeat (go_quiet (fail); try go_wp2)
        go_ret2
        exact ⟨by first | rfl | (simp [errW_none, errW_some] <;> rfl) | (simp [*, errW_none, errW_some] <;> rfl), by repeat (first | (with_reducible first | exact HB.out | apply below_alloc | apply pw_below_drewN | apply below_drew1 | refine below_set ?_ GE567.out | refine below_set ?_ GE568.out | refine below_set ?_ GE572.out) | exact HB.out)⟩
       ·rw [if_neg c41] at H
        have c41b0 : (a4_3 == t574) = false := beq_eq_false_iff_ne.mpr c41
        have c41b1 : (a4_3 != t574) = true := bne_iff_ne.mpr c41
        by_cases c45 : t569 = t570
        ·rw [if_pos c45] at H
         have c45b0 : (t569 == t570) = true := beq_iff_eq.mpr c45
         have c45b1 : (t569 != t570) = false := bne_eq_false_iff_eq.mpr c45
         clear c45
         simp only [Option.some.injEq, Prod.mk.injEq] at H
         obtain ⟨rfl, rfl⟩ := H
         have hnb46 := NB568_567.out
         have hnc46 := NB567_568.out
         have hnb47 := NB568_572.out
         have hnc47 := NB572_568.out
         have hcz48 := cf4 BK568
         have hnb49 := NB572_567.out
         have hnc49 := NB567_572.out
         have hcz50_0 : wc.cell? ⟨gb572, 0, none⟩ = some (.int .i64 t569) := (blk_cell BK572.out 0).trans rfl
         have hcz50_1 : wc.cell? ⟨gb572, 1, none⟩ = some (.int .i64 t570) := (blk_cell BK572.out 1).trans rfl
         have hfz50_0 := blk_frozen BK572.out 0
         have hfz50_1 := blk_frozen BK572.out 1
         go_wp2
         repeat (go_quiet (fail); try go_wp2)
         go_ret2
         exact ⟨by first | rfl | (simp [errW_none, errW_some] <;> rfl) | (simp [*, errW_none, errW_some] <;> rfl), by repeat (first | (with_reducible first | exact HB.out | apply below_alloc | apply pw_below_drewN | apply below_drew1 | refine below_set ?_ GE567.out | refine below_set ?_ GE568.out | refine below_set ?_ GE572.out) | exact HB.out)⟩
        ·rw [if_neg c45] at H
         have c45b0 : (t569 == t570) = false := beq_eq_false_iff_ne.mpr c45
         have c45b1 : (t569 != t570) = true := bne_iff_ne.mpr c45
         replace H := Option.bind_eq_some_iff.mp H
         obtain ⟨t575, A510, H⟩ := H
         replace H : (if t575 = true then ((frame_Without.f t574 a1).bind fun t576 => (if a4_3 = t576 then (some (2, 0)) else (some (3, 0)))) else (some (3, 0))) = some (r1, r2) := H
         have A51 := asd A510
         clear A510
         by_cases c52 : t575 = true
         ·subst c52
          have H1 : ((frame_Without.f t574 a1).bind fun t576 => (if a4_3 = t576 then (some (2, 0)) else (some (3, 0)))) = some (r1, r2) := by rw [if_pos rfl] at H; exact H
          clear H
          have H := H1
          clear H1
          replace H := Option.bind_eq_some_iff.mp H
          obtain ⟨t576, A530, H⟩ := H
          replace H : (if a4_3 = t576 then (some (2, 0)) else (some (3, 0))) = some (r1, r2) := H
          have A53 := asd A530
          clear A530
          by_cases c54 : a4_3 = t576
          ·rw [if_pos c54] at H
           have c54b0 : (a4_3 == t576) = true := beq_iff_eq.mpr c54
           have c54b1 : (a4_3 != t576) = false := bne_eq_false_iff_eq.mpr c54
           clear c54
           simp only [Option.some.injEq, Prod.mk.injEq] at H
           obtain ⟨rfl, rfl⟩ := H
           have hnb55 := NB568_567.out
           have hnc55 := NB567_568.out
           have hnb56 := NB568_572.out
           have hnc56 := NB572_568.out
           have hcz57 := cf4 BK568
           have hnb58 := NB572_567.out
           have hnc58 := NB567_572.out
           have hcz59_0 : wc.cell? ⟨gb572, 0, none⟩ = some (.int .i64 t569) := (blk_cell BK572.out 0).trans rfl
           have hcz59_1 : wc.cell? ⟨gb572, 1, none⟩ = some (.int .i64 t570) := (blk_cell BK572.out 1).trans rfl
           have hfz59_0 := blk_frozen BK572.out 0
           have hfz59_1 := blk_frozen BK572.out 1
           go_wp2_with (first | (go_at_call 17; (with_reducible refine (frame_Has.calls a2 a1 true _ A51.out).mono ?_); rintro e w' ⟨rfl, ⟨nd, rfl⟩⟩; (try first | exact ⟨rfl, _, World.drewN_drewN _ _ _⟩ | exact ⟨rfl, _, Eq.trans (World.drewN_drewN _ _ _) (congrArg (World.drewN _) (Nat.add_assoc _ _ _))⟩)) | (go_at_call 82; (with_reducible refine (frame_Without.calls t574 a1 t576 _ A53.out).mono ?_); rintro e w' ⟨rfl, ⟨nd, rfl⟩⟩; (try first | exact ⟨rfl, _, World.drewN_drewN _ _ _⟩ | exact ⟨rfl, _, Eq.trans (World.drewN_drewN _ _ _) (congrArg (World.drewN _) (Nat.add_assoc _ _ _))⟩)))
           repeat (go_quiet (first | (go_at_call 17; (with_reducible refine (frame_Has.calls a2 a1 true _ A51.out).mono ?_); rintro e w' ⟨rfl, ⟨nd, rfl⟩⟩; (try first | exact ⟨rfl, _, World.drewN_drewN _ _ _⟩ | exact ⟨rfl, _, Eq.trans (World.drewN_drewN _ _ _) (congrArg (World.drewN _) (Nat.add_assoc _ _ _))⟩)) | (go_at_call 82; (with_reducible refine (frame_Without.calls t574 a1 t576 _ A53.out).mono ?_); rintro e w' ⟨rfl, ⟨nd, rfl⟩⟩; (try first | exact ⟨rfl, _, World.drewN_drewN _ _ _⟩ | exact ⟨rfl, _, Eq.trans (World.drewN_drewN _ _ _) (congrArg (World.drewN _) (Nat.add_assoc _ _ _))⟩))); try go_wp2_with (first | (go_at_call 17; (with_reducible refine (frame_Has.calls a2 a1 true _ A51.out).mono ?_); rintro e w' ⟨rfl, ⟨nd, rfl⟩⟩; (try first | exact ⟨rfl, _, World.drewN_drewN _ _ _⟩ | exact ⟨rfl, _, Eq.trans (World.drewN_drewN _ _ _) (congrArg (World.drewN _) (Nat.add_assoc _ _ _))⟩)) | (go_at_call 82; (with_reducible refine (frame_Without.calls t574 a1 t576 _ A53.out).mono ?_); rintro e w' ⟨rfl, ⟨nd, rfl⟩⟩; (try first | exact ⟨rfl, _, World.drewN_drewN _ _ _⟩ | exact ⟨rfl, _, Eq.trans (World.drewN_drewN _ _ _) (congrArg (World.drewN _) (Nat.add_assoc _ _ _))⟩))))
           go_ret2
           exact ⟨by first | rfl | (simp [errW_none, errW_some] <;> rfl) | (simp [*, errW_none, errW_some] <;> rfl), by repeat (first | (with_reducible first | exact HB.out | apply below_alloc | apply pw_below_drewN | apply below_drew1 | refine below_set ?_ GE567.out | refine below_set ?_ GE568.out | refine below_set ?_ GE572.out) | exact HB.out)⟩
          ·rw [if_neg c54] at H
           have c54b0 : (a4_3 == t576) = false := beq_eq_false_iff_ne.mpr c54
           have c54b1 : (a4_3 != t576) = true := bne_iff_ne.mpr c54
           simp only [Option.some.injEq, Prod.mk.injEq] at H
           obtain ⟨rfl, rfl⟩ := H
           have hnb60 := NB568_567.out
           have hnc60 := NB567_568.out
           have hnb61 := NB568_572.out
           have hnc61 := NB572_568.out
           have hcz62 := cf4 BK568
           have hnb63 := NB572_567.out
           have hnc63 := NB567_572.out
           have hcz64_0 : wc.cell? ⟨gb572, 0, none⟩ = some (.int .i64 t569) := (blk_cell BK572.out 0).trans rfl
           have hcz64_1 : wc.cell? ⟨gb572, 1, none⟩ = some (.int .i64 t570) := (blk_cell BK572.out 1).trans rfl
           have hfz64_0 := blk_frozen BK572.out 0
           have hfz64_1 := blk_frozen BK572.out 1
           go_wp2_with (first | (go_at_call 17; (with_reducible refine (frame_Has.calls a2 a1 true _ A51.out).mono ?_); rintro e w' ⟨rfl, ⟨nd, rfl⟩⟩; (try first | exact ⟨rfl, _, World.drewN_drewN _ _ _⟩ | exact ⟨rfl, _, Eq.trans (World.drewN_drewN _ _ _) (congrArg (World.drewN _) (Nat.add_assoc _ _ _))⟩)) | (go_at_call 82; (with_reducible refine (frame_Without.calls t574 a1 t576 _ A53.out).mono ?_); rintro e w' ⟨rfl, ⟨nd, rfl⟩⟩; (try first | exact ⟨rfl, _, World.drewN_drewN _ _ _⟩ | exact ⟨rfl, _, Eq.trans (World.drewN_drewN _ _ _) (congrArg (World.drewN _) (Nat.add_assoc _ _ _))⟩)))
           repeat (go_quiet (first | (go_at_call 17; (with_reducible refine (frame_Has.calls a2 a1 true _ A51.out).mono ?_); rintro e w' ⟨rfl, ⟨nd, rfl⟩⟩; (try first | exact ⟨rfl, _, World.drewN_drewN _ _ _⟩ | exact ⟨rfl, _, Eq.trans (World.drewN_drewN _ _ _) (congrArg (World.drewN _) (Nat.add_assoc _ _ _))⟩)) | (go_at_call 82; (with_reducible refine (frame_Without.calls t574 a1 t576 _ A53.out).mono ?_); rintro e w' ⟨rfl, ⟨nd, rfl⟩⟩; (try first | exact ⟨rfl, _, World.drewN_drewN _ _ _⟩ | exact ⟨rfl, _, Eq.trans (World.drewN_drewN _ _ _) (congrArg (World.drewN _) (Nat.add_assoc _ _ _))⟩))); try go_wp2_with (first | (go_at_call 17; (with_reducible refine (frame_Has.calls a2 a1 true _ A51.out).mono ?_); rintro e w' ⟨rfl, ⟨nd, rfl⟩⟩; (try first | exact ⟨rfl, _, World.drewN_drewN _ _ _⟩ | exact ⟨rfl, _, Eq.trans (World.drewN_drewN _ _ _) (congrArg (World.drewN _) (Nat.add_assoc _ _ _))⟩)) | (go_at_call 82; (with_reducible refine (frame_Without.calls t574 a1 t576 _ A53.out).mono ?_); rintro e w' ⟨rfl, ⟨nd, rfl⟩⟩; (try first | exact ⟨rfl, _, World.drewN_drewN _ _ _⟩ | exact ⟨rfl, _, Eq.trans (World.drewN_drewN _ _ _) (congrArg (World.drewN _) (Nat.add_assoc _ _ _))⟩))))
           go_ret2
           exact ⟨by first | rfl | (simp [errW_none, errW_some] <;> rfl) | (simp [*, errW_none, errW_some] <;> rfl), by repeat (first | (with_reducible first | exact HB.out | apply below_alloc | apply pw_below_drewN | apply below_drew1 | refine below_set ?_ GE567.out | refine below_set ?_ GE568.out | refine below_set ?_ GE572.out) | exact HB.out)⟩
         ·replace c52 := Bool.eq_false_iff.mpr c52
          subst c52
          have H1 : (some (3, 0)) = some (r1, r2) := by rw [if_neg (show ¬ (false = true) by decide)] at H; exact H
          clear H
          have H := H1
          clear H1
          simp only [Option.some.injEq, Prod.mk.injEq] at H
          obtain ⟨rfl, rfl⟩ := H
          have hnb65 := NB568_567.out
          have hnc65 := NB567_568.out
          have hnb66 := NB568_572.out
          have hnc66 := NB572_568.out
          have hcz67 := cf4 BK568
          have hnb68 := NB572_567.out
          have hnc68 := NB567_572.out
          have hcz69_0 : wc.cell? ⟨gb572, 0, none⟩ = some (.int .i64 t569) := (blk_cell BK572.out 0).trans rfl
          have hcz69_1 : wc.cell? ⟨gb572, 1, none⟩ = some (.int .i64 t570) := (blk_cell BK572.out 1).trans rfl
          have hfz69_0 := blk_frozen BK572.out 0
          have hfz69_1 := blk_frozen BK572.out 1
          go_wp2_with (first | (go_at_call 17; (with_reducible refine (frame_Has.calls a2 a1 false _ A51.out).mono ?_); rintro e w' ⟨rfl, ⟨nd, rfl⟩⟩; (try first | exact ⟨rfl, _, World.drewN_drewN _ _ _⟩ | exact ⟨rfl, _, Eq.trans (World.drewN_drewN _ _ _) (congrArg (World.drewN _) (Nat.add_assoc _ _ _))⟩)))
          repeat (go_quiet (first | (go_at_call 17; (with_reducible refine (frame_Has.calls a2 a1 false _ A51.out).mono ?_); rintro e w' ⟨rfl, ⟨nd, rfl⟩⟩; (try first | exact ⟨rfl, _, World.drewN_drewN _ _ _⟩ | exact ⟨rfl, _, Eq.trans (World.drewN_drewN _ _ _) (congrArg (World.drewN _) (Nat.add_assoc _ _ _))⟩))); try go_wp2_with (first | (go_at_call 17; (with_reducible refine (frame_Has.calls a2 a1 false _ A51.out).mono ?_); rintro e w' ⟨rfl, ⟨nd, rfl⟩⟩; (try first | exact ⟨rfl, _, World.drewN_drewN _ _ _⟩ | exact ⟨rfl, _, Eq.trans (World.drewN_drewN _ _ _) (congrArg (World.drewN _) (Nat.add_assoc _ _ _))⟩))))
          go_ret2
          exact ⟨by first | rfl | (simp [errW_none, errW_some] <;> rfl) | (simp [*, errW_none, errW_some] <;> rfl), by repeat (first | (with_reducible first | exact HB.out | apply below_alloc | apply pw_below_drewN | apply below_drew1 | refine below_set ?_ GE567.out | refine below_set ?_ GE568.out | refine below_set ?_ GE572.out) | exact HB.out)⟩
   ·rw [if_neg c23] at H
    have c23b0 : (x13_6 == 0) = false := beq_eq_false_iff_ne.mpr c23
    have c23b1 : (x13_6 != 0) = true := bne_iff_ne.mpr c23
    simp only [Option.some.injEq, Prod.mk.injEq] at H
    obtain ⟨rfl, rfl⟩ := H
    go_wp2
    repeat (go_quiet (fail); try go_wp2)
    go_ret2
    exact ⟨by first | rfl | (simp [errW_none, errW_some] <;> rfl) | (simp [*, errW_none, errW_some] <;> rfl), by repeat (first | (with_reducible first | exact HB.out | apply below_alloc | apply pw_below_drewN | apply below_drew1 | refine below_set ?_ GE567.out | refine below_set ?_ GE568.out | refine below_set ?_ GE572.out) | exact HB.out)⟩


/-! ### member_Count: function 87 -/
mutual
def member_Count.j0 : Nat → Int → Bool → Int → Int → Option (Int × Int × Int)
 | 0, _, _, _, _ => none
 | k + 1, x1, x19, x578000, x578001 => if x19 = true then (some (0, 0, 1)) else (if x1 = 0 then (some (x578000, x578001, 0)) else (if x1 = 1 then (member_Count.j1 k x1 (x1 == 1) x578000 x578001) else (member_Count.j1 k x1 (x1 == 2) x578000 x578001)))
def member_Count.j1 : Nat → Int → Bool → Int → Int → Option (Int × Int × Int)
 | 0, _, _, _, _ => none
 | k + 1, x21, x25, x578000, x578001 => if x25 = true then (some (mn (wrap64 (x578000 + 1)) 1073741824, x578001, 0)) else (if x21 = 3 then (some (x578000, mn (wrap64 (x578001 + 1)) 1073741824, 0)) else (some (0, 0, 1)))
end
def member_Count.f (k : Nat) (a0_0 : Int) (a0_1 : Int) (a1 : Int) : Option (Int × Int × Int) := if (mn a0_0 a0_1) < 0 then (member_Count.j0 k a1 true a0_0 a0_1) else (member_Count.j0 k a1 (decide ((mx a0_0 a0_1) > 1073741824)) a0_0 a0_1)
set_option maxHeartbeats 8000000 in
set_option maxRecDepth 100000 in
theorem member_Count.calls (k : Nat) (a0_0 : Int) (a0_1 : Int) (a1 : Int) (r1 : Int) (r2 : Int) (r3 : Int) (w : World) (h : member_Count.f k a0_0 a0_1 a1 = some (r1, r2, r3)) :
  Calls Tryz.prog 87 #[.agg #[.int .i64 a0_0, .int .i64 a0_1], .int .i64 a1] w fun e w' => e = .returned (.tuple #[.agg #[.int .i64 r1, .int .i64 r2], .int .i64 r3]) ∧ Below w.heap.size w w' := by
 have hu29 := Tryz.underlying29
 have HB := asd (Below.refl w.heap.size w)
 have H : (if (mn a0_0 a0_1) < 0 then (member_Count.j0 k a1 true a0_0 a0_1) else (member_Count.j0 k a1 (decide ((mx a0_0 a0_1) > 1073741824)) a0_0 a0_1)) = some (r1, r2, r3) := h
 clear h
 have HC3 := asd H
 clear H
 go_enter Tryz.func87, Tryz.ntmps87
 go_upto_region 1 with (first | ((with_reducible refine gate_dst (N := 2) rfl ?_); (try (refine gate_guard (by rfl) ?_; dsimp only)); refine bx (N := 2) (cs := #[.int .i64 a0_0, .int .i64 a0_1]) (t := 29) ?_; intro gb577 hg w4 hbox hb; have BK577 := asd (hbox); have GW577 := bz HB hg; have GE577 := bz HB hg; replace HB := bs HB hb; clear hb hbox hg) | ((with_reducible refine gate_dst (N := 4) rfl ?_); (try (refine gate_guard (by rfl) ?_; dsimp only)); refine bx (N := 4) (cs := #[.int .i64 0, .int .i64 0]) (t := 29) ?_; intro gb578 hg w5 hbox hb; have BK578 := asd (hbox); have GW578 := bz HB hg; have GE578 := bz HB hg; have NB577_578 := nl BK577 hg; have NB578_577 := nr BK577 hg; replace BK577 := bb BK577 hb; replace HB := bs HB hb; clear hb hbox hg))
 (try simp only [Act.put, List.setIfInBounds_toArray, List.set_cons_zero, List.set_cons_succ])
 go_cut [19] (fun v19 wc => ∃ (kq : Nat) (x19_2 : Bool), v19 = .bool x19_2 ∧ Aside0 (member_Count.j0 kq a1 x19_2 a0_0 a0_1 = some (r1, r2, r3)) ∧ Aside0 (kq ≤ k) ∧ Aside0 (wc.heap[gb577]? = some (.cells #[.int .i64 a0_0, .int .i64 a0_1] 29 (0, 0))) ∧ Aside0 (wc.heap[gb578]? = some (.cells #[.int .i64 0, .int .i64 0] 29 (0, 0))) ∧ Aside0 (Below w.heap.size w wc))
 case first =>
  have H := HC3.out
  clear HC3
  obtain ⟨ji6, hji6⟩ : ∃ j_ : Int, (mn a0_0 a0_1) = j_ := ⟨_, rfl⟩
  replace H : (if (ji6) < 0 then (member_Count.j0 k a1 true a0_0 a0_1) else (member_Count.j0 k a1 (decide ((mx a0_0 a0_1) > 1073741824)) a0_0 a0_1)) = some (r1, r2, r3) := by first | (rw [hji6] at H; exact H) | (simp only [hji6] at H ⊢; exact H)
  have hji6_ : (if a0_1 < a0_0 then a0_1 else a0_0) = ji6 := hji6
  by_cases c7 : (ji6) < 0
  ·rw [if_pos c7] at H
   have c7b0 : decide ((ji6) < 0) = true := decide_eq_true c7
   clear c7
   (first | rw [c7b0] | (simp only [i64_w, i32_w]; rw [c7b0]) | skip)
   have H' := asd H
   clear H
   have hnb8 := NB577_578.out
   have hnc8 := NB578_577.out
   have hcz9_0 : w5.cell? ⟨gb577, 0, none⟩ = some (.int .i64 a0_0) := (blk_cell BK577.out 0).trans rfl
   have hcz9_1 : w5.cell? ⟨gb577, 1, none⟩ = some (.int .i64 a0_1) := (blk_cell BK577.out 1).trans rfl
   have hfz9_0 := blk_frozen BK577.out 0
   have hfz9_1 := blk_frozen BK577.out 1
   go_wp2
   go_meet
   case rel => exact ⟨_, (true), (by first | rfl | (simp; done) | (simp [*]; done)), H', ⟨by first | omega | exact Nat.le_refl _⟩, ⟨by (with_reducible repeat (first | refine blk_drewN ?_ _ | refine blk_drew ?_ | refine blk_alloc ?_ _)); exact BK577.out⟩, ⟨by (with_reducible repeat (first | refine blk_drewN ?_ _ | refine blk_drew ?_ | refine blk_alloc ?_ _)); exact BK578.out⟩, ⟨by repeat (first | (with_reducible first | exact HB.out | apply below_alloc | apply pw_below_drewN | apply below_drew1 | refine below_set ?_ GE577.out | refine below_set ?_ GE578.out) | exact HB.out)⟩⟩
  ·rw [if_neg c7] at H
   have c7b0 : decide ((ji6) < 0) = false := decide_eq_false c7
   clear c7
   (first | rw [c7b0] | (simp only [i64_w, i32_w]; rw [c7b0]) | skip)
   obtain ⟨ji10, hji10⟩ : ∃ j_ : Int, (mx a0_0 a0_1) = j_ := ⟨_, rfl⟩
   replace H : (member_Count.j0 k a1 (decide ((ji10) > 1073741824)) a0_0 a0_1) = some (r1, r2, r3) := by first | (rw [hji10] at H; exact H) | (simp only [hji10] at H ⊢; exact H)
   have hji10_ : (if a0_0 < a0_1 then a0_1 else a0_0) = ji10 := hji10
   have H' := asd H
   clear H
   have hnb11 := NB577_578.out
   have hnc11 := NB578_577.out
   have hcz12_0 : w5.cell? ⟨gb577, 0, none⟩ = some (.int .i64 a0_0) := (blk_cell BK577.out 0).trans rfl
   have hcz12_1 : w5.cell? ⟨gb577, 1, none⟩ = some (.int .i64 a0_1) := (blk_cell BK577.out 1).trans rfl
   have hfz12_0 := blk_frozen BK577.out 0
   have hfz12_1 := blk_frozen BK577.out 1
   go_wp2
   go_meet
   case rel => exact ⟨_, (decide ((ji10) > 1073741824)), (by first | rfl | (simp; done) | (simp only [← hji10] <;> (first | rfl | simp)) | (simp [*]; done)), H', ⟨by first | omega | exact Nat.le_refl _⟩, ⟨by (with_reducible repeat (first | refine blk_drewN ?_ _ | refine blk_drew ?_ | refine blk_alloc ?_ _)); exact BK577.out⟩, ⟨by (with_reducible repeat (first | refine blk_drewN ?_ _ | refine blk_drew ?_ | refine blk_alloc ?_ _)); exact BK578.out⟩, ⟨by repeat (first | (with_reducible first | exact HB.out | apply below_alloc | apply pw_below_drewN | apply below_drew1 | refine below_set ?_ GE577.out | refine below_set ?_ GE578.out) | exact HB.out)⟩⟩
 case rest =>
  clear HC3
  try clear c1
  try clear p2
  try clear c7
  try clear c7b0
  try clear c8
  try clear c11
  try clear hcz12_0
  try clear hcz12_1
  try clear hcz9_0
  try clear hcz9_1
  try clear hfz12_0
  try clear hfz12_1
  try clear hfz9_0
  try clear hfz9_1
  obtain ⟨kq, x19_2, rfl, HA, HJ2, BK577, BK578, HB⟩ := hcut
  cases kq with
  | zero => exact absurd HA.out (by simp [member_Count.j0])
  | succ kj2 =>
   have H := HA.out
   clear HA
   simp only [member_Count.j0] at H
   by_cases c13 : x19_2 = true
   ·subst c13
    have H1 : (some (0, 0, 1)) = some (r1, r2, r3) := by rw [if_pos rfl] at H; exact H
    clear H
    have H := H1
    clear H1
    simp only [Option.some.injEq, Prod.mk.injEq] at H
    obtain ⟨rfl, rfl, rfl⟩ := H
    have hnb14 := NB578_577.out
    have hnc14 := NB577_578.out
    have hcz15_0 : wc.cell? ⟨gb578, 0, none⟩ = some (.int .i64 0) := (blk_cell BK578.out 0).trans rfl
    have hcz15_1 : wc.cell? ⟨gb578, 1, none⟩ = some (.int .i64 0) := (blk_cell BK578.out 1).trans rfl
    have hfz15_0 := blk_frozen BK578.out 0
    have hfz15_1 := blk_frozen BK578.out 1
    go_wp2
    refine bodyPost_ret (results_ct rfl _ _ gb578 29 #[.int .i64 0, .int .i64 0] (0, 0) _ rfl (by (with_reducible repeat (first | refine blk_drewN ?_ _ | refine blk_drew ?_ | refine blk_alloc ?_ _)); refine blk_put (cs := #[.int .i64 0, .int .i64 0]) ?_ 1 _ rfl; (with_reducible repeat (first | refine blk_drewN ?_ _ | refine blk_drew ?_ | refine blk_alloc ?_ _)); refine blk_put (cs := #[.int .i64 0, .int .i64 0]) ?_ 0 _ rfl; (with_reducible repeat (first | refine blk_drewN ?_ _ | refine blk_drew ?_ | refine blk_alloc ?_ _)); exact BK578.out) Tryz.underlying29 rfl (by kernel_rfl)) rfl ?_
    exact ⟨by first | rfl | (simp [errW_none, errW_some] <;> rfl) | (simp [*, errW_none, errW_some] <;> rfl), by repeat (first | (with_reducible first | exact HB.out | apply below_alloc | apply pw_below_drewN | apply below_drew1 | refine below_set ?_ GE577.out | refine below_set ?_ GE578.out) | exact HB.out)⟩
   ·replace c13 := Bool.eq_false_iff.mpr c13
    subst c13
    have H1 : (if a1 = 0 then (some (a0_0, a0_1, 0)) else (if a1 = 1 then (member_Count.j1 kj2 a1 (a1 == 1) a0_0 a0_1) else (member_Count.j1 kj2 a1 (a1 == 2) a0_0 a0_1))) = some (r1, r2, r3) := by rw [if_neg (show ¬ (false = true) by decide)] at H; exact H
    clear H
    have H := H1
    clear H1
    by_cases c16 : a1 = 0
    ·rw [if_pos c16] at H
     have c16b0 : (a1 == 0) = true := beq_iff_eq.mpr c16
     have c16b1 : (a1 != 0) = false := bne_eq_false_iff_eq.mpr c16
     clear c16
     simp only [Option.some.injEq, Prod.mk.injEq] at H
     obtain ⟨rfl, rfl, rfl⟩ := H
     have hnb17 := NB577_578.out
     have hnc17 := NB578_577.out
     have hcz18_0 : wc.cell? ⟨gb577, 0, none⟩ = some (.int .i64 a0_0) := (blk_cell BK577.out 0).trans rfl
     have hcz18_1 : wc.cell? ⟨gb577, 1, none⟩ = some (.int .i64 a0_1) := (blk_cell BK577.out 1).trans rfl
     have hfz18_0 := blk_frozen BK577.out 0
     have hfz18_1 := blk_frozen BK577.out 1
     have hcz19_0 : wc.cell? ⟨gb578, 0, none⟩ = some (.int .i64 0) := (blk_cell BK578.out 0).trans rfl
     have hcz19_1 : wc.cell? ⟨gb578, 1, none⟩ = some (.int .i64 0) := (blk_cell BK578.out 1).trans rfl
     have hfz19_0 := blk_frozen BK578.out 0
     have hfz19_1 := blk_frozen BK578.out 1
     go_wp2
     refine bodyPost_ret (results_ct rfl _ _ gb578 29 #[.int .i64 a0_0, .int .i64 a0_1] (0, 0) _ rfl (by (with_reducible repeat (first | refine blk_drewN ?_ _ | refine blk_drew ?_ | refine blk_alloc ?_ _)); refine blk_put (cs := #[.int .i64 a0_0, .int .i64 0]) ?_ 1 _ rfl; (with_reducible repeat (first | refine blk_drewN ?_ _ | refine blk_drew ?_ | refine blk_alloc ?_ _)); refine blk_put (cs := #[.int .i64 0, .int .i64 0]) ?_ 0 _ rfl; (with_reducible repeat (first | refine blk_drewN ?_ _ | refine blk_drew ?_ | refine blk_alloc ?_ _)); exact BK578.out) Tryz.underlying29 rfl (by kernel_rfl)) rfl ?_
     exact ⟨by first | rfl | (simp [errW_none, errW_some] <;> rfl) | (simp [*, errW_none, errW_some] <;> rfl), by repeat (first | (with_reducible first | exact HB.out | apply below_alloc | apply pw_below_drewN | apply below_drew1 | refine below_set ?_ GE577.out | refine below_set ?_ GE578.out) | exact HB.out)⟩
    ·rw [if_neg c16] at H
     have c16b0 : (a1 == 0) = false := beq_eq_false_iff_ne.mpr c16
     have c16b1 : (a1 != 0) = true := bne_iff_ne.mpr c16
     have HC20 := asd H
     clear H
     go_upto_if 25 with (fail)
     go_cut [25] (fun v25 wc => ∃ (kq : Nat) (x25_19 : Bool), v25 = .bool x25_19 ∧ Aside0 (member_Count.j1 kq a1 x25_19 a0_0 a0_1 = some (r1, r2, r3)) ∧ Aside0 (kq ≤ kj2) ∧ Aside0 (wc.heap[gb577]? = some (.cells #[.int .i64 a0_0, .int .i64 a0_1] 29 (0, 0))) ∧ Aside0 (wc.heap[gb578]? = some (.cells #[.int .i64 0, .int .i64 0] 29 (0, 0))) ∧ Aside0 (Below w.heap.size w wc))
     case first =>
      have H := HC20.out
      clear HC20
      by_cases c21 : a1 = 1
      ·rw [if_pos c21] at H
       have c21b0 : (a1 == 1) = true := beq_iff_eq.mpr c21
       have c21b1 : (a1 != 1) = false := bne_eq_false_iff_eq.mpr c21
       clear c21
       (first | rw [c21b0] | (simp only [i64_w, i32_w]; rw [c21b0]) | skip)
       have H' := asd H
       clear H
       go_wp2
       go_meet
       case rel => exact ⟨_, ((a1 == 1)), (by first | rfl | (simp; done) | (simp [*]; done)), H', ⟨by have := HJ2.out; first | omega | exact Nat.le_refl _⟩, ⟨by (with_reducible repeat (first | refine blk_drewN ?_ _ | refine blk_drew ?_ | refine blk_alloc ?_ _)); exact BK577.out⟩, ⟨by (with_reducible repeat (first | refine blk_drewN ?_ _ | refine blk_drew ?_ | refine blk_alloc ?_ _)); exact BK578.out⟩, ⟨by repeat (first | (with_reducible first | exact HB.out | apply below_alloc | apply pw_below_drewN | apply below_drew1 | refine below_set ?_ GE577.out | refine below_set ?_ GE578.out) | exact HB.out)⟩⟩
      ·rw [if_neg c21] at H
       have c21b0 : (a1 == 1) = false := beq_eq_false_iff_ne.mpr c21
       have c21b1 : (a1 != 1) = true := bne_iff_ne.mpr c21
       (first | rw [c21b0] | (simp only [i64_w, i32_w]; rw [c21b0]) | skip)
       have H' := asd H
       clear H
       go_wp2
       go_meet
       case rel => exact ⟨_, ((a1 == 2)), (by first | rfl | (simp; done) | (simp [*]; done)), H', ⟨by have := HJ2.out; first | omega | exact Nat.le_refl _⟩, ⟨by (with_reducible repeat (first | refine blk_drewN ?_ _ | refine blk_drew ?_ | refine blk_alloc ?_ _)); exact BK577.out⟩, ⟨by (with_reducible repeat (first | refine blk_drewN ?_ _ | refine blk_drew ?_ | refine blk_alloc ?_ _)); exact BK578.out⟩, ⟨by repeat (first | (with_reducible first | exact HB.out | apply below_alloc | apply pw_below_drewN | apply below_drew1 | refine below_set ?_ GE577.out | refine below_set ?_ GE578.out) | exact HB.out)⟩⟩
     case rest =>
      clear HC20
      try clear c1
      try clear c2
      try clear p2
      try clear c7
      try clear c7b0
      try clear c8
      try clear c11
      try clear c13
      try clear c14
      try clear c16
      try clear c16b0
      try clear c16b1
      try clear c17
      try clear c21
      try clear c21b0
      try clear c21b1
      try clear hcz12_0
      try clear hcz12_1
      try clear hcz15_0
      try clear hcz15_1
      try clear hcz18_0
      try clear hcz18_1
      try clear hcz19_0
      try clear hcz19_1
      try clear hcz9_0
      try clear hcz9_1
      try clear hfz12_0
      try clear hfz12_1
      try clear hfz15_0
      try clear hfz15_1
      try clear hfz18_0
      try clear hfz18_1
      try clear hfz19_0
      try clear hfz19_1
      try clear hfz9_0
      try clear hfz9_1
      try clear p2
      obtain ⟨kq, x25_19, rfl, HA, HJ19, BK577, BK578, HB⟩ := hcut
      cases kq with
      | zero => exact absurd HA.out (by simp [member_Count.j1])
      | succ kj19 =>
       have H := HA.out
       clear HA
       simp only [member_Count.j1] at H
       by_cases c22 : x25_19 = true
       ·subst c22
        have H1 : (some (mn (wrap64 (a0_0 + 1)) 1073741824, a0_1, 0)) = some (r1, r2, r3) := by rw [if_pos rfl] at H; exact H
        clear H
        have H := H1
        clear H1
        obtain ⟨ji23, hji23⟩ : ∃ j_ : Int, (mn (wrap64 (a0_0 + 1)) 1073741824) = j_ := ⟨_, rfl⟩
        replace H : (some (ji23, a0_1, 0)) = some (r1, r2, r3) := by first | (rw [hji23] at H; exact H) | (simp only [hji23] at H ⊢; exact H)
        have hji23_ : (if 1073741824 < (wrap64 (a0_0 + 1)) then 1073741824 else (wrap64 (a0_0 + 1))) = ji23 := hji23
        simp only [Option.some.injEq, Prod.mk.injEq] at H
        obtain ⟨rfl, rfl, rfl⟩ := H
        have hnb24 := NB577_578.out
        have hnc24 := NB578_577.out
        have hcz25_0 : wc.cell? ⟨gb577, 0, none⟩ = some (.int .i64 a0_0) := (blk_cell BK577.out 0).trans rfl
        have hcz25_1 : wc.cell? ⟨gb577, 1, none⟩ = some (.int .i64 a0_1) := (blk_cell BK577.out 1).trans rfl
        have hfz25_0 := blk_frozen BK577.out 0
        have hfz25_1 := blk_frozen BK577.out 1
        have hcz26_0 : wc.cell? ⟨gb578, 0, none⟩ = some (.int .i64 0) := (blk_cell BK578.out 0).trans rfl
        have hcz26_1 : wc.cell? ⟨gb578, 1, none⟩ = some (.int .i64 0) := (blk_cell BK578.out 1).trans rfl
        have hfz26_0 := blk_frozen BK578.out 0
        have hfz26_1 := blk_frozen BK578.out 1
        go_wp2
        refine bodyPost_ret (results_ct rfl _ _ gb578 29 #[.int .i64 ji23, .int .i64 a0_1] (0, 0) _ rfl (by (with_reducible repeat (first | refine blk_drewN ?_ _ | refine blk_drew ?_ | refine blk_alloc ?_ _)); refine blk_put (cs := #[.int .i64 ji23, .int .i64 0]) ?_ 1 _ rfl; (with_reducible repeat (first | refine blk_drewN ?_ _ | refine blk_drew ?_ | refine blk_alloc ?_ _)); refine blk_put (cs := #[.int .i64 0, .int .i64 0]) ?_ 0 _ rfl; (with_reducible repeat (first | refine blk_drewN ?_ _ | refine blk_drew ?_ | refine blk_alloc ?_ _)); refine blk_far ?_ NB578_577.out _; (with_reducible repeat (first | refine blk_drewN ?_ _ | refine blk_drew ?_ | refine blk_alloc ?_ _)); exact BK578.out) Tryz.underlying29 rfl (by kernel_rfl)) rfl ?_
        exact ⟨by first | rfl | (simp [errW_none, errW_some] <;> rfl) | (simp only [← hji23]; first | rfl | (simp [errW_none, errW_some] <;> rfl)) | (simp [*, errW_none, errW_some] <;> rfl), by repeat (first | (with_reducible first | exact HB.out | apply below_alloc | apply pw_below_drewN | apply below_drew1 | refine below_set ?_ GE577.out | refine below_set ?_ GE578.out) | exact HB.out)⟩
       ·replace c22 := Bool.eq_false_iff.mpr c22
        subst c22
        have H1 : (if a1 = 3 then (some (a0_0, mn (wrap64 (a0_1 + 1)) 1073741824, 0)) else (some (0, 0, 1))) = some (r1, r2, r3) := by rw [if_neg (show ¬ (false = true) by decide)] at H; exact H
        clear H
        have H := H1
        clear H1
        by_cases c27 : a1 = 3
        ·rw [if_pos c27] at H
         have c27b0 : (a1 == 3) = true := beq_iff_eq.mpr c27
         have c27b1 : (a1 != 3) = false := bne_eq_false_iff_eq.mpr c27
         clear c27
         obtain ⟨ji28, hji28⟩ : ∃ j_ : Int, (mn (wrap64 (a0_1 + 1)) 1073741824) = j_ := ⟨_, rfl⟩
         replace H : (some (a0_0, ji28, 0)) = some (r1, r2, r3) := by first | (rw [hji28] at H; exact H) | (simp only [hji28] at H ⊢; exact H)
         have hji28_ : (if 1073741824 < (wrap64 (a0_1 + 1)) then 1073741824 else (wrap64 (a0_1 + 1))) = ji28 := hji28
         simp only [Option.some.injEq, Prod.mk.injEq] at H
         obtain ⟨rfl, rfl, rfl⟩ := H
         have hnb29 := NB577_578.out
         have hnc29 := NB578_577.out
         have hcz30_0 : wc.cell? ⟨gb577, 0, none⟩ = some (.int .i64 a0_0) := (blk_cell BK577.out 0).trans rfl
         have hcz30_1 : wc.cell? ⟨gb577, 1, none⟩ = some (.int .i64 a0_1) := (blk_cell BK577.out 1).trans rfl
         have hfz30_0 := blk_frozen BK577.out 0
         have hfz30_1 := blk_frozen BK577.out 1
         have hcz31_0 : wc.cell? ⟨gb578, 0, none⟩ = some (.int .i64 0) := (blk_cell BK578.out 0).trans rfl
         have hcz31_1 : wc.cell? ⟨gb578, 1, none⟩ = some (.int .i64 0) := (blk_cell BK578.out 1).trans rfl
         have hfz31_0 := blk_frozen BK578.out 0
         have hfz31_1 := blk_frozen BK578.out 1
         go_wp2
         refine bodyPost_ret (results_ct rfl _ _ gb578 29 #[.int .i64 a0_0, .int .i64 ji28] (0, 0) _ rfl (by (with_reducible repeat (first | refine blk_drewN ?_ _ | refine blk_drew ?_ | refine blk_alloc ?_ _)); refine blk_put (cs := #[.int .i64 a0_0, .int .i64 0]) ?_ 1 _ rfl; (with_reducible repeat (first | refine blk_drewN ?_ _ | refine blk_drew ?_ | refine blk_alloc ?_ _)); refine blk_put (cs := #[.int .i64 0, .int .i64 0]) ?_ 0 _ rfl; (with_reducible repeat (first | refine blk_drewN ?_ _ | refine blk_drew ?_ | refine blk_alloc ?_ _)); refine blk_far ?_ NB578_577.out _; (with_reducible repeat (first | refine blk_drewN ?_ _ | refine blk_drew ?_ | refine blk_alloc ?_ _)); exact BK578.out) Tryz.underlying29 rfl (by kernel_rfl)) rfl ?_
         exact ⟨by first | rfl | (simp [errW_none, errW_some] <;> rfl) | (simp only [← hji28]; first | rfl | (simp [errW_none, errW_some] <;> rfl)) | (simp [*, errW_none, errW_some] <;> rfl), by repeat (first | (with_reducible first | exact HB.out | apply below_alloc | apply pw_below_drewN | apply below_drew1 | refine below_set ?_ GE577.out | refine below_set ?_ GE578.out) | exact HB.out)⟩
        ·rw [if_neg c27] at H
         have c27b0 : (a1 == 3) = false := beq_eq_false_iff_ne.mpr c27
         have c27b1 : (a1 != 3) = true := bne_iff_ne.mpr c27
         simp only [Option.some.injEq, Prod.mk.injEq] at H
         obtain ⟨rfl, rfl, rfl⟩ := H
         have hnb32 := NB578_577.out
         have hnc32 := NB577_578.out
         have hcz33_0 : wc.cell? ⟨gb578, 0, none⟩ = some (.int .i64 0) := (blk_cell BK578.out 0).trans rfl
         have hcz33_1 : wc.cell? ⟨gb578, 1, none⟩ = some (.int .i64 0) := (blk_cell BK578.out 1).trans rfl
         have hfz33_0 := blk_frozen BK578.out 0
         have hfz33_1 := blk_frozen BK578.out 1
         go_wp2
         refine bodyPost_ret (results_ct rfl _ _ gb578 29 #[.int .i64 0, .int .i64 0] (0, 0) _ rfl (by (with_reducible repeat (first | refine blk_drewN ?_ _ | refine blk_drew ?_ | refine blk_alloc ?_ _)); refine blk_put (cs := #[.int .i64 0, .int .i64 0]) ?_ 1 _ rfl; (with_reducible repeat (first | refine blk_drewN ?_ _ | refine blk_drew ?_ | refine blk_alloc ?_ _)); refine blk_put (cs := #[.int .i64 0, .int .i64 0]) ?_ 0 _ rfl; (with_reducible repeat (first | refine blk_drewN ?_ _ | refine blk_drew ?_ | refine blk_alloc ?_ _)); exact BK578.out) Tryz.underlying29 rfl (by kernel_rfl)) rfl ?_
         exact ⟨by first | rfl | (simp [errW_none, errW_some] <;> rfl) | (simp [*, errW_none, errW_some] <;> rfl), by repeat (first | (with_reducible first | exact HB.out | apply below_alloc | apply pw_below_drewN | apply below_drew1 | refine below_set ?_ GE577.out | refine below_set ?_ GE578.out) | exact HB.out)⟩

-- NOT PRINTED: function 41 (node_run_judges)

end Go.Proofs.YtcofclkgfandfaaGreat.Print
