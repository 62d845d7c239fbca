-- PRINTED by print.py (a twelfth state) out of the translation. Not trusted: Lean checks it.
import Derived.Test.YtcanccdhedmdmaaPrint0
import Derived.Test.YtcanccdhedmdmaaPrint2
import Derived.Test.YtcanccdhedmdmaaPrint4
namespace Go.Proofs.Ytcanccdhedmdmaa.Print
open Go.RowKit Go.Proofs.YtcanccdhedmdmaaW.PrintWords Go.Proofs.YtcanccdhedmdmaaW.PrintLast Go.Proofs.YtcanccdhedmdmaaW.PrintMore Go.Proofs.YtcanccdhedmdmaaX
attribute [local go_sem] max2_int min2_int max_two min_two max_three min_three max_four min_four   -- for this text's walks alone
set_option linter.unusedVariables false
set_option linter.unusedSimpArgs false

/-! ### member_Judge: function 14 -/
mutual
def member_Judge.j0 : Nat → Int → Int → Int → Int → Int → Int → Int → Int → Int → Int → Option (Int × Int)
 | 0, _, _, _, _, _, _, _, _, _, _ => none
 | k + 1, x1, x2, x3, x13, x115000, x115001, x115002, x115003, x119000, x119001 => if x13 = 0 then ((frame_With.f x2 x119001).bind fun t120 => (if x115001 = x119001 then (member_Judge.j1 k x1 x2 t120 (x115002 != x3) x115000 x115001 x115002 x115003 x119000 x119001) else (member_Judge.j1 k x1 x2 t120 true x115000 x115001 x115002 x115003 x119000 x119001))) else (some (0, 1))
def member_Judge.j1 : Nat → Int → Int → Int → Bool → Int → Int → Int → Int → Int → Int → Option (Int × Int)
 | 0, _, _, _, _, _, _, _, _, _, _ => none
 | k + 1, x1, x2, x14, x32, x115000, x115001, x115002, x115003, x119000, x119001 => if x32 = true then (some (3, 0)) else (if x115003 = x14 then (some (1, 0)) else (if x119000 = x119001 then (some (3, 0)) else ((frame_Has.f x2 x1).bind fun t121 => (if t121 = true then ((frame_Without.f x14 x1).bind fun t122 => (if x115003 = t122 then (some (2, 0)) else (some (3, 0)))) else (some (3, 0))))))
end
def member_Judge.f (k : Nat) (a0_0 : Int) (a0_1 : Int) (a0_2 : Int) (a0_3 : Int) (a0_4 : Int) (a1 : Int) (a2 : Int) (a3 : Int) (a4_0 : Int) (a4_1 : Int) (a4_2 : Int) (a4_3 : Int) : Option (Int × Int) := (member_sit.f a0_0 a0_1 a0_2 a0_3 a0_4 a1 a3).bind fun bt115 => (if bt115.2.2 = 0 then ((frame_Check.f k a4_0 a4_1 a4_2 a4_3).bind fun t119 => (member_Judge.j0 k a1 a2 a3 t119 a4_0 a4_1 a4_2 a4_3 bt115.1 bt115.2.1)) else (member_Judge.j0 k a1 a2 a3 bt115.2.2 a4_0 a4_1 a4_2 a4_3 bt115.1 bt115.2.1))
theorem member_Judge.mono_l : ∀ k, (∀ y0 y1 y2 y3 y4 y5 y6 y7 y8 y9, LeO (member_Judge.j0 k y0 y1 y2 y3 y4 y5 y6 y7 y8 y9) (member_Judge.j0 (k + 1) y0 y1 y2 y3 y4 y5 y6 y7 y8 y9)) ∧ (∀ y0 y1 y2 y3 y4 y5 y6 y7 y8 y9, LeO (member_Judge.j1 k y0 y1 y2 y3 y4 y5 y6 y7 y8 y9) (member_Judge.j1 (k + 1) y0 y1 y2 y3 y4 y5 y6 y7 y8 y9))
 | 0 => ⟨fun _ _ _ _ _ _ _ _ _ _ r h => by simp [member_Judge.j0] at h, fun _ _ _ _ _ _ _ _ _ _ r h => by simp [member_Judge.j1] at h⟩
 | k + 1 => by
  obtain ⟨ih0, ih1⟩ := member_Judge.mono_l k
  refine ⟨?_, ?_⟩
  ·intro y0 y1 y2 y3 y4 y5 y6 y7 y8 y9
   unfold member_Judge.j0
   repeat' first
   | (with_reducible exact ih0 _ _ _ _ _ _ _ _ _ _)
   | (with_reducible exact ih1 _ _ _ _ _ _ _ _ _ _)
   | (with_reducible exact frame_Check.mono _ _ _ _ _)
   | (with_reducible exact LeO.refl _)
   | (with_reducible exact LeO.none _)
   | (with_reducible refine LeO.ite ?_ ?_)
   | (with_reducible refine LeO.bind ?_ (fun _ => ?_))
   | exact ih0 _ _ _ _ _ _ _ _ _ _
   | exact ih1 _ _ _ _ _ _ _ _ _ _
   | exact frame_Check.mono _ _ _ _ _
   | exact LeO.none _
   | refine LeO.ite ?_ ?_
   | refine LeO.bind ?_ (fun _ => ?_)
  ·intro y0 y1 y2 y3 y4 y5 y6 y7 y8 y9
   unfold member_Judge.j1
   repeat' first
   | (with_reducible exact ih0 _ _ _ _ _ _ _ _ _ _)
   | (with_reducible exact ih1 _ _ _ _ _ _ _ _ _ _)
   | (with_reducible exact frame_Check.mono _ _ _ _ _)
   | (with_reducible exact LeO.refl _)
   | (with_reducible exact LeO.none _)
   | (with_reducible refine LeO.ite ?_ ?_)
   | (with_reducible refine LeO.bind ?_ (fun _ => ?_))
   | exact ih0 _ _ _ _ _ _ _ _ _ _
   | exact ih1 _ _ _ _ _ _ _ _ _ _
   | exact frame_Check.mono _ _ _ _ _
   | exact LeO.none _
   | refine LeO.ite ?_ ?_
   | refine LeO.bind ?_ (fun _ => ?_)
theorem member_Judge.mono : ∀ a0 a1 a2 a3 a4 a5 a6 a7 a8 a9 a10 a11 k, LeO (member_Judge.f k a0 a1 a2 a3 a4 a5 a6 a7 a8 a9 a10 a11) (member_Judge.f (k + 1) a0 a1 a2 a3 a4 a5 a6 a7 a8 a9 a10 a11) := by
 intro a0 a1 a2 a3 a4 a5 a6 a7 a8 a9 a10 a11 k
 obtain ⟨ih0, ih1⟩ := member_Judge.mono_l k
 unfold member_Judge.f
 repeat' first
   | (with_reducible exact ih0 _ _ _ _ _ _ _ _ _ _)
   | (with_reducible exact ih1 _ _ _ _ _ _ _ _ _ _)
   | (with_reducible exact frame_Check.mono _ _ _ _ _)
   | (with_reducible exact LeO.refl _)
   | (with_reducible exact LeO.none _)
   | (with_reducible refine LeO.ite ?_ ?_)
   | (with_reducible refine LeO.bind ?_ (fun _ => ?_))
   | exact ih0 _ _ _ _ _ _ _ _ _ _
   | exact ih1 _ _ _ _ _ _ _ _ _ _
   | exact frame_Check.mono _ _ _ _ _
   | exact LeO.none _
   | refine LeO.ite ?_ ?_
   | refine LeO.bind ?_ (fun _ => ?_)
set_option maxHeartbeats 8000000 in
set_option maxRecDepth 100000 in
theorem member_Judge.calls (k : Nat) (a0_0 : Int) (a0_1 : Int) (a0_2 : Int) (a0_3 : Int) (a0_4 : Int) (a1 : Int) (a2 : Int) (a3 : Int) (a4_0 : Int) (a4_1 : Int) (a4_2 : Int) (a4_3 : Int) (r1 : Int) (r2 : Int) (w : World) (h : member_Judge.f k a0_0 a0_1 a0_2 a0_3 a0_4 a1 a2 a3 a4_0 a4_1 a4_2 a4_3 = some (r1, r2)) :
  Calls Try.prog 14 #[.agg #[.int .i64 a0_0, .int .i64 a0_1, .int .i64 a0_2, .int .i64 a0_3, .int .i64 a0_4], .int .i64 a1, .int .u16 a2, .int .u64 a3, .agg #[.int .i64 a4_0, .int .i64 a4_1, .int .u64 a4_2, .int .u16 a4_3]] w fun e w' => e = .returned (.tuple #[.int .i64 r1, .int .i64 r2]) ∧ Below w.heap.size w w' := by
 have hu32 := Try.underlying32
 have hu36 := Try.underlying36
 have hu57 := Try.underlying57
 have HB := Aside0.mk (Below.refl w.heap.size w)
 have H : ((member_sit.f a0_0 a0_1 a0_2 a0_3 a0_4 a1 a3).bind fun bt115 => (if bt115.2.2 = 0 then ((frame_Check.f k a4_0 a4_1 a4_2 a4_3).bind fun t119 => (member_Judge.j0 k a1 a2 a3 t119 a4_0 a4_1 a4_2 a4_3 bt115.1 bt115.2.1)) else (member_Judge.j0 k a1 a2 a3 bt115.2.2 a4_0 a4_1 a4_2 a4_3 bt115.1 bt115.2.1))) = some (r1, r2) := h
 clear h
 replace H := Option.bind_eq_some_iff.mp H
 obtain ⟨⟨t115, t116, t117⟩, A60, H⟩ := H
 replace H : (if t117 = 0 then ((frame_Check.f k a4_0 a4_1 a4_2 a4_3).bind fun t119 => (member_Judge.j0 k a1 a2 a3 t119 a4_0 a4_1 a4_2 a4_3 t115 t116)) else (member_Judge.j0 k a1 a2 a3 t117 a4_0 a4_1 a4_2 a4_3 t115 t116)) = some (r1, r2) := H
 have A6 := Aside0.mk A60
 clear A60
 have HC7 := Aside0.mk H
 clear H
 go_enter Try.func14, Try.ntmps14
 go_upto_if 23 with (first | ((with_reducible refine gate_dst (N := 5) rfl ?_); refine box_event ?hg (N := 5) ?hd (cs := #[.int .i64 a0_0, .int .i64 a0_1, .int .i64 a0_2, .int .i64 a0_3, .int .i64 a0_4]) (t := 32) ?hr ?_; (case hd => rfl); (case hg => rfl); (case hr => first | (go_simp; done) | (go_simp; rfl)); intro gb113 hg w8 hbox hb; have n0_ := Aside0.mk (below_step (by repeat (first | (with_reducible first | exact HB.out | apply below_alloc | apply pw_below_drewN | apply below_drew1) | exact HB.out)) hb); have n1_ := Aside0.mk (hbox); have n2_ := Aside0.mk ((by rw [hg]; exact (below_size (by repeat (first | (with_reducible first | exact HB.out | apply below_alloc | apply pw_below_drewN | apply below_drew1) | exact HB.out))) : w.heap.size ≤ gb113)); have n3_ := Aside0.mk ((by rw [hg]; exact (below_size (by repeat (first | (with_reducible first | exact HB.out | apply below_alloc | apply pw_below_drewN | apply below_drew1) | exact HB.out))) : w.heap.size ≤ gb113)); clear HB; have HB := n0_; have BK113 := n1_; have GW113 := n2_; have GE113 := n3_; clear n0_ n1_ n2_ n3_; clear hb hbox hg) | ((with_reducible refine gate_dst (N := 9) rfl ?_); refine box_event ?hg (N := 9) ?hd (cs := #[.int .i64 a4_0, .int .i64 a4_1, .int .u64 a4_2, .int .u16 a4_3]) (t := 36) ?hr ?_; (case hd => rfl); (case hg => rfl); (case hr => first | (go_simp; done) | (go_simp; rfl)); intro gb114 hg w9 hbox hb; have n0_ := Aside0.mk (blk_below (g := gb113) (o := .cells #[.int .i64 a0_0, .int .i64 a0_1, .int .i64 a0_2, .int .i64 a0_3, .int .i64 a0_4] 32 (0, 0)) (by (with_reducible repeat (first | refine blk_drewN ?_ _ | refine blk_drew ?_ | refine blk_alloc ?_ _)); exact BK113.out) hb); have n1_ := Aside0.mk (below_step (by repeat (first | (with_reducible first | exact HB.out | apply below_alloc | apply pw_below_drewN | apply below_drew1 | refine below_set ?_ GE113.out) | exact HB.out)) hb); have n2_ := Aside0.mk (hbox); have n3_ := Aside0.mk ((by rw [hg]; exact (below_size (by repeat (first | (with_reducible first | exact HB.out | apply below_alloc | apply pw_below_drewN | apply below_drew1 | refine below_set ?_ GE113.out) | exact HB.out))) : w.heap.size ≤ gb114)); have n4_ := Aside0.mk ((by rw [hg]; exact (below_size (by repeat (first | (with_reducible first | exact HB.out | apply below_alloc | apply pw_below_drewN | apply below_drew1 | refine below_set ?_ GE113.out) | exact HB.out))) : w.heap.size ≤ gb114)); have n5_ := Aside0.mk ((by rw [hg]; exact Nat.ne_of_lt (blk_lt (g := gb113) (o := .cells #[.int .i64 a0_0, .int .i64 a0_1, .int .i64 a0_2, .int .i64 a0_3, .int .i64 a0_4] 32 (0, 0)) (by (with_reducible repeat (first | refine blk_drewN ?_ _ | refine blk_drew ?_ | refine blk_alloc ?_ _)); exact BK113.out)) : gb113 ≠ gb114)); have n6_ := Aside0.mk ((by rw [hg]; exact Nat.ne_of_gt (blk_lt (g := gb113) (o := .cells #[.int .i64 a0_0, .int .i64 a0_1, .int .i64 a0_2, .int .i64 a0_3, .int .i64 a0_4] 32 (0, 0)) (by (with_reducible repeat (first | refine blk_drewN ?_ _ | refine blk_drew ?_ | refine blk_alloc ?_ _)); exact BK113.out)) : gb114 ≠ gb113)); clear BK113; clear HB; have BK113 := n0_; have HB := n1_; have BK114 := n2_; have GW114 := n3_; have GE114 := n4_; have NB113_114 := n5_; have NB114_113 := n6_; clear n0_ n1_ n2_ n3_ n4_ n5_ n6_; clear hb hbox hg; have hnb10 := NB113_114.out; have hnc10 := NB114_113.out; have hcz11_0 : w9.cell? ⟨gb113, 0, none⟩ = some (.int .i64 a0_0) := (blk_cell BK113.out 0).trans rfl; have hcz11_1 : w9.cell? ⟨gb113, 1, none⟩ = some (.int .i64 a0_1) := (blk_cell BK113.out 1).trans rfl; have hcz11_2 : w9.cell? ⟨gb113, 2, none⟩ = some (.int .i64 a0_2) := (blk_cell BK113.out 2).trans rfl; have hcz11_3 : w9.cell? ⟨gb113, 3, none⟩ = some (.int .i64 a0_3) := (blk_cell BK113.out 3).trans rfl; have hcz11_4 : w9.cell? ⟨gb113, 4, none⟩ = some (.int .i64 a0_4) := (blk_cell BK113.out 4).trans rfl; have hfz11_0 := blk_frozen BK113.out 0; have hfz11_1 := blk_frozen BK113.out 1; have hfz11_2 := blk_frozen BK113.out 2; have hfz11_3 := blk_frozen BK113.out 3; have hfz11_4 := blk_frozen BK113.out 4) | (go_at_call 28; (with_reducible refine (member_sit.calls a0_0 a0_1 a0_2 a0_3 a0_4 a1 a3 t115 t116 t117 _ A6.out).mono ?_); rintro e w12 ⟨rfl, hb⟩; have n0_ := Aside0.mk (blk_below (g := gb113) (o := .cells #[.int .i64 a0_0, .int .i64 a0_1, .int .i64 a0_2, .int .i64 a0_3, .int .i64 a0_4] 32 (0, 0)) (by (with_reducible repeat (first | refine blk_drewN ?_ _ | refine blk_drew ?_ | refine blk_alloc ?_ _)); exact BK113.out) hb); have n1_ := Aside0.mk (blk_below (g := gb114) (o := .cells #[.int .i64 a4_0, .int .i64 a4_1, .int .u64 a4_2, .int .u16 a4_3] 36 (0, 0)) (by (with_reducible repeat (first | refine blk_drewN ?_ _ | refine blk_drew ?_ | refine blk_alloc ?_ _)); exact BK114.out) hb); have n2_ := Aside0.mk (below_step (by repeat (first | (with_reducible first | exact HB.out | apply below_alloc | apply pw_below_drewN | apply below_drew1 | refine below_set ?_ GE113.out | refine below_set ?_ GE114.out) | exact HB.out)) hb); clear BK113; clear BK114; clear HB; have BK113 := n0_; have BK114 := n1_; have HB := n2_; clear n0_ n1_ n2_; (try clear hb); (try clear hb2); (try clear hk); (try clear hi)) | ((with_reducible refine gate_dst (N := 12) rfl ?_); refine box_event ?hg (N := 12) ?hd (cs := #[.int .i64 0, .int .i64 0]) (t := 57) ?hr ?_; (case hd => rfl); (case hg => rfl); (case hr => first | (go_simp; done) | (go_simp; rfl)); intro gb118 hg w13 hbox hb; have n0_ := Aside0.mk (blk_below (g := gb113) (o := .cells #[.int .i64 a0_0, .int .i64 a0_1, .int .i64 a0_2, .int .i64 a0_3, .int .i64 a0_4] 32 (0, 0)) (by (with_reducible repeat (first | refine blk_drewN ?_ _ | refine blk_drew ?_ | refine blk_alloc ?_ _)); exact BK113.out) hb); have n1_ := Aside0.mk (blk_below (g := gb114) (o := .cells #[.int .i64 a4_0, .int .i64 a4_1, .int .u64 a4_2, .int .u16 a4_3] 36 (0, 0)) (by (with_reducible repeat (first | refine blk_drewN ?_ _ | refine blk_drew ?_ | refine blk_alloc ?_ _)); exact BK114.out) hb); have n2_ := Aside0.mk (below_step (by repeat (first | (with_reducible first | exact HB.out | apply below_alloc | apply pw_below_drewN | apply below_drew1 | refine below_set ?_ GE113.out | refine below_set ?_ GE114.out) | exact HB.out)) hb); have n3_ := Aside0.mk (hbox); have n4_ := Aside0.mk ((by rw [hg]; exact (below_size (by repeat (first | (with_reducible first | exact HB.out | apply below_alloc | apply pw_below_drewN | apply below_drew1 | refine below_set ?_ GE113.out | refine below_set ?_ GE114.out) | exact HB.out))) : w.heap.size ≤ gb118)); have n5_ := Aside0.mk ((by rw [hg]; exact (below_size (by repeat (first | (with_reducible first | exact HB.out | apply below_alloc | apply pw_below_drewN | apply below_drew1 | refine below_set ?_ GE113.out | refine below_set ?_ GE114.out) | exact HB.out))) : w.heap.size ≤ gb118)); have n6_ := Aside0.mk ((by rw [hg]; exact Nat.ne_of_lt (blk_lt (g := gb113) (o := .cells #[.int .i64 a0_0, .int .i64 a0_1, .int .i64 a0_2, .int .i64 a0_3, .int .i64 a0_4] 32 (0, 0)) (by (with_reducible repeat (first | refine blk_drewN ?_ _ | refine blk_drew ?_ | refine blk_alloc ?_ _)); exact BK113.out)) : gb113 ≠ gb118)); have n7_ := Aside0.mk ((by rw [hg]; exact Nat.ne_of_gt (blk_lt (g := gb113) (o := .cells #[.int .i64 a0_0, .int .i64 a0_1, .int .i64 a0_2, .int .i64 a0_3, .int .i64 a0_4] 32 (0, 0)) (by (with_reducible repeat (first | refine blk_drewN ?_ _ | refine blk_drew ?_ | refine blk_alloc ?_ _)); exact BK113.out)) : gb118 ≠ gb113)); have n8_ := Aside0.mk ((by rw [hg]; exact Nat.ne_of_lt (blk_lt (g := gb114) (o := .cells #[.int .i64 a4_0, .int .i64 a4_1, .int .u64 a4_2, .int .u16 a4_3] 36 (0, 0)) (by (with_reducible repeat (first | refine blk_drewN ?_ _ | refine blk_drew ?_ | refine blk_alloc ?_ _)); exact BK114.out)) : gb114 ≠ gb118)); have n9_ := Aside0.mk ((by rw [hg]; exact Nat.ne_of_gt (blk_lt (g := gb114) (o := .cells #[.int .i64 a4_0, .int .i64 a4_1, .int .u64 a4_2, .int .u16 a4_3] 36 (0, 0)) (by (with_reducible repeat (first | refine blk_drewN ?_ _ | refine blk_drew ?_ | refine blk_alloc ?_ _)); exact BK114.out)) : gb118 ≠ gb114)); clear BK113; clear BK114; clear HB; have BK113 := n0_; have BK114 := n1_; have HB := n2_; have BK118 := n3_; have GW118 := n4_; have GE118 := n5_; have NB113_118 := n6_; have NB118_113 := n7_; have NB114_118 := n8_; have NB118_114 := n9_; clear n0_ n1_ n2_ n3_ n4_ n5_ n6_ n7_ n8_ n9_; clear hb hbox hg; have hnb14 := NB118_113.out; have hnc14 := NB113_118.out; have hnb15 := NB118_114.out; have hnc15 := NB114_118.out; have hcz16_0 : w13.cell? ⟨gb118, 0, none⟩ = some (.int .i64 0) := (blk_cell BK118.out 0).trans rfl; have hcz16_1 : w13.cell? ⟨gb118, 1, none⟩ = some (.int .i64 0) := (blk_cell BK118.out 1).trans rfl; have hfz16_0 := blk_frozen BK118.out 0; have hfz16_1 := blk_frozen BK118.out 1))
 repeat (go_quiet (first | ((with_reducible refine gate_dst (N := 5) rfl ?_); refine box_event ?hg (N := 5) ?hd (cs := #[.int .i64 a0_0, .int .i64 a0_1, .int .i64 a0_2, .int .i64 a0_3, .int .i64 a0_4]) (t := 32) ?hr ?_; (case hd => rfl); (case hg => rfl); (case hr => first | (go_simp; done) | (go_simp; rfl)); intro gb113 hg w8 hbox hb; have n0_ := Aside0.mk (below_step (by repeat (first | (with_reducible first | exact HB.out | apply below_alloc | apply pw_below_drewN | apply below_drew1) | exact HB.out)) hb); have n1_ := Aside0.mk (hbox); have n2_ := Aside0.mk ((by rw [hg]; exact (below_size (by repeat (first | (with_reducible first | exact HB.out | apply below_alloc | apply pw_below_drewN | apply below_drew1) | exact HB.out))) : w.heap.size ≤ gb113)); have n3_ := Aside0.mk ((by rw [hg]; exact (below_size (by repeat (first | (with_reducible first | exact HB.out | apply below_alloc | apply pw_below_drewN | apply below_drew1) | exact HB.out))) : w.heap.size ≤ gb113)); clear HB; have HB := n0_; have BK113 := n1_; have GW113 := n2_; have GE113 := n3_; clear n0_ n1_ n2_ n3_; clear hb hbox hg) | ((with_reducible refine gate_dst (N := 9) rfl ?_); refine box_event ?hg (N := 9) ?hd (cs := #[.int .i64 a4_0, .int .i64 a4_1, .int .u64 a4_2, .int .u16 a4_3]) (t := 36) ?hr ?_; (case hd => rfl); (case hg => rfl); (case hr => first | (go_simp; done) | (go_simp; rfl)); intro gb114 hg w9 hbox hb; have n0_ := Aside0.mk (blk_below (g := gb113) (o := .cells #[.int .i64 a0_0, .int .i64 a0_1, .int .i64 a0_2, .int .i64 a0_3, .int .i64 a0_4] 32 (0, 0)) (by (with_reducible repeat (first | refine blk_drewN ?_ _ | refine blk_drew ?_ | refine blk_alloc ?_ _)); exact BK113.out) hb); have n1_ := Aside0.mk (below_step (by repeat (first | (with_reducible first | exact HB.out | apply below_alloc | apply pw_below_drewN | apply below_drew1 | refine below_set ?_ GE113.out) | exact HB.out)) hb); have n2_ := Aside0.mk (hbox); have n3_ := Aside0.mk ((by rw [hg]; exact (below_size (by repeat (first | (with_reducible first | exact HB.out | apply below_alloc | apply pw_below_drewN | apply below_drew1 | refine below_set ?_ GE113.out) | exact HB.out))) : w.heap.size ≤ gb114)); have n4_ := Aside0.mk ((by rw [hg]; exact (below_size (by repeat (first | (with_reducible first | exact HB.out | apply below_alloc | apply pw_below_drewN | apply below_drew1 | refine below_set ?_ GE113.out) | exact HB.out))) : w.heap.size ≤ gb114)); have n5_ := Aside0.mk ((by rw [hg]; exact Nat.ne_of_lt (blk_lt (g := gb113) (o := .cells #[.int .i64 a0_0, .int .i64 a0_1, .int .i64 a0_2, .int .i64 a0_3, .int .i64 a0_4] 32 (0, 0)) (by (with_reducible repeat (first | refine blk_drewN ?_ _ | refine blk_drew ?_ | refine blk_alloc ?_ _)); exact BK113.out)) : gb113 ≠ gb114)); have n6_ := Aside0.mk ((by rw [hg]; exact Nat.ne_of_gt (blk_lt (g := gb113) (o := .cells #[.int .i64 a0_0, .int .i64 a0_1, .int .i64 a0_2, .int .i64 a0_3, .int .i64 a0_4] 32 (0, 0)) (by (with_reducible repeat (first | refine blk_drewN ?_ _ | refine blk_drew ?_ | refine blk_alloc ?_ _)); exact BK113.out)) : gb114 ≠ gb113)); clear BK113; clear HB; have BK113 := n0_; have HB := n1_; have BK114 := n2_; have GW114 := n3_; have GE114 := n4_; have NB113_114 := n5_; have NB114_113 := n6_; clear n0_ n1_ n2_ n3_ n4_ n5_ n6_; clear hb hbox hg; have hnb10 := NB113_114.out; have hnc10 := NB114_113.out; have hcz11_0 : w9.cell? ⟨gb113, 0, none⟩ = some (.int .i64 a0_0) := (blk_cell BK113.out 0).trans rfl; have hcz11_1 : w9.cell? ⟨gb113, 1, none⟩ = some (.int .i64 a0_1) := (blk_cell BK113.out 1).trans rfl; have hcz11_2 : w9.cell? ⟨gb113, 2, none⟩ = some (.int .i64 a0_2) := (blk_cell BK113.out 2).trans rfl; have hcz11_3 : w9.cell? ⟨gb113, 3, none⟩ = some (.int .i64 a0_3) := (blk_cell BK113.out 3).trans rfl; have hcz11_4 : w9.cell? ⟨gb113, 4, none⟩ = some (.int .i64 a0_4) := (blk_cell BK113.out 4).trans rfl; have hfz11_0 := blk_frozen BK113.out 0; have hfz11_1 := blk_frozen BK113.out 1; have hfz11_2 := blk_frozen BK113.out 2; have hfz11_3 := blk_frozen BK113.out 3; have hfz11_4 := blk_frozen BK113.out 4) | (go_at_call 28; (with_reducible refine (member_sit.calls a0_0 a0_1 a0_2 a0_3 a0_4 a1 a3 t115 t116 t117 _ A6.out).mono ?_); rintro e w12 ⟨rfl, hb⟩; have n0_ := Aside0.mk (blk_below (g := gb113) (o := .cells #[.int .i64 a0_0, .int .i64 a0_1, .int .i64 a0_2, .int .i64 a0_3, .int .i64 a0_4] 32 (0, 0)) (by (with_reducible repeat (first | refine blk_drewN ?_ _ | refine blk_drew ?_ | refine blk_alloc ?_ _)); exact BK113.out) hb); have n1_ := Aside0.mk (blk_below (g := gb114) (o := .cells #[.int .i64 a4_0, .int .i64 a4_1, .int .u64 a4_2, .int .u16 a4_3] 36 (0, 0)) (by (with_reducible repeat (first | refine blk_drewN ?_ _ | refine blk_drew ?_ | refine blk_alloc ?_ _)); exact BK114.out) hb); have n2_ := Aside0.mk (below_step (by repeat (first | (with_reducible first | exact HB.out | apply below_alloc | apply pw_below_drewN | apply below_drew1 | refine below_set ?_ GE113.out | refine below_set ?_ GE114.out) | exact HB.out)) hb); clear BK113; clear BK114; clear HB; have BK113 := n0_; have BK114 := n1_; have HB := n2_; clear n0_ n1_ n2_; (try clear hb); (try clear hb2); (try clear hk); (try clear hi)) | ((with_reducible refine gate_dst (N := 12) rfl ?_); refine box_event ?hg (N := 12) ?hd (cs := #[.int .i64 0, .int .i64 0]) (t := 57) ?hr ?_; (case hd => rfl); (case hg => rfl); (case hr => first | (go_simp; done) | (go_simp; rfl)); intro gb118 hg w13 hbox hb; have n0_ := Aside0.mk (blk_below (g := gb113) (o := .cells #[.int .i64 a0_0, .int .i64 a0_1, .int .i64 a0_2, .int .i64 a0_3, .int .i64 a0_4] 32 (0, 0)) (by (with_reducible repeat (first | refine blk_drewN ?_ _ | refine blk_drew ?_ | refine blk_alloc ?_ _)); exact BK113.out) hb); have n1_ := Aside0.mk (blk_below (g := gb114) (o := .cells #[.int .i64 a4_0, .int .i64 a4_1, .int .u64 a4_2, .int .u16 a4_3] 36 (0, 0)) (by (with_reducible repeat (first | refine blk_drewN ?_ _ | refine blk_drew ?_ | refine blk_alloc ?_ _)); exact BK114.out) hb); have n2_ := Aside0.mk (below_step (by repeat (first | (with_reducible first | exact HB.out | apply below_alloc | apply pw_below_drewN | apply below_drew1 | refine below_set ?_ GE113.out | refine below_set ?_ GE114.out) | exact HB.out)) hb); have n3_ := Aside0.mk (hbox); have n4_ := Aside0.mk ((by rw [hg]; exact (below_size (by repeat (first | (with_reducible first | exact HB.out | apply below_alloc | apply pw_below_drewN | apply below_drew1 | refine below_set ?_ GE113.out | refine below_set ?_ GE114.out) | exact HB.out))) : w.heap.size ≤ gb118)); have n5_ := Aside0.mk ((by rw [hg]; exact (below_size (by repeat (first | (with_reducible first | exact HB.out | apply below_alloc | apply pw_below_drewN | apply below_drew1 | refine below_set ?_ GE113.out | refine below_set ?_ GE114.out) | exact HB.out))) : w.heap.size ≤ gb118)); have n6_ := Aside0.mk ((by rw [hg]; exact Nat.ne_of_lt (blk_lt (g := gb113) (o := .cells #[.int .i64 a0_0, .int .i64 a0_1, .int .i64 a0_2, .int .i64 a0_3, .int .i64 a0_4] 32 (0, 0)) (by (with_reducible repeat (first | refine blk_drewN ?_ _ | refine blk_drew ?_ | refine blk_alloc ?_ _)); exact BK113.out)) : gb113 ≠ gb118)); have n7_ := Aside0.mk ((by rw [hg]; exact Nat.ne_of_gt (blk_lt (g := gb113) (o := .cells #[.int .i64 a0_0, .int .i64 a0_1, .int .i64 a0_2, .int .i64 a0_3, .int .i64 a0_4] 32 (0, 0)) (by (with_reducible repeat (first | refine blk_drewN ?_ _ | refine blk_drew ?_ | refine blk_alloc ?_ _)); exact BK113.out)) : gb118 ≠ gb113)); have n8_ := Aside0.mk ((by rw [hg]; exact Nat.ne_of_lt (blk_lt (g := gb114) (o := .cells #[.int .i64 a4_0, .int .i64 a4_1, .int .u64 a4_2, .int .u16 a4_3] 36 (0, 0)) (by (with_reducible repeat (first | refine blk_drewN ?_ _ | refine blk_drew ?_ | refine blk_alloc ?_ _)); exact BK114.out)) : gb114 ≠ gb118)); have n9_ := Aside0.mk ((by rw [hg]; exact Nat.ne_of_gt (blk_lt (g := gb114) (o := .cells #[.int .i64 a4_0, .int .i64 a4_1, .int .u64 a4_2, .int .u16 a4_3] 36 (0, 0)) (by (with_reducible repeat (first | refine blk_drewN ?_ _ | refine blk_drew ?_ | refine blk_alloc ?_ _)); exact BK114.out)) : gb118 ≠ gb114)); clear BK113; clear BK114; clear HB; have BK113 := n0_; have BK114 := n1_; have HB := n2_; have BK118 := n3_; have GW118 := n4_; have GE118 := n5_; have NB113_118 := n6_; have NB118_113 := n7_; have NB114_118 := n8_; have NB118_114 := n9_; clear n0_ n1_ n2_ n3_ n4_ n5_ n6_ n7_ n8_ n9_; clear hb hbox hg; have hnb14 := NB118_113.out; have hnc14 := NB113_118.out; have hnb15 := NB118_114.out; have hnc15 := NB114_118.out; have hcz16_0 : w13.cell? ⟨gb118, 0, none⟩ = some (.int .i64 0) := (blk_cell BK118.out 0).trans rfl; have hcz16_1 : w13.cell? ⟨gb118, 1, none⟩ = some (.int .i64 0) := (blk_cell BK118.out 1).trans rfl; have hfz16_0 := blk_frozen BK118.out 0; have hfz16_1 := blk_frozen BK118.out 1)); go_upto_if 23 with (first | ((with_reducible refine gate_dst (N := 5) rfl ?_); refine box_event ?hg (N := 5) ?hd (cs := #[.int .i64 a0_0, .int .i64 a0_1, .int .i64 a0_2, .int .i64 a0_3, .int .i64 a0_4]) (t := 32) ?hr ?_; (case hd => rfl); (case hg => rfl); (case hr => first | (go_simp; done) | (go_simp; rfl)); intro gb113 hg w8 hbox hb; have n0_ := Aside0.mk (below_step (by repeat (first | (with_reducible first | exact HB.out | apply below_alloc | apply pw_below_drewN | apply below_drew1) | exact HB.out)) hb); have n1_ := Aside0.mk (hbox); have n2_ := Aside0.mk ((by rw [hg]; exact (below_size (by repeat (first | (with_reducible first | exact HB.out | apply below_alloc | apply pw_below_drewN | apply below_drew1) | exact HB.out))) : w.heap.size ≤ gb113)); have n3_ := Aside0.mk ((by rw [hg]; exact (below_size (by repeat (first | (with_reducible first | exact HB.out | apply below_alloc | apply pw_below_drewN | apply below_drew1) | exact HB.out))) : w.heap.size ≤ gb113)); clear HB; have HB := n0_; have BK113 := n1_; have GW113 := n2_; have GE113 := n3_; clear n0_ n1_ n2_ n3_; clear hb hbox hg) | ((with_reducible refine gate_dst (N := 9) rfl ?_); refine box_event ?hg (N := 9) ?hd (cs := #[.int .i64 a4_0, .int .i64 a4_1, .int .u64 a4_2, .int .u16 a4_3]) (t := 36) ?hr ?_; (case hd => rfl); (case hg => rfl); (case hr => first | (go_simp; done) | (go_simp; rfl)); intro gb114 hg w9 hbox hb; have n0_ := Aside0.mk (blk_below (g := gb113) (o := .cells #[.int .i64 a0_0, .int .i64 a0_1, .int .i64 a0_2, .int .i64 a0_3, .int .i64 a0_4] 32 (0, 0)) (by (with_reducible repeat (first | refine blk_drewN ?_ _ | refine blk_drew ?_ | refine blk_alloc ?_ _)); exact BK113.out) hb); have n1_ := Aside0.mk (below_step (by repeat (first | (with_reducible first | exact HB.out | apply below_alloc | apply pw_below_drewN | apply below_drew1 | refine below_set ?_ GE113.out) | exact HB.out)) hb); have n2_ := Aside0.mk (hbox); have n3_ := Aside0.mk ((by rw [hg]; exact (below_size (by repeat (first | (with_reducible first | exact HB.out | apply below_alloc | apply pw_below_drewN | apply below_drew1 | refine below_set ?_ GE113.out) | exact HB.out))) : w.heap.size ≤ gb114)); have n4_ := Aside0.mk ((by rw [hg]; exact (below_size (by repeat (first | (with_reducible first | exact HB.out | apply below_alloc | apply pw_below_drewN | apply below_drew1 | refine below_set ?_ GE113.out) | exact HB.out))) : w.heap.size ≤ gb114)); have n5_ := Aside0.mk ((by rw [hg]; exact Nat.ne_of_lt (blk_lt (g := gb113) (o := .cells #[.int .i64 a0_0, .int .i64 a0_1, .int .i64 a0_2, .int .i64 a0_3, .int .i64 a0_4] 32 (0, 0)) (by (with_reducible repeat (first | refine blk_drewN ?_ _ | refine blk_drew ?_ | refine blk_alloc ?_ _)); exact BK113.out)) : gb113 ≠ gb114)); have n6_ := Aside0.mk ((by rw [hg]; exact Nat.ne_of_gt (blk_lt (g := gb113) (o := .cells #[.int .i64 a0_0, .int .i64 a0_1, .int .i64 a0_2, .int .i64 a0_3, .int .i64 a0_4] 32 (0, 0)) (by (with_reducible repeat (first | refine blk_drewN ?_ _ | refine blk_drew ?_ | refine blk_alloc ?_ _)); exact BK113.out)) : gb114 ≠ gb113)); clear BK113; clear HB; have BK113 := n0_; have HB := n1_; have BK114 := n2_; have GW114 := n3_; have GE114 := n4_; have NB113_114 := n5_; have NB114_113 := n6_; clear n0_ n1_ n2_ n3_ n4_ n5_ n6_; clear hb hbox hg; have hnb10 := NB113_114.out; have hnc10 := NB114_113.out; have hcz11_0 : w9.cell? ⟨gb113, 0, none⟩ = some (.int .i64 a0_0) := (blk_cell BK113.out 0).trans rfl; have hcz11_1 : w9.cell? ⟨gb113, 1, none⟩ = some (.int .i64 a0_1) := (blk_cell BK113.out 1).trans rfl; have hcz11_2 : w9.cell? ⟨gb113, 2, none⟩ = some (.int .i64 a0_2) := (blk_cell BK113.out 2).trans rfl; have hcz11_3 : w9.cell? ⟨gb113, 3, none⟩ = some (.int .i64 a0_3) := (blk_cell BK113.out 3).trans rfl; have hcz11_4 : w9.cell? ⟨gb113, 4, none⟩ = some (.int .i64 a0_4) := (blk_cell BK113.out 4).trans rfl; have hfz11_0 := blk_frozen BK113.out 0; have hfz11_1 := blk_frozen BK113.out 1; have hfz11_2 := blk_frozen BK113.out 2; have hfz11_3 := blk_frozen BK113.out 3; have hfz11_4 := blk_frozen BK113.out 4) | (go_at_call 28; (with_reducible refine (member_sit.calls a0_0 a0_1 a0_2 a0_3 a0_4 a1 a3 t115 t116 t117 _ A6.out).mono ?_); rintro e w12 ⟨rfl, hb⟩; have n0_ := Aside0.mk (blk_below (g := gb113) (o := .cells #[.int .i64 a0_0, .int .i64 a0_1, .int .i64 a0_2, .int .i64 a0_3, .int .i64 a0_4] 32 (0, 0)) (by (with_reducible repeat (first | refine blk_drewN ?_ _ | refine blk_drew ?_ | refine blk_alloc ?_ _)); exact BK113.out) hb); have n1_ := Aside0.mk (blk_below (g := gb114) (o := .cells #[.int .i64 a4_0, .int .i64 a4_1, .int .u64 a4_2, .int .u16 a4_3] 36 (0, 0)) (by (with_reducible repeat (first | refine blk_drewN ?_ _ | refine blk_drew ?_ | refine blk_alloc ?_ _)); exact BK114.out) hb); have n2_ := Aside0.mk (below_step (by repeat (first | (with_reducible first | exact HB.out | apply below_alloc | apply pw_below_drewN | apply below_drew1 | refine below_set ?_ GE113.out | refine below_set ?_ GE114.out) | exact HB.out)) hb); clear BK113; clear BK114; clear HB; have BK113 := n0_; have BK114 := n1_; have HB := n2_; clear n0_ n1_ n2_; (try clear hb); (try clear hb2); (try clear hk); (try clear hi)) | ((with_reducible refine gate_dst (N := 12) rfl ?_); refine box_event ?hg (N := 12) ?hd (cs := #[.int .i64 0, .int .i64 0]) (t := 57) ?hr ?_; (case hd => rfl); (case hg => rfl); (case hr => first | (go_simp; done) | (go_simp; rfl)); intro gb118 hg w13 hbox hb; have n0_ := Aside0.mk (blk_below (g := gb113) (o := .cells #[.int .i64 a0_0, .int .i64 a0_1, .int .i64 a0_2, .int .i64 a0_3, .int .i64 a0_4] 32 (0, 0)) (by (with_reducible repeat (first | refine blk_drewN ?_ _ | refine blk_drew ?_ | refine blk_alloc ?_ _)); exact BK113.out) hb); have n1_ := Aside0.mk (blk_below (g := gb114) (o := .cells #[.int .i64 a4_0, .int .i64 a4_1, .int .u64 a4_2, .int .u16 a4_3] 36 (0, 0)) (by (with_reducible repeat (first | refine blk_drewN ?_ _ | refine blk_drew ?_ | refine blk_alloc ?_ _)); exact BK114.out) hb); have n2_ := Aside0.mk (below_step (by repeat (first | (with_reducible first | exact HB.out | apply below_alloc | apply pw_below_drewN | apply below_drew1 | refine below_set ?_ GE113.out | refine below_set ?_ GE114.out) | exact HB.out)) hb); have n3_ := Aside0.mk (hbox); have n4_ := Aside0.mk ((by rw [hg]; exact (below_size (by repeat (first | (with_reducible first | exact HB.out | apply below_alloc | apply pw_below_drewN | apply below_drew1 | refine below_set ?_ GE113.out | refine below_set ?_ GE114.out) | exact HB.out))) : w.heap.size ≤ gb118)); have n5_ := Aside0.mk ((by rw [hg]; exact (below_size (by repeat (first | (with_reducible first | exact HB.out | apply below_alloc | apply pw_below_drewN | apply below_drew1 | refine below_set ?_ GE113.out | refine below_set ?_ GE114.out) | exact HB.out))) : w.heap.size ≤ gb118)); have n6_ := Aside0.mk ((by rw [hg]; exact Nat.ne_of_lt (blk_lt (g := gb113) (o := .cells #[.int .i64 a0_0, .int .i64 a0_1, .int .i64 a0_2, .int .i64 a0_3, .int .i64 a0_4] 32 (0, 0)) (by (with_reducible repeat (first | refine blk_drewN ?_ _ | refine blk_drew ?_ | refine blk_alloc ?_ _)); exact BK113.out)) : gb113 ≠ gb118)); have n7_ := Aside0.mk ((by rw [hg]; exact Nat.ne_of_gt (blk_lt (g := gb113) (o := .cells #[.int .i64 a0_0, .int .i64 a0_1, .int .i64 a0_2, .int .i64 a0_3, .int .i64 a0_4] 32 (0, 0)) (by (with_reducible repeat (first | refine blk_drewN ?_ _ | refine blk_drew ?_ | refine blk_alloc ?_ _)); exact BK113.out)) : gb118 ≠ gb113)); have n8_ := Aside0.mk ((by rw [hg]; exact Nat.ne_of_lt (blk_lt (g := gb114) (o := .cells #[.int .i64 a4_0, .int .i64 a4_1, .int .u64 a4_2, .int .u16 a4_3] 36 (0, 0)) (by (with_reducible repeat (first | refine blk_drewN ?_ _ | refine blk_drew ?_ | refine blk_alloc ?_ _)); exact BK114.out)) : gb114 ≠ gb118)); have n9_ := Aside0.mk ((by rw [hg]; exact Nat.ne_of_gt (blk_lt (g := gb114) (o := .cells #[.int .i64 a4_0, .int .i64 a4_1, .int .u64 a4_2, .int .u16 a4_3] 36 (0, 0)) (by (with_reducible repeat (first | refine blk_drewN ?_ _ | refine blk_drew ?_ | refine blk_alloc ?_ _)); exact BK114.out)) : gb118 ≠ gb114)); clear BK113; clear BK114; clear HB; have BK113 := n0_; have BK114 := n1_; have HB := n2_; have BK118 := n3_; have GW118 := n4_; have GE118 := n5_; have NB113_118 := n6_; have NB118_113 := n7_; have NB114_118 := n8_; have NB118_114 := n9_; clear n0_ n1_ n2_ n3_ n4_ n5_ n6_ n7_ n8_ n9_; clear hb hbox hg; have hnb14 := NB118_113.out; have hnc14 := NB113_118.out; have hnb15 := NB118_114.out; have hnc15 := NB114_118.out; have hcz16_0 : w13.cell? ⟨gb118, 0, none⟩ = some (.int .i64 0) := (blk_cell BK118.out 0).trans rfl; have hcz16_1 : w13.cell? ⟨gb118, 1, none⟩ = some (.int .i64 0) := (blk_cell BK118.out 1).trans rfl; have hfz16_0 := blk_frozen BK118.out 0; have hfz16_1 := blk_frozen BK118.out 1)))
 (try simp only [Act.put, List.setIfInBounds_toArray, List.set_cons_zero, List.set_cons_succ])
 go_cut [13] (fun v13 wc => ∃ (kq : Nat) (x13_6 : Int), v13 = .int .i64 x13_6 ∧ Aside0 (member_Judge.j0 kq a1 a2 a3 x13_6 a4_0 a4_1 a4_2 a4_3 t115 t116 = some (r1, r2)) ∧ Aside0 (kq ≤ k) ∧ Aside0 (wc.heap[gb113]? = some (.cells #[.int .i64 a0_0, .int .i64 a0_1, .int .i64 a0_2, .int .i64 a0_3, .int .i64 a0_4] 32 (0, 0))) ∧ Aside0 (wc.heap[gb114]? = some (.cells #[.int .i64 a4_0, .int .i64 a4_1, .int .u64 a4_2, .int .u16 a4_3] 36 (0, 0))) ∧ Aside0 (wc.heap[gb118]? = some (.cells #[.int .i64 t115, .int .i64 t116] 57 (0, 0))) ∧ Aside0 (Below w.heap.size w wc))
 case first =>
  have H := HC7.out
  clear HC7
  by_cases c17 : t117 = 0
  ·rw [if_pos c17] at H
   have c17b0 : (t117 == 0) = true := beq_iff_eq.mpr c17
   have c17b1 : (t117 != 0) = false := bne_eq_false_iff_eq.mpr c17
   clear c17
   (first | rw [c17b0] | (simp only [i64_w, i32_w]; rw [c17b0]) | skip)
   replace H := Option.bind_eq_some_iff.mp H
   obtain ⟨t119, A180, H⟩ := H
   replace H : (member_Judge.j0 k a1 a2 a3 t119 a4_0 a4_1 a4_2 a4_3 t115 t116) = some (r1, r2) := H
   have A18 := Aside0.mk A180
   clear A180
   have H' := Aside0.mk H
   clear H
   have hnb19 := NB114_113.out
   have hnc19 := NB113_114.out
   have hnb20 := NB114_118.out
   have hnc20 := NB118_114.out
   have hcz21_0 : w13.cell? ⟨gb114, 0, none⟩ = some (.int .i64 a4_0) := (blk_cell BK114.out 0).trans rfl
   have hcz21_1 : w13.cell? ⟨gb114, 1, none⟩ = some (.int .i64 a4_1) := (blk_cell BK114.out 1).trans rfl
   have hcz21_2 : w13.cell? ⟨gb114, 2, none⟩ = some (.int .u64 a4_2) := (blk_cell BK114.out 2).trans rfl
   have hcz21_3 : w13.cell? ⟨gb114, 3, none⟩ = some (.int .u16 a4_3) := (blk_cell BK114.out 3).trans rfl
   have hfz21_0 := blk_frozen BK114.out 0
   have hfz21_1 := blk_frozen BK114.out 1
   have hfz21_2 := blk_frozen BK114.out 2
   have hfz21_3 := blk_frozen BK114.out 3
   go_wp2_with (first | (go_at_call 29; (with_reducible refine (frame_Check.calls k a4_0 a4_1 a4_2 a4_3 t119 _ A18.out).mono ?_); rintro e w22 ⟨rfl, hb⟩; have n0_ := Aside0.mk (blk_below (g := gb113) (o := .cells #[.int .i64 a0_0, .int .i64 a0_1, .int .i64 a0_2, .int .i64 a0_3, .int .i64 a0_4] 32 (0, 0)) (by (with_reducible repeat (first | refine blk_drewN ?_ _ | refine blk_drew ?_ | refine blk_alloc ?_ _)); refine blk_far ?_ NB113_118.out _; (with_reducible repeat (first | refine blk_drewN ?_ _ | refine blk_drew ?_ | refine blk_alloc ?_ _)); refine blk_far ?_ NB113_118.out _; (with_reducible repeat (first | refine blk_drewN ?_ _ | refine blk_drew ?_ | refine blk_alloc ?_ _)); exact BK113.out) hb); have n1_ := Aside0.mk (blk_below (g := gb114) (o := .cells #[.int .i64 a4_0, .int .i64 a4_1, .int .u64 a4_2, .int .u16 a4_3] 36 (0, 0)) (by (with_reducible repeat (first | refine blk_drewN ?_ _ | refine blk_drew ?_ | refine blk_alloc ?_ _)); refine blk_far ?_ NB114_118.out _; (with_reducible repeat (first | refine blk_drewN ?_ _ | refine blk_drew ?_ | refine blk_alloc ?_ _)); refine blk_far ?_ NB114_118.out _; (with_reducible repeat (first | refine blk_drewN ?_ _ | refine blk_drew ?_ | refine blk_alloc ?_ _)); exact BK114.out) hb); have n2_ := Aside0.mk (blk_below (g := gb118) (o := .cells #[.int .i64 t115, .int .i64 t116] 57 (0, 0)) (by (with_reducible repeat (first | refine blk_drewN ?_ _ | refine blk_drew ?_ | refine blk_alloc ?_ _)); refine blk_put (cs := #[.int .i64 t115, .int .i64 0]) ?_ 1 _ rfl; (with_reducible repeat (first | refine blk_drewN ?_ _ | refine blk_drew ?_ | refine blk_alloc ?_ _)); refine blk_put (cs := #[.int .i64 0, .int .i64 0]) ?_ 0 _ rfl; (with_reducible repeat (first | refine blk_drewN ?_ _ | refine blk_drew ?_ | refine blk_alloc ?_ _)); exact BK118.out) hb); have n3_ := Aside0.mk (below_step (by repeat (first | (with_reducible first | exact HB.out | apply below_alloc | apply pw_below_drewN | apply below_drew1 | refine below_set ?_ GE113.out | refine below_set ?_ GE114.out | refine below_set ?_ GE118.out) | exact HB.out)) hb); clear BK113; clear BK114; clear BK118; clear HB; have BK113 := n0_; have BK114 := n1_; have BK118 := n2_; have HB := n3_; clear n0_ n1_ n2_ n3_; (try clear hb); (try clear hb2); (try clear hk); (try clear hi)))
   repeat (go_quiet (first | (go_at_call 29; (with_reducible refine (frame_Check.calls k a4_0 a4_1 a4_2 a4_3 t119 _ A18.out).mono ?_); rintro e w22 ⟨rfl, hb⟩; have n0_ := Aside0.mk (blk_below (g := gb113) (o := .cells #[.int .i64 a0_0, .int .i64 a0_1, .int .i64 a0_2, .int .i64 a0_3, .int .i64 a0_4] 32 (0, 0)) (by (with_reducible repeat (first | refine blk_drewN ?_ _ | refine blk_drew ?_ | refine blk_alloc ?_ _)); refine blk_far ?_ NB113_118.out _; (with_reducible repeat (first | refine blk_drewN ?_ _ | refine blk_drew ?_ | refine blk_alloc ?_ _)); refine blk_far ?_ NB113_118.out _; (with_reducible repeat (first | refine blk_drewN ?_ _ | refine blk_drew ?_ | refine blk_alloc ?_ _)); exact BK113.out) hb); have n1_ := Aside0.mk (blk_below (g := gb114) (o := .cells #[.int .i64 a4_0, .int .i64 a4_1, .int .u64 a4_2, .int .u16 a4_3] 36 (0, 0)) (by (with_reducible repeat (first | refine blk_drewN ?_ _ | refine blk_drew ?_ | refine blk_alloc ?_ _)); refine blk_far ?_ NB114_118.out _; (with_reducible repeat (first | refine blk_drewN ?_ _ | refine blk_drew ?_ | refine blk_alloc ?_ _)); refine blk_far ?_ NB114_118.out _; (with_reducible repeat (first | refine blk_drewN ?_ _ | refine blk_drew ?_ | refine blk_alloc ?_ _)); exact BK114.out) hb); have n2_ := Aside0.mk (blk_below (g := gb118) (o := .cells #[.int .i64 t115, .int .i64 t116] 57 (0, 0)) (by (with_reducible repeat (first | refine blk_drewN ?_ _ | refine blk_drew ?_ | refine blk_alloc ?_ _)); refine blk_put (cs := #[.int .i64 t115, .int .i64 0]) ?_ 1 _ rfl; (with_reducible repeat (first | refine blk_drewN ?_ _ | refine blk_drew ?_ | refine blk_alloc ?_ _)); refine blk_put (cs := #[.int .i64 0, .int .i64 0]) ?_ 0 _ rfl; (with_reducible repeat (first | refine blk_drewN ?_ _ | refine blk_drew ?_ | refine blk_alloc ?_ _)); exact BK118.out) hb); have n3_ := Aside0.mk (below_step (by repeat (first | (with_reducible first | exact HB.out | apply below_alloc | apply pw_below_drewN | apply below_drew1 | refine below_set ?_ GE113.out | refine below_set ?_ GE114.out | refine below_set ?_ GE118.out) | exact HB.out)) hb); clear BK113; clear BK114; clear BK118; clear HB; have BK113 := n0_; have BK114 := n1_; have BK118 := n2_; have HB := n3_; clear n0_ n1_ n2_ n3_; (try clear hb); (try clear hb2); (try clear hk); (try clear hi))); try go_wp2_with (first | (go_at_call 29; (with_reducible refine (frame_Check.calls k a4_0 a4_1 a4_2 a4_3 t119 _ A18.out).mono ?_); rintro e w22 ⟨rfl, hb⟩; have n0_ := Aside0.mk (blk_below (g := gb113) (o := .cells #[.int .i64 a0_0, .int .i64 a0_1, .int .i64 a0_2, .int .i64 a0_3, .int .i64 a0_4] 32 (0, 0)) (by (with_reducible repeat (first | refine blk_drewN ?_ _ | refine blk_drew ?_ | refine blk_alloc ?_ _)); refine blk_far ?_ NB113_118.out _; (with_reducible repeat (first | refine blk_drewN ?_ _ | refine blk_drew ?_ | refine blk_alloc ?_ _)); refine blk_far ?_ NB113_118.out _; (with_reducible repeat (first | refine blk_drewN ?_ _ | refine blk_drew ?_ | refine blk_alloc ?_ _)); exact BK113.out) hb); have n1_ := Aside0.mk (blk_below (g := gb114) (o := .cells #[.int .i64 a4_0, .int .i64 a4_1, .int .u64 a4_2, .int .u16 a4_3] 36 (0, 0)) (by (with_reducible repeat (first | refine blk_drewN ?_ _ | refine blk_drew ?_ | refine blk_alloc ?_ _)); refine blk_far ?_ NB114_118.out _; (with_reducible repeat (first | refine blk_drewN ?_ _ | refine blk_drew ?_ | refine blk_alloc ?_ _)); refine blk_far ?_ NB114_118.out _; (with_reducible repeat (first | refine blk_drewN ?_ _ | refine blk_drew ?_ | refine blk_alloc ?_ _)); exact BK114.out) hb); have n2_ := Aside0.mk (blk_below (g := gb118) (o := .cells #[.int .i64 t115, .int .i64 t116] 57 (0, 0)) (by (with_reducible repeat (first | refine blk_drewN ?_ _ | refine blk_drew ?_ | refine blk_alloc ?_ _)); refine blk_put (cs := #[.int .i64 t115, .int .i64 0]) ?_ 1 _ rfl; (with_reducible repeat (first | refine blk_drewN ?_ _ | refine blk_drew ?_ | refine blk_alloc ?_ _)); refine blk_put (cs := #[.int .i64 0, .int .i64 0]) ?_ 0 _ rfl; (with_reducible repeat (first | refine blk_drewN ?_ _ | refine blk_drew ?_ | refine blk_alloc ?_ _)); exact BK118.out) hb); have n3_ := Aside0.mk (below_step (by repeat (first | (with_reducible first | exact HB.out | apply below_alloc | apply pw_below_drewN | apply below_drew1 | refine below_set ?_ GE113.out | refine below_set ?_ GE114.out | refine below_set ?_ GE118.out) | exact HB.out)) hb); clear BK113; clear BK114; clear BK118; clear HB; have BK113 := n0_; have BK114 := n1_; have BK118 := n2_; have HB := n3_; clear n0_ n1_ n2_ n3_; (try clear hb); (try clear hb2); (try clear hk); (try clear hi))))
   go_meet
   case rel => exact ⟨_, (t119), (by first | rfl | (simp; done) | (simp [*]; done)), H', ⟨by first | omega | exact Nat.le_refl _⟩, ⟨by (with_reducible repeat (first | refine blk_drewN ?_ _ | refine blk_drew ?_ | refine blk_alloc ?_ _)); exact BK113.out⟩, ⟨by (with_reducible repeat (first | refine blk_drewN ?_ _ | refine blk_drew ?_ | refine blk_alloc ?_ _)); exact BK114.out⟩, ⟨by (with_reducible repeat (first | refine blk_drewN ?_ _ | refine blk_drew ?_ | refine blk_alloc ?_ _)); exact BK118.out⟩, ⟨by repeat (first | (with_reducible first | exact HB.out | apply below_alloc | apply pw_below_drewN | apply below_drew1 | refine below_set ?_ GE113.out | refine below_set ?_ GE114.out | refine below_set ?_ GE118.out) | exact HB.out)⟩⟩
  ·rw [if_neg c17] at H
   have c17b0 : (t117 == 0) = false := beq_eq_false_iff_ne.mpr c17
   have c17b1 : (t117 != 0) = true := bne_iff_ne.mpr c17
   (first | rw [c17b0] | (simp only [i64_w, i32_w]; rw [c17b0]) | skip)
   have H' := Aside0.mk H
   clear H
   go_wp2
   repeat (go_quiet (fail); try go_wp2)
   go_meet
   case rel => exact ⟨_, (t117), (by first | rfl | (simp; done) | (simp [*]; done)), H', ⟨by first | omega | exact Nat.le_refl _⟩, ⟨by (with_reducible repeat (first | refine blk_drewN ?_ _ | refine blk_drew ?_ | refine blk_alloc ?_ _)); refine blk_far ?_ NB113_118.out _; (with_reducible repeat (first | refine blk_drewN ?_ _ | refine blk_drew ?_ | refine blk_alloc ?_ _)); refine blk_far ?_ NB113_118.out _; (with_reducible repeat (first | refine blk_drewN ?_ _ | refine blk_drew ?_ | refine blk_alloc ?_ _)); exact BK113.out⟩, ⟨by (with_reducible repeat (first | refine blk_drewN ?_ _ | refine blk_drew ?_ | refine blk_alloc ?_ _)); refine blk_far ?_ NB114_118.out _; (with_reducible repeat (first | refine blk_drewN ?_ _ | refine blk_drew ?_ | refine blk_alloc ?_ _)); refine blk_far ?_ NB114_118.out _; (with_reducible repeat (first | refine blk_drewN ?_ _ | refine blk_drew ?_ | refine blk_alloc ?_ _)); exact BK114.out⟩, ⟨by (with_reducible repeat (first | refine blk_drewN ?_ _ | refine blk_drew ?_ | refine blk_alloc ?_ _)); refine blk_put (cs := #[.int .i64 t115, .int .i64 0]) ?_ 1 _ rfl; (with_reducible repeat (first | refine blk_drewN ?_ _ | refine blk_drew ?_ | refine blk_alloc ?_ _)); refine blk_put (cs := #[.int .i64 0, .int .i64 0]) ?_ 0 _ rfl; (with_reducible repeat (first | refine blk_drewN ?_ _ | refine blk_drew ?_ | refine blk_alloc ?_ _)); exact BK118.out⟩, ⟨by repeat (first | (with_reducible first | exact HB.out | apply below_alloc | apply pw_below_drewN | apply below_drew1 | refine below_set ?_ GE113.out | refine below_set ?_ GE114.out | refine below_set ?_ GE118.out) | exact HB.out)⟩⟩
 case rest =>
  clear HC7
  try clear c1
  try clear c2
  try clear p2
  try clear c10
  try clear c14
  try clear c15
  try clear c17
  try clear c17b0
  try clear c17b1
  try clear c19
  try clear c20
  try clear hcz11_0
  try clear hcz11_1
  try clear hcz11_2
  try clear hcz11_3
  try clear hcz11_4
  try clear hcz16_0
  try clear hcz16_1
  try clear hcz21_0
  try clear hcz21_1
  try clear hcz21_2
  try clear hcz21_3
  try clear hfz11_0
  try clear hfz11_1
  try clear hfz11_2
  try clear hfz11_3
  try clear hfz11_4
  try clear hfz16_0
  try clear hfz16_1
  try clear hfz21_0
  try clear hfz21_1
  try clear hfz21_2
  try clear hfz21_3
  obtain ⟨kq, x13_6, rfl, HA, HJ6, BK113, BK114, BK118, HB⟩ := hcut
  cases kq with
  | zero => exact absurd HA.out (by simp [member_Judge.j0])
  | succ kj6 =>
   have H := HA.out
   clear HA
   simp only [member_Judge.j0] at H
   by_cases c23 : x13_6 = 0
   ·rw [if_pos c23] at H
    have c23b0 : (x13_6 == 0) = true := beq_iff_eq.mpr c23
    have c23b1 : (x13_6 != 0) = false := bne_eq_false_iff_eq.mpr c23
    clear c23
    replace H := Option.bind_eq_some_iff.mp H
    obtain ⟨t120, A240, H⟩ := H
    replace H : (if a4_1 = t116 then (member_Judge.j1 kj6 a1 a2 t120 (a4_2 != a3) a4_0 a4_1 a4_2 a4_3 t115 t116) else (member_Judge.j1 kj6 a1 a2 t120 true a4_0 a4_1 a4_2 a4_3 t115 t116)) = some (r1, r2) := H
    have A24 := Aside0.mk A240
    clear A240
    have HC25 := Aside0.mk H
    clear H
    have hnb26 := NB118_113.out
    have hnc26 := NB113_118.out
    have hnb27 := NB118_114.out
    have hnc27 := NB114_118.out
    have hcz28_0 : wc.cell? ⟨gb118, 0, none⟩ = some (.int .i64 t115) := (blk_cell BK118.out 0).trans rfl
    have hcz28_1 : wc.cell? ⟨gb118, 1, none⟩ = some (.int .i64 t116) := (blk_cell BK118.out 1).trans rfl
    have hfz28_0 := blk_frozen BK118.out 0
    have hfz28_1 := blk_frozen BK118.out 1
    go_upto_region 7 with (first | (go_at_call 17; (with_reducible refine (frame_With.calls a2 t116 t120 _ A24.out).mono ?_); rintro e w' ⟨rfl, ⟨nd, rfl⟩⟩; (try first | exact ⟨rfl, _, World.drewN_drewN _ _ _⟩ | exact ⟨rfl, _, Eq.trans (World.drewN_drewN _ _ _) (congrArg (World.drewN _) (Nat.add_assoc _ _ _))⟩)))
    repeat (go_quiet (first | (go_at_call 17; (with_reducible refine (frame_With.calls a2 t116 t120 _ A24.out).mono ?_); rintro e w' ⟨rfl, ⟨nd, rfl⟩⟩; (try first | exact ⟨rfl, _, World.drewN_drewN _ _ _⟩ | exact ⟨rfl, _, Eq.trans (World.drewN_drewN _ _ _) (congrArg (World.drewN _) (Nat.add_assoc _ _ _))⟩))); go_upto_region 7 with (first | (go_at_call 17; (with_reducible refine (frame_With.calls a2 t116 t120 _ A24.out).mono ?_); rintro e w' ⟨rfl, ⟨nd, rfl⟩⟩; (try first | exact ⟨rfl, _, World.drewN_drewN _ _ _⟩ | exact ⟨rfl, _, Eq.trans (World.drewN_drewN _ _ _) (congrArg (World.drewN _) (Nat.add_assoc _ _ _))⟩))))
    (try simp only [Act.put, List.setIfInBounds_toArray, List.set_cons_zero, List.set_cons_succ])
    go_cut [32] (fun v32 wc => ∃ (kq : Nat) (x32_24 : Bool), v32 = .bool x32_24 ∧ Aside0 (member_Judge.j1 kq a1 a2 t120 x32_24 a4_0 a4_1 a4_2 a4_3 t115 t116 = some (r1, r2)) ∧ Aside0 (kq ≤ kj6) ∧ Aside0 (wc.heap[gb113]? = some (.cells #[.int .i64 a0_0, .int .i64 a0_1, .int .i64 a0_2, .int .i64 a0_3, .int .i64 a0_4] 32 (0, 0))) ∧ Aside0 (wc.heap[gb114]? = some (.cells #[.int .i64 a4_0, .int .i64 a4_1, .int .u64 a4_2, .int .u16 a4_3] 36 (0, 0))) ∧ Aside0 (wc.heap[gb118]? = some (.cells #[.int .i64 t115, .int .i64 t116] 57 (0, 0))) ∧ Aside0 (Below w.heap.size w wc))
    case first =>
     have H := HC25.out
     clear HC25
     by_cases c29 : a4_1 = t116
     ·rw [if_pos c29] at H
      have c29b0 : (a4_1 == t116) = true := beq_iff_eq.mpr c29
      have c29b1 : (a4_1 != t116) = false := bne_eq_false_iff_eq.mpr c29
      clear c29
      (first | rw [c29b0] | (simp only [i64_w, i32_w]; rw [c29b0]) | skip)
      have H' := Aside0.mk H
      clear H
      have hnb30 := NB114_113.out
      have hnc30 := NB113_114.out
      have hnb31 := NB114_118.out
      have hnc31 := NB118_114.out
      have hcz32_0 : wc.cell? ⟨gb114, 0, none⟩ = some (.int .i64 a4_0) := (blk_cell BK114.out 0).trans rfl
      have hcz32_1 : wc.cell? ⟨gb114, 1, none⟩ = some (.int .i64 a4_1) := (blk_cell BK114.out 1).trans rfl
      have hcz32_2 : wc.cell? ⟨gb114, 2, none⟩ = some (.int .u64 a4_2) := (blk_cell BK114.out 2).trans rfl
      have hcz32_3 : wc.cell? ⟨gb114, 3, none⟩ = some (.int .u16 a4_3) := (blk_cell BK114.out 3).trans rfl
      have hfz32_0 := blk_frozen BK114.out 0
      have hfz32_1 := blk_frozen BK114.out 1
      have hfz32_2 := blk_frozen BK114.out 2
      have hfz32_3 := blk_frozen BK114.out 3
      have hnb33 := NB118_113.out
      have hnc33 := NB113_118.out
      have hcz34_0 : wc.cell? ⟨gb118, 0, none⟩ = some (.int .i64 t115) := (blk_cell BK118.out 0).trans rfl
      have hcz34_1 : wc.cell? ⟨gb118, 1, none⟩ = some (.int .i64 t116) := (blk_cell BK118.out 1).trans rfl
      have hfz34_0 := blk_frozen BK118.out 0
      have hfz34_1 := blk_frozen BK118.out 1
      go_wp2
      repeat (go_quiet (fail); try go_wp2)
      go_meet
      case rel => exact ⟨_, ((a4_2 != a3)), (by first | rfl | (simp; done) | (simp [*]; done)), H', ⟨by have := HJ6.out; first | omega | exact Nat.le_refl _⟩, ⟨by (with_reducible repeat (first | refine blk_drewN ?_ _ | refine blk_drew ?_ | refine blk_alloc ?_ _)); exact BK113.out⟩, ⟨by (with_reducible repeat (first | refine blk_drewN ?_ _ | refine blk_drew ?_ | refine blk_alloc ?_ _)); exact BK114.out⟩, ⟨by (with_reducible repeat (first | refine blk_drewN ?_ _ | refine blk_drew ?_ | refine blk_alloc ?_ _)); exact BK118.out⟩, ⟨by repeat (first | (with_reducible first | exact HB.out | apply below_alloc | apply pw_below_drewN | apply below_drew1 | refine below_set ?_ GE113.out | refine below_set ?_ GE114.out | refine below_set ?_ GE118.out) | exact HB.out)⟩⟩
     ·rw [if_neg c29] at H
      have c29b0 : (a4_1 == t116) = false := beq_eq_false_iff_ne.mpr c29
      have c29b1 : (a4_1 != t116) = true := bne_iff_ne.mpr c29
      (first | rw [c29b0] | (simp only [i64_w, i32_w]; rw [c29b0]) | skip)
      have H' := Aside0.mk H
      clear H
      have hnb35 := NB114_113.out
      have hnc35 := NB113_114.out
      have hnb36 := NB114_118.out
      have hnc36 := NB118_114.out
      have hcz37_0 : wc.cell? ⟨gb114, 0, none⟩ = some (.int .i64 a4_0) := (blk_cell BK114.out 0).trans rfl
      have hcz37_1 : wc.cell? ⟨gb114, 1, none⟩ = some (.int .i64 a4_1) := (blk_cell BK114.out 1).trans rfl
      have hcz37_2 : wc.cell? ⟨gb114, 2, none⟩ = some (.int .u64 a4_2) := (blk_cell BK114.out 2).trans rfl
      have hcz37_3 : wc.cell? ⟨gb114, 3, none⟩ = some (.int .u16 a4_3) := (blk_cell BK114.out 3).trans rfl
      have hfz37_0 := blk_frozen BK114.out 0
      have hfz37_1 := blk_frozen BK114.out 1
      have hfz37_2 := blk_frozen BK114.out 2
      have hfz37_3 := blk_frozen BK114.out 3
      have hnb38 := NB118_113.out
      have hnc38 := NB113_118.out
      have hcz39_0 : wc.cell? ⟨gb118, 0, none⟩ = some (.int .i64 t115) := (blk_cell BK118.out 0).trans rfl
      have hcz39_1 : wc.cell? ⟨gb118, 1, none⟩ = some (.int .i64 t116) := (blk_cell BK118.out 1).trans rfl
      have hfz39_0 := blk_frozen BK118.out 0
      have hfz39_1 := blk_frozen BK118.out 1
      go_wp2
      repeat (go_quiet (fail); try go_wp2)
      go_meet
      case rel => exact ⟨_, (true), (by first | rfl | (simp; done) | (simp [*]; done)), H', ⟨by have := HJ6.out; first | omega | exact Nat.le_refl _⟩, ⟨by (with_reducible repeat (first | refine blk_drewN ?_ _ | refine blk_drew ?_ | refine blk_alloc ?_ _)); exact BK113.out⟩, ⟨by (with_reducible repeat (first | refine blk_drewN ?_ _ | refine blk_drew ?_ | refine blk_alloc ?_ _)); exact BK114.out⟩, ⟨by (with_reducible repeat (first | refine blk_drewN ?_ _ | refine blk_drew ?_ | refine blk_alloc ?_ _)); exact BK118.out⟩, ⟨by repeat (first | (with_reducible first | exact HB.out | apply below_alloc | apply pw_below_drewN | apply below_drew1 | refine below_set ?_ GE113.out | refine below_set ?_ GE114.out | refine below_set ?_ GE118.out) | exact HB.out)⟩⟩
    case rest =>
     clear HC25
     try clear c1
     try clear c2
     try clear p2
     try clear c3
     try clear c10
     try clear c14
     try clear c15
     try clear c17
     try clear c17b0
     try clear c17b1
     try clear c19
     try clear c20
     try clear c23
     try clear c23b0
     try clear c23b1
     try clear c26
     try clear c27
     try clear c29
     try clear c29b0
     try clear c29b1
     try clear c30
     try clear c31
     try clear c33
     try clear c35
     try clear c36
     try clear c38
     try clear hcz11_0
     try clear hcz11_1
     try clear hcz11_2
     try clear hcz11_3
     try clear hcz11_4
     try clear hcz16_0
     try clear hcz16_1
     try clear hcz21_0
     try clear hcz21_1
     try clear hcz21_2
     try clear hcz21_3
     try clear hcz28_0
     try clear hcz28_1
     try clear hcz32_0
     try clear hcz32_1
     try clear hcz32_2
     try clear hcz32_3
     try clear hcz34_0
     try clear hcz34_1
     try clear hcz37_0
     try clear hcz37_1
     try clear hcz37_2
     try clear hcz37_3
     try clear hcz39_0
     try clear hcz39_1
     try clear hfz11_0
     try clear hfz11_1
     try clear hfz11_2
     try clear hfz11_3
     try clear hfz11_4
     try clear hfz16_0
     try clear hfz16_1
     try clear hfz21_0
     try clear hfz21_1
     try clear hfz21_2
     try clear hfz21_3
     try clear hfz28_0
     try clear hfz28_1
     try clear hfz32_0
     try clear hfz32_1
     try clear hfz32_2
     try clear hfz32_3
     try clear hfz34_0
     try clear hfz34_1
     try clear hfz37_0
     try clear hfz37_1
     try clear hfz37_2
     try clear hfz37_3
     try clear hfz39_0
     try clear hfz39_1
     try clear p2
     obtain ⟨kq, x32_24, rfl, HA, HJ24, BK113, BK114, BK118, HB⟩ := hcut
     cases kq with
     | zero => exact absurd HA.out (by simp [member_Judge.j1])
     | succ kj24 =>
      have H := HA.out
      clear HA
      simp only [member_Judge.j1] at H
      by_cases c40 : x32_24 = true
      ·subst c40
       have H1 : (some (3, 0)) = some (r1, r2) := by rw [if_pos rfl] at H; exact H
       clear H
       have H := H1
       clear H1
       simp only [Option.some.injEq, Prod.mk.injEq] at H
       obtain ⟨rfl, rfl⟩ := H
       go_wp2
       repeat (go_quiet (fail); try go_wp2)
       go_ret2
       exact ⟨by first | rfl | (simp [errW_none, errW_some] <;> rfl) | (simp [*, errW_none, errW_some] <;> rfl), by repeat (first | (with_reducible first | exact HB.out | apply below_alloc | apply pw_below_drewN | apply below_drew1 | refine below_set ?_ GE113.out | refine below_set ?_ GE114.out | refine below_set ?_ GE118.out) | exact HB.out)⟩
      ·replace c40 := Bool.eq_false_iff.mpr c40
       subst c40
       have H1 : (if a4_3 = t120 then (some (1, 0)) else (if t115 = t116 then (some (3, 0)) else ((frame_Has.f a2 a1).bind fun t121 => (if t121 = true then ((frame_Without.f t120 a1).bind fun t122 => (if a4_3 = t122 then (some (2, 0)) else (some (3, 0)))) else (some (3, 0)))))) = some (r1, r2) := by rw [if_neg (show ¬ (false = true) by decide)] at H; exact H
       clear H
       have H := H1
       clear H1
       by_cases c41 : a4_3 = t120
       ·rw [if_pos c41] at H
        have c41b0 : (a4_3 == t120) = true := beq_iff_eq.mpr c41
        have c41b1 : (a4_3 != t120) = false := bne_eq_false_iff_eq.mpr c41
        clear c41
        simp only [Option.some.injEq, Prod.mk.injEq] at H
        obtain ⟨rfl, rfl⟩ := H
        have hnb42 := NB114_113.out
        have hnc42 := NB113_114.out
        have hnb43 := NB114_118.out
        have hnc43 := NB118_114.out
        have hcz44_0 : wc.cell? ⟨gb114, 0, none⟩ = some (.int .i64 a4_0) := (blk_cell BK114.out 0).trans rfl
        have hcz44_1 : wc.cell? ⟨gb114, 1, none⟩ = some (.int .i64 a4_1) := (blk_cell BK114.out 1).trans rfl
        have hcz44_2 : wc.cell? ⟨gb114, 2, none⟩ = some (.int .u64 a4_2) := (blk_cell BK114.out 2).trans rfl
        have hcz44_3 : wc.cell? ⟨gb114, 3, none⟩ = some (.int .u16 a4_3) := (blk_cell BK114.out 3).trans rfl
        have hfz44_0 := blk_frozen BK114.out 0
        have hfz44_1 := blk_frozen BK114.out 1
        have hfz44_2 := blk_frozen BK114.out 2
        have hfz44_3 := blk_frozen BK114.out 3
        go_wp2
        repeat (go_quiet (fail); try go_wp2)
        go_ret2
        exact ⟨by first | rfl | (simp [errW_none, errW_some] <;> rfl) | (simp [*, errW_none, errW_some] <;> rfl), by repeat (first | (with_reducible first | exact HB.out | apply below_alloc | apply pw_below_drewN | apply below_drew1 | refine below_set ?_ GE113.out | refine below_set ?_ GE114.out | refine below_set ?_ GE118.out) | exact HB.out)⟩
       ·rw [if_neg c41] at H
        have c41b0 : (a4_3 == t120) = false := beq_eq_false_iff_ne.mpr c41
        have c41b1 : (a4_3 != t120) = true := bne_iff_ne.mpr c41
        by_cases c45 : t115 = t116
        ·rw [if_pos c45] at H
         have c45b0 : (t115 == t116) = true := beq_iff_eq.mpr c45
         have c45b1 : (t115 != t116) = false := bne_eq_false_iff_eq.mpr c45
         clear c45
         simp only [Option.some.injEq, Prod.mk.injEq] at H
         obtain ⟨rfl, rfl⟩ := H
         have hnb46 := NB114_113.out
         have hnc46 := NB113_114.out
         have hnb47 := NB114_118.out
         have hnc47 := NB118_114.out
         have hcz48_0 : wc.cell? ⟨gb114, 0, none⟩ = some (.int .i64 a4_0) := (blk_cell BK114.out 0).trans rfl
         have hcz48_1 : wc.cell? ⟨gb114, 1, none⟩ = some (.int .i64 a4_1) := (blk_cell BK114.out 1).trans rfl
         have hcz48_2 : wc.cell? ⟨gb114, 2, none⟩ = some (.int .u64 a4_2) := (blk_cell BK114.out 2).trans rfl
         have hcz48_3 : wc.cell? ⟨gb114, 3, none⟩ = some (.int .u16 a4_3) := (blk_cell BK114.out 3).trans rfl
         have hfz48_0 := blk_frozen BK114.out 0
         have hfz48_1 := blk_frozen BK114.out 1
         have hfz48_2 := blk_frozen BK114.out 2
         have hfz48_3 := blk_frozen BK114.out 3
         have hnb49 := NB118_113.out
         have hnc49 := NB113_118.out
         have hcz50_0 : wc.cell? ⟨gb118, 0, none⟩ = some (.int .i64 t115) := (blk_cell BK118.out 0).trans rfl
         have hcz50_1 : wc.cell? ⟨gb118, 1, none⟩ = some (.int .i64 t116) := (blk_cell BK118.out 1).trans rfl
         have hfz50_0 := blk_frozen BK118.out 0
         have hfz50_1 := blk_frozen BK118.out 1
         go_wp2
         repeat (go_quiet (fail); try go_wp2)
         go_ret2
         exact ⟨by first | rfl | (simp [errW_none, errW_some] <;> rfl) | (simp [*, errW_none, errW_some] <;> rfl), by repeat (first | (with_reducible first | exact HB.out | apply below_alloc | apply pw_below_drewN | apply below_drew1 | refine below_set ?_ GE113.out | refine below_set ?_ GE114.out | refine below_set ?_ GE118.out) | exact HB.out)⟩
        ·rw [if_neg c45] at H
         have c45b0 : (t115 == t116) = false := beq_eq_false_iff_ne.mpr c45
         have c45b1 : (t115 != t116) = true := bne_iff_ne.mpr c45
         replace H := Option.bind_eq_some_iff.mp H
         obtain ⟨t121, A510, H⟩ := H
         replace H : (if t121 = true then ((frame_Without.f t120 a1).bind fun t122 => (if a4_3 = t122 then (some (2, 0)) else (some (3, 0)))) else (some (3, 0))) = some (r1, r2) := H
         have A51 := Aside0.mk A510
         clear A510
         by_cases c52 : t121 = true
         ·subst c52
          have H1 : ((frame_Without.f t120 a1).bind fun t122 => (if a4_3 = t122 then (some (2, 0)) else (some (3, 0)))) = some (r1, r2) := by rw [if_pos rfl] at H; exact H
          clear H
          have H := H1
          clear H1
          replace H := Option.bind_eq_some_iff.mp H
          obtain ⟨t122, A530, H⟩ := H
          replace H : (if a4_3 = t122 then (some (2, 0)) else (some (3, 0))) = some (r1, r2) := H
          have A53 := Aside0.mk A530
          clear A530
          by_cases c54 : a4_3 = t122
          ·rw [if_pos c54] at H
           have c54b0 : (a4_3 == t122) = true := beq_iff_eq.mpr c54
           have c54b1 : (a4_3 != t122) = false := bne_eq_false_iff_eq.mpr c54
           clear c54
           simp only [Option.some.injEq, Prod.mk.injEq] at H
           obtain ⟨rfl, rfl⟩ := H
           have hnb55 := NB114_113.out
           have hnc55 := NB113_114.out
           have hnb56 := NB114_118.out
           have hnc56 := NB118_114.out
           have hcz57_0 : wc.cell? ⟨gb114, 0, none⟩ = some (.int .i64 a4_0) := (blk_cell BK114.out 0).trans rfl
           have hcz57_1 : wc.cell? ⟨gb114, 1, none⟩ = some (.int .i64 a4_1) := (blk_cell BK114.out 1).trans rfl
           have hcz57_2 : wc.cell? ⟨gb114, 2, none⟩ = some (.int .u64 a4_2) := (blk_cell BK114.out 2).trans rfl
           have hcz57_3 : wc.cell? ⟨gb114, 3, none⟩ = some (.int .u16 a4_3) := (blk_cell BK114.out 3).trans rfl
           have hfz57_0 := blk_frozen BK114.out 0
           have hfz57_1 := blk_frozen BK114.out 1
           have hfz57_2 := blk_frozen BK114.out 2
           have hfz57_3 := blk_frozen BK114.out 3
           have hnb58 := NB118_113.out
           have hnc58 := NB113_118.out
           have hcz59_0 : wc.cell? ⟨gb118, 0, none⟩ = some (.int .i64 t115) := (blk_cell BK118.out 0).trans rfl
           have hcz59_1 : wc.cell? ⟨gb118, 1, none⟩ = some (.int .i64 t116) := (blk_cell BK118.out 1).trans rfl
           have hfz59_0 := blk_frozen BK118.out 0
           have hfz59_1 := blk_frozen BK118.out 1
           go_wp2_with (first | (go_at_call 15; (with_reducible refine (frame_Has.calls a2 a1 true _ A51.out).mono ?_); rintro e w' ⟨rfl, ⟨nd, rfl⟩⟩; (try first | exact ⟨rfl, _, World.drewN_drewN _ _ _⟩ | exact ⟨rfl, _, Eq.trans (World.drewN_drewN _ _ _) (congrArg (World.drewN _) (Nat.add_assoc _ _ _))⟩)) | (go_at_call 18; (with_reducible refine (frame_Without.calls t120 a1 t122 _ A53.out).mono ?_); rintro e w' ⟨rfl, ⟨nd, rfl⟩⟩; (try first | exact ⟨rfl, _, World.drewN_drewN _ _ _⟩ | exact ⟨rfl, _, Eq.trans (World.drewN_drewN _ _ _) (congrArg (World.drewN _) (Nat.add_assoc _ _ _))⟩)))
           repeat (go_quiet (first | (go_at_call 15; (with_reducible refine (frame_Has.calls a2 a1 true _ A51.out).mono ?_); rintro e w' ⟨rfl, ⟨nd, rfl⟩⟩; (try first | exact ⟨rfl, _, World.drewN_drewN _ _ _⟩ | exact ⟨rfl, _, Eq.trans (World.drewN_drewN _ _ _) (congrArg (World.drewN _) (Nat.add_assoc _ _ _))⟩)) | (go_at_call 18; (with_reducible refine (frame_Without.calls t120 a1 t122 _ A53.out).mono ?_); rintro e w' ⟨rfl, ⟨nd, rfl⟩⟩; (try first | exact ⟨rfl, _, World.drewN_drewN _ _ _⟩ | exact ⟨rfl, _, Eq.trans (World.drewN_drewN _ _ _) (congrArg (World.drewN _) (Nat.add_assoc _ _ _))⟩))); try go_wp2_with (first | (go_at_call 15; (with_reducible refine (frame_Has.calls a2 a1 true _ A51.out).mono ?_); rintro e w' ⟨rfl, ⟨nd, rfl⟩⟩; (try first | exact ⟨rfl, _, World.drewN_drewN _ _ _⟩ | exact ⟨rfl, _, Eq.trans (World.drewN_drewN _ _ _) (congrArg (World.drewN _) (Nat.add_assoc _ _ _))⟩)) | (go_at_call 18; (with_reducible refine (frame_Without.calls t120 a1 t122 _ A53.out).mono ?_); rintro e w' ⟨rfl, ⟨nd, rfl⟩⟩; (try first | exact ⟨rfl, _, World.drewN_drewN _ _ _⟩ | exact ⟨rfl, _, Eq.trans (World.drewN_drewN _ _ _) (congrArg (World.drewN _) (Nat.add_assoc _ _ _))⟩))))
           go_ret2
           exact ⟨by first | rfl | (simp [errW_none, errW_some] <;> rfl) | (simp [*, errW_none, errW_some] <;> rfl), by repeat (first | (with_reducible first | exact HB.out | apply below_alloc | apply pw_below_drewN | apply below_drew1 | refine below_set ?_ GE113.out | refine below_set ?_ GE114.out | refine below_set ?_ GE118.out) | exact HB.out)⟩
          ·rw [if_neg c54] at H
           have c54b0 : (a4_3 == t122) = false := beq_eq_false_iff_ne.mpr c54
           have c54b1 : (a4_3 != t122) = true := bne_iff_ne.mpr c54
           simp only [Option.some.injEq, Prod.mk.injEq] at H
           obtain ⟨rfl, rfl⟩ := H
           have hnb60 := NB114_113.out
           have hnc60 := NB113_114.out
           have hnb61 := NB114_118.out
           have hnc61 := NB118_114.out
           have hcz62_0 : wc.cell? ⟨gb114, 0, none⟩ = some (.int .i64 a4_0) := (blk_cell BK114.out 0).trans rfl
           have hcz62_1 : wc.cell? ⟨gb114, 1, none⟩ = some (.int .i64 a4_1) := (blk_cell BK114.out 1).trans rfl
           have hcz62_2 : wc.cell? ⟨gb114, 2, none⟩ = some (.int .u64 a4_2) := (blk_cell BK114.out 2).trans rfl
           have hcz62_3 : wc.cell? ⟨gb114, 3, none⟩ = some (.int .u16 a4_3) := (blk_cell BK114.out 3).trans rfl
           have hfz62_0 := blk_frozen BK114.out 0
           have hfz62_1 := blk_frozen BK114.out 1
           have hfz62_2 := blk_frozen BK114.out 2
           have hfz62_3 := blk_frozen BK114.out 3
           have hnb63 := NB118_113.out
           have hnc63 := NB113_118.out
           have hcz64_0 : wc.cell? ⟨gb118, 0, none⟩ = some (.int .i64 t115) := (blk_cell BK118.out 0).trans rfl
           have hcz64_1 : wc.cell? ⟨gb118, 1, none⟩ = some (.int .i64 t116) := (blk_cell BK118.out 1).trans rfl
           have hfz64_0 := blk_frozen BK118.out 0
           have hfz64_1 := blk_frozen BK118.out 1
           go_wp2_with (first | (go_at_call 15; (with_reducible refine (frame_Has.calls a2 a1 true _ A51.out).mono ?_); rintro e w' ⟨rfl, ⟨nd, rfl⟩⟩; (try first | exact ⟨rfl, _, World.drewN_drewN _ _ _⟩ | exact ⟨rfl, _, Eq.trans (World.drewN_drewN _ _ _) (congrArg (World.drewN _) (Nat.add_assoc _ _ _))⟩)) | (go_at_call 18; (with_reducible refine (frame_Without.calls t120 a1 t122 _ A53.out).mono ?_); rintro e w' ⟨rfl, ⟨nd, rfl⟩⟩; (try first | exact ⟨rfl, _, World.drewN_drewN _ _ _⟩ | exact ⟨rfl, _, Eq.trans (World.drewN_drewN _ _ _) (congrArg (World.drewN _) (Nat.add_assoc _ _ _))⟩)))
           repeat (go_quiet (first | (go_at_call 15; (with_reducible refine (frame_Has.calls a2 a1 true _ A51.out).mono ?_); rintro e w' ⟨rfl, ⟨nd, rfl⟩⟩; (try first | exact ⟨rfl, _, World.drewN_drewN _ _ _⟩ | exact ⟨rfl, _, Eq.trans (World.drewN_drewN _ _ _) (congrArg (World.drewN _) (Nat.add_assoc _ _ _))⟩)) | (go_at_call 18; (with_reducible refine (frame_Without.calls t120 a1 t122 _ A53.out).mono ?_); rintro e w' ⟨rfl, ⟨nd, rfl⟩⟩; (try first | exact ⟨rfl, _, World.drewN_drewN _ _ _⟩ | exact ⟨rfl, _, Eq.trans (World.drewN_drewN _ _ _) (congrArg (World.drewN _) (Nat.add_assoc _ _ _))⟩))); try go_wp2_with (first | (go_at_call 15; (with_reducible refine (frame_Has.calls a2 a1 true _ A51.out).mono ?_); rintro e w' ⟨rfl, ⟨nd, rfl⟩⟩; (try first | exact ⟨rfl, _, World.drewN_drewN _ _ _⟩ | exact ⟨rfl, _, Eq.trans (World.drewN_drewN _ _ _) (congrArg (World.drewN _) (Nat.add_assoc _ _ _))⟩)) | (go_at_call 18; (with_reducible refine (frame_Without.calls t120 a1 t122 _ A53.out).mono ?_); rintro e w' ⟨rfl, ⟨nd, rfl⟩⟩; (try first | exact ⟨rfl, _, World.drewN_drewN _ _ _⟩ | exact ⟨rfl, _, Eq.trans (World.drewN_drewN _ _ _) (congrArg (World.drewN _) (Nat.add_assoc _ _ _))⟩))))
           go_ret2
           exact ⟨by first | rfl | (simp [errW_none, errW_some] <;> rfl) | (simp [*, errW_none, errW_some] <;> rfl), by repeat (first | (with_reducible first | exact HB.out | apply below_alloc | apply pw_below_drewN | apply below_drew1 | refine below_set ?_ GE113.out | refine below_set ?_ GE114.out | refine below_set ?_ GE118.out) | exact HB.out)⟩
         ·replace c52 := Bool.eq_false_iff.mpr c52
          subst c52
          have H1 : (some (3, 0)) = some (r1, r2) := by rw [if_neg (show ¬ (false = true) by decide)] at H; exact H
          clear H
          have H := H1
          clear H1
          simp only [Option.some.injEq, Prod.mk.injEq] at H
          obtain ⟨rfl, rfl⟩ := H
          have hnb65 := NB114_113.out
          have hnc65 := NB113_114.out
          have hnb66 := NB114_118.out
          have hnc66 := NB118_114.out
          have hcz67_0 : wc.cell? ⟨gb114, 0, none⟩ = some (.int .i64 a4_0) := (blk_cell BK114.out 0).trans rfl
          have hcz67_1 : wc.cell? ⟨gb114, 1, none⟩ = some (.int .i64 a4_1) := (blk_cell BK114.out 1).trans rfl
          have hcz67_2 : wc.cell? ⟨gb114, 2, none⟩ = some (.int .u64 a4_2) := (blk_cell BK114.out 2).trans rfl
          have hcz67_3 : wc.cell? ⟨gb114, 3, none⟩ = some (.int .u16 a4_3) := (blk_cell BK114.out 3).trans rfl
          have hfz67_0 := blk_frozen BK114.out 0
          have hfz67_1 := blk_frozen BK114.out 1
          have hfz67_2 := blk_frozen BK114.out 2
          have hfz67_3 := blk_frozen BK114.out 3
          have hnb68 := NB118_113.out
          have hnc68 := NB113_118.out
          have hcz69_0 : wc.cell? ⟨gb118, 0, none⟩ = some (.int .i64 t115) := (blk_cell BK118.out 0).trans rfl
          have hcz69_1 : wc.cell? ⟨gb118, 1, none⟩ = some (.int .i64 t116) := (blk_cell BK118.out 1).trans rfl
          have hfz69_0 := blk_frozen BK118.out 0
          have hfz69_1 := blk_frozen BK118.out 1
          go_wp2_with (first | (go_at_call 15; (with_reducible refine (frame_Has.calls a2 a1 false _ A51.out).mono ?_); rintro e w' ⟨rfl, ⟨nd, rfl⟩⟩; (try first | exact ⟨rfl, _, World.drewN_drewN _ _ _⟩ | exact ⟨rfl, _, Eq.trans (World.drewN_drewN _ _ _) (congrArg (World.drewN _) (Nat.add_assoc _ _ _))⟩)))
          repeat (go_quiet (first | (go_at_call 15; (with_reducible refine (frame_Has.calls a2 a1 false _ A51.out).mono ?_); rintro e w' ⟨rfl, ⟨nd, rfl⟩⟩; (try first | exact ⟨rfl, _, World.drewN_drewN _ _ _⟩ | exact ⟨rfl, _, Eq.trans (World.drewN_drewN _ _ _) (congrArg (World.drewN _) (Nat.add_assoc _ _ _))⟩))); try go_wp2_with (first | (go_at_call 15; (with_reducible refine (frame_Has.calls a2 a1 false _ A51.out).mono ?_); rintro e w' ⟨rfl, ⟨nd, rfl⟩⟩; (try first | exact ⟨rfl, _, World.drewN_drewN _ _ _⟩ | exact ⟨rfl, _, Eq.trans (World.drewN_drewN _ _ _) (congrArg (World.drewN _) (Nat.add_assoc _ _ _))⟩))))
          go_ret2
          exact ⟨by first | rfl | (simp [errW_none, errW_some] <;> rfl) | (simp [*, errW_none, errW_some] <;> rfl), by repeat (first | (with_reducible first | exact HB.out | apply below_alloc | apply pw_below_drewN | apply below_drew1 | refine below_set ?_ GE113.out | refine below_set ?_ GE114.out | refine below_set ?_ GE118.out) | exact HB.out)⟩
   ·rw [if_neg c23] at H
    have c23b0 : (x13_6 == 0) = false := beq_eq_false_iff_ne.mpr c23
    have c23b1 : (x13_6 != 0) = true := bne_iff_ne.mpr c23
    simp only [Option.some.injEq, Prod.mk.injEq] at H
    obtain ⟨rfl, rfl⟩ := H
    go_wp2
    repeat (go_quiet (fail); try go_wp2)
    go_ret2
    exact ⟨by first | rfl | (simp [errW_none, errW_some] <;> rfl) | (simp [*, errW_none, errW_some] <;> rfl), by repeat (first | (with_reducible first | exact HB.out | apply below_alloc | apply pw_below_drewN | apply below_drew1 | refine below_set ?_ GE113.out | refine below_set ?_ GE114.out | refine below_set ?_ GE118.out) | exact HB.out)⟩

end Go.Proofs.Ytcanccdhedmdmaa.Print
