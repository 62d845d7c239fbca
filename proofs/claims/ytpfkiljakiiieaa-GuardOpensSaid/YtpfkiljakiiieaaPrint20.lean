-- PRINTED by print.py (a twelfth state) out of the translation. Not trusted: Lean checks it.
import Derived.Test.YtpfkiljakiiieaaPrint0
import Derived.Test.YtpfkiljakiiieaaPrint11
import Derived.Test.YtpfkiljakiiieaaPrint12
import Derived.Test.YtpfkiljakiiieaaPrint18
import Derived.Test.YtpfkiljakiiieaaPrint19
namespace Go.Proofs.Ytpfkiljakiiieaa.Print
open Go.RowKit Go.Proofs.YtpfkiljakiiieaaW.PrintWords Go.Proofs.YtpfkiljakiiieaaW.PrintLast Go.Proofs.YtpfkiljakiiieaaW.PrintMore Go.Proofs.YtpfkiljakiiieaaX
attribute [local go_sem] max2_int min2_int max_two min_two max_three min_three max_four min_four   -- for this text's walks alone
set_option linter.unusedVariables false
set_option linter.unusedSimpArgs false

/-! ### guard_Pass: function 27 -/
def guard_Pass.j0 : Nat → Int → Int → Bool → Bool → Bool → Int → Int → Int → Int → Int → Int → Int → Int → Int → Int → Int → Int → Int → Int → Option (Bool × Bool × Int × Int × Bool × Int)
 | 0, _, _, _, _, _, _, _, _, _, _, _, _, _, _, _, _, _, _, _ => none
 | k + 1, x3, x5, x26, x304000, x304001, x304002, x304003, x305000, x305001, x305002, x305003, x305004, x306000, x306001, x306002, x306003, x312000, x312001, x312002 => if x26 = true then (some (x304000, x304001, x304002, x304003, false, 1)) else (if x304000 = true then ((guard_scale_passes.f k x312000 x312001 x312002 x304000 x304001 x304002 x304003 x305000 x305001 x305002 x305003 x305004 x3 x306000 x306001 x306002 x306003 (wrap64 (x5 - x312001))).bind fun bt318 => (if bt318.2 = true then (some (true, true, bt318.1, wrap64 (x5 - x312001), true, 0)) else (some (x304000, x304001, x304002, x304003, false, 0)))) else (some (x304000, x304001, x304002, x304003, true, 0)))
def guard_Pass.f (k : Nat) (a0_0 : Bool) (a0_1 : Bool) (a0_2 : Int) (a0_3 : Int) (a1_0 : Int) (a1_1 : Int) (a1_2 : Int) (a1_3 : Int) (a1_4 : Int) (a2 : Int) (a3 : Int) (a4_0 : Int) (a4_1 : Int) (a4_2 : Int) (a4_3 : Int) (a5 : Int) : Option (Bool × Bool × Int × Int × Bool × Int) := (guard_scaled.f a1_0 a1_1 a1_2 a1_3 a1_4 a2).bind fun bt307 => (if bt307.2.2.2 = 0 then ((guard_Check.f k a0_0 a0_1 a0_2 a0_3).bind fun t312 => (if t312 = 0 then ((guard_node.f a1_0 a1_1 a1_2 a1_3 a1_4 a3).bind fun t313 => (if t313 = true then (if a5 < 0 then (guard_Pass.j0 k a3 a5 true a0_0 a0_1 a0_2 a0_3 a1_0 a1_1 a1_2 a1_3 a1_4 a4_0 a4_1 a4_2 a4_3 bt307.1 bt307.2.1 bt307.2.2.1) else ((pico_May.f k (([a5] : List Int))).bind fun t317 => (guard_Pass.j0 k a3 a5 (!t317) a0_0 a0_1 a0_2 a0_3 a1_0 a1_1 a1_2 a1_3 a1_4 a4_0 a4_1 a4_2 a4_3 bt307.1 bt307.2.1 bt307.2.2.1))) else (guard_Pass.j0 k a3 a5 true a0_0 a0_1 a0_2 a0_3 a1_0 a1_1 a1_2 a1_3 a1_4 a4_0 a4_1 a4_2 a4_3 bt307.1 bt307.2.1 bt307.2.2.1))) else (guard_Pass.j0 k a3 a5 true a0_0 a0_1 a0_2 a0_3 a1_0 a1_1 a1_2 a1_3 a1_4 a4_0 a4_1 a4_2 a4_3 bt307.1 bt307.2.1 bt307.2.2.1))) else (guard_Pass.j0 k a3 a5 true a0_0 a0_1 a0_2 a0_3 a1_0 a1_1 a1_2 a1_3 a1_4 a4_0 a4_1 a4_2 a4_3 bt307.1 bt307.2.1 bt307.2.2.1))
theorem guard_Pass.mono_l : ∀ k, (∀ y0 y1 y2 y3 y4 y5 y6 y7 y8 y9 y10 y11 y12 y13 y14 y15 y16 y17 y18, LeO (guard_Pass.j0 k y0 y1 y2 y3 y4 y5 y6 y7 y8 y9 y10 y11 y12 y13 y14 y15 y16 y17 y18) (guard_Pass.j0 (k + 1) y0 y1 y2 y3 y4 y5 y6 y7 y8 y9 y10 y11 y12 y13 y14 y15 y16 y17 y18))
 | 0 => fun _ _ _ _ _ _ _ _ _ _ _ _ _ _ _ _ _ _ _ r h => by simp [guard_Pass.j0] at h
 | k + 1 => by
  have ih0 := guard_Pass.mono_l k
  ·intro y0 y1 y2 y3 y4 y5 y6 y7 y8 y9 y10 y11 y12 y13 y14 y15 y16 y17 y18
   unfold guard_Pass.j0
   repeat' first
   | (with_reducible exact ih0 _ _ _ _ _ _ _ _ _ _ _ _ _ _ _ _ _ _ _)
   | (with_reducible exact guard_Check.mono _ _ _ _ _)
   | (with_reducible exact guard_scale_passes.mono _ _ _ _ _ _ _ _ _ _ _ _ _ _ _ _ _ _ _)
   | (with_reducible exact pico_May.mono _ _)
   | (with_reducible exact LeO.refl _)
   | (with_reducible exact LeO.none _)
   | (with_reducible refine LeO.ite ?_ ?_)
   | (with_reducible refine LeO.bind ?_ (fun _ => ?_))
   | exact ih0 _ _ _ _ _ _ _ _ _ _ _ _ _ _ _ _ _ _ _
   | exact guard_Check.mono _ _ _ _ _
   | exact guard_scale_passes.mono _ _ _ _ _ _ _ _ _ _ _ _ _ _ _ _ _ _ _
   | exact pico_May.mono _ _
   | exact LeO.none _
   | refine LeO.ite ?_ ?_
   | refine LeO.bind ?_ (fun _ => ?_)
theorem guard_Pass.mono : ∀ a0 a1 a2 a3 a4 a5 a6 a7 a8 a9 a10 a11 a12 a13 a14 a15 k, LeO (guard_Pass.f k a0 a1 a2 a3 a4 a5 a6 a7 a8 a9 a10 a11 a12 a13 a14 a15) (guard_Pass.f (k + 1) a0 a1 a2 a3 a4 a5 a6 a7 a8 a9 a10 a11 a12 a13 a14 a15) := by
 intro a0 a1 a2 a3 a4 a5 a6 a7 a8 a9 a10 a11 a12 a13 a14 a15 k
 have ih0 := guard_Pass.mono_l k
 unfold guard_Pass.f
 repeat' first
   | (with_reducible exact ih0 _ _ _ _ _ _ _ _ _ _ _ _ _ _ _ _ _ _ _)
   | (with_reducible exact guard_Check.mono _ _ _ _ _)
   | (with_reducible exact guard_scale_passes.mono _ _ _ _ _ _ _ _ _ _ _ _ _ _ _ _ _ _ _)
   | (with_reducible exact pico_May.mono _ _)
   | (with_reducible exact LeO.refl _)
   | (with_reducible exact LeO.none _)
   | (with_reducible refine LeO.ite ?_ ?_)
   | (with_reducible refine LeO.bind ?_ (fun _ => ?_))
   | exact ih0 _ _ _ _ _ _ _ _ _ _ _ _ _ _ _ _ _ _ _
   | exact guard_Check.mono _ _ _ _ _
   | exact guard_scale_passes.mono _ _ _ _ _ _ _ _ _ _ _ _ _ _ _ _ _ _ _
   | exact pico_May.mono _ _
   | exact LeO.none _
   | refine LeO.ite ?_ ?_
   | refine LeO.bind ?_ (fun _ => ?_)
set_option maxHeartbeats 8000000 in
set_option maxRecDepth 100000 in
theorem guard_Pass.calls (k : Nat) (a0_0 : Bool) (a0_1 : Bool) (a0_2 : Int) (a0_3 : Int) (a1_0 : Int) (a1_1 : Int) (a1_2 : Int) (a1_3 : Int) (a1_4 : Int) (a2 : Int) (a3 : Int) (a4_0 : Int) (a4_1 : Int) (a4_2 : Int) (a4_3 : Int) (a5 : Int) (r1 : Bool) (r2 : Bool) (r3 : Int) (r4 : Int) (r5 : Bool) (r6 : Int) (w : World) (h : guard_Pass.f k a0_0 a0_1 a0_2 a0_3 a1_0 a1_1 a1_2 a1_3 a1_4 a2 a3 a4_0 a4_1 a4_2 a4_3 a5 = some (r1, r2, r3, r4, r5, r6)) :
  Calls Try.prog 27 #[.agg #[.bool a0_0, .bool a0_1, .int .u64 a0_2, .int .i64 a0_3], .agg #[.int .i64 a1_0, .int .i64 a1_1, .int .i64 a1_2, .int .i64 a1_3, .int .i64 a1_4], .int .i64 a2, .int .i64 a3, .agg #[.int .i64 a4_0, .int .i64 a4_1, .int .u64 a4_2, .int .u16 a4_3], .int .i64 a5] w fun e w' => e = .returned (.tuple #[.agg #[.bool r1, .bool r2, .int .u64 r3, .int .i64 r4], .bool r5, .int .i64 r6]) ∧ Below w.heap.size w w' := by
 have hu55 := Try.underlying55
 have hu23 := Try.underlying23
 have hu52 := Try.underlying52
 have hu69 := Try.underlying69
 have HB := Aside0.mk (Below.refl w.heap.size w)
 have H : ((guard_scaled.f a1_0 a1_1 a1_2 a1_3 a1_4 a2).bind fun bt307 => (if bt307.2.2.2 = 0 then ((guard_Check.f k a0_0 a0_1 a0_2 a0_3).bind fun t312 => (if t312 = 0 then ((guard_node.f a1_0 a1_1 a1_2 a1_3 a1_4 a3).bind fun t313 => (if t313 = true then (if a5 < 0 then (guard_Pass.j0 k a3 a5 true a0_0 a0_1 a0_2 a0_3 a1_0 a1_1 a1_2 a1_3 a1_4 a4_0 a4_1 a4_2 a4_3 bt307.1 bt307.2.1 bt307.2.2.1) else ((pico_May.f k (([a5] : List Int))).bind fun t317 => (guard_Pass.j0 k a3 a5 (!t317) a0_0 a0_1 a0_2 a0_3 a1_0 a1_1 a1_2 a1_3 a1_4 a4_0 a4_1 a4_2 a4_3 bt307.1 bt307.2.1 bt307.2.2.1))) else (guard_Pass.j0 k a3 a5 true a0_0 a0_1 a0_2 a0_3 a1_0 a1_1 a1_2 a1_3 a1_4 a4_0 a4_1 a4_2 a4_3 bt307.1 bt307.2.1 bt307.2.2.1))) else (guard_Pass.j0 k a3 a5 true a0_0 a0_1 a0_2 a0_3 a1_0 a1_1 a1_2 a1_3 a1_4 a4_0 a4_1 a4_2 a4_3 bt307.1 bt307.2.1 bt307.2.2.1))) else (guard_Pass.j0 k a3 a5 true a0_0 a0_1 a0_2 a0_3 a1_0 a1_1 a1_2 a1_3 a1_4 a4_0 a4_1 a4_2 a4_3 bt307.1 bt307.2.1 bt307.2.2.1))) = some (r1, r2, r3, r4, r5, r6) := h
 clear h
 replace H := Option.bind_eq_some_iff.mp H
 obtain ⟨⟨t307, t308, t309, t310⟩, A70, H⟩ := H
 replace H : (if t310 = 0 then ((guard_Check.f k a0_0 a0_1 a0_2 a0_3).bind fun t312 => (if t312 = 0 then ((guard_node.f a1_0 a1_1 a1_2 a1_3 a1_4 a3).bind fun t313 => (if t313 = true then (if a5 < 0 then (guard_Pass.j0 k a3 a5 true a0_0 a0_1 a0_2 a0_3 a1_0 a1_1 a1_2 a1_3 a1_4 a4_0 a4_1 a4_2 a4_3 t307 t308 t309) else ((pico_May.f k (([a5] : List Int))).bind fun t317 => (guard_Pass.j0 k a3 a5 (!t317) a0_0 a0_1 a0_2 a0_3 a1_0 a1_1 a1_2 a1_3 a1_4 a4_0 a4_1 a4_2 a4_3 t307 t308 t309))) else (guard_Pass.j0 k a3 a5 true a0_0 a0_1 a0_2 a0_3 a1_0 a1_1 a1_2 a1_3 a1_4 a4_0 a4_1 a4_2 a4_3 t307 t308 t309))) else (guard_Pass.j0 k a3 a5 true a0_0 a0_1 a0_2 a0_3 a1_0 a1_1 a1_2 a1_3 a1_4 a4_0 a4_1 a4_2 a4_3 t307 t308 t309))) else (guard_Pass.j0 k a3 a5 true a0_0 a0_1 a0_2 a0_3 a1_0 a1_1 a1_2 a1_3 a1_4 a4_0 a4_1 a4_2 a4_3 t307 t308 t309)) = some (r1, r2, r3, r4, r5, r6) := H
 have A7 := Aside0.mk A70
 clear A70
 have HC8 := Aside0.mk H
 clear H
 go_enter Try.func27, Try.ntmps27
 go_upto_region 2 with (first | ((with_reducible refine gate_dst (N := 6) rfl ?_); (try (refine gate_guard (by rfl) ?_; dsimp only)); refine box_event ?hg (N := 6) ?hd (cs := #[.bool a0_0, .bool a0_1, .int .u64 a0_2, .int .i64 a0_3]) (t := 55) ?hr ?_; (case hd => rfl); (case hg => rfl); (case hr => first | (go_simp; done) | (go_simp; rfl)); intro gb303 hg w9 hbox hb; have n0_ := Aside0.mk (below_step (by repeat (first | (with_reducible first | exact HB.out | apply below_alloc | apply pw_below_drewN | apply below_drew1) | exact HB.out)) hb); have n1_ := Aside0.mk (hbox); have n2_ := Aside0.mk ((by rw [hg]; exact (below_size (by repeat (first | (with_reducible first | exact HB.out | apply below_alloc | apply pw_below_drewN | apply below_drew1) | exact HB.out))) : w.heap.size ≤ gb303)); have n3_ := Aside0.mk ((by rw [hg]; exact (below_size (by repeat (first | (with_reducible first | exact HB.out | apply below_alloc | apply pw_below_drewN | apply below_drew1) | exact HB.out))) : w.heap.size ≤ gb303)); clear HB; have HB := n0_; have BK303 := n1_; have GW303 := n2_; have GE303 := n3_; clear n0_ n1_ n2_ n3_; clear hb hbox hg) | ((with_reducible refine gate_dst (N := 7) rfl ?_); (try (refine gate_guard (by rfl) ?_; dsimp only)); refine box_event ?hg (N := 7) ?hd (cs := #[.int .i64 a1_0, .int .i64 a1_1, .int .i64 a1_2, .int .i64 a1_3, .int .i64 a1_4]) (t := 23) ?hr ?_; (case hd => rfl); (case hg => rfl); (case hr => first | (go_simp; done) | (go_simp; rfl)); intro gb304 hg w10 hbox hb; have n0_ := Aside0.mk (blk_below (g := gb303) (o := .cells #[.bool a0_0, .bool a0_1, .int .u64 a0_2, .int .i64 a0_3] 55 (0, 0)) (by (with_reducible repeat (first | refine blk_drewN ?_ _ | refine blk_drew ?_ | refine blk_alloc ?_ _)); exact BK303.out) hb); have n1_ := Aside0.mk (below_step (by repeat (first | (with_reducible first | exact HB.out | apply below_alloc | apply pw_below_drewN | apply below_drew1 | refine below_set ?_ GE303.out) | exact HB.out)) hb); have n2_ := Aside0.mk (hbox); have n3_ := Aside0.mk ((by rw [hg]; exact (below_size (by repeat (first | (with_reducible first | exact HB.out | apply below_alloc | apply pw_below_drewN | apply below_drew1 | refine below_set ?_ GE303.out) | exact HB.out))) : w.heap.size ≤ gb304)); have n4_ := Aside0.mk ((by rw [hg]; exact (below_size (by repeat (first | (with_reducible first | exact HB.out | apply below_alloc | apply pw_below_drewN | apply below_drew1 | refine below_set ?_ GE303.out) | exact HB.out))) : w.heap.size ≤ gb304)); have n5_ := Aside0.mk ((by rw [hg]; exact Nat.ne_of_lt (blk_lt (g := gb303) (o := .cells #[.bool a0_0, .bool a0_1, .int .u64 a0_2, .int .i64 a0_3] 55 (0, 0)) (by (with_reducible repeat (first | refine blk_drewN ?_ _ | refine blk_drew ?_ | refine blk_alloc ?_ _)); exact BK303.out)) : gb303 ≠ gb304)); have n6_ := Aside0.mk ((by rw [hg]; exact Nat.ne_of_gt (blk_lt (g := gb303) (o := .cells #[.bool a0_0, .bool a0_1, .int .u64 a0_2, .int .i64 a0_3] 55 (0, 0)) (by (with_reducible repeat (first | refine blk_drewN ?_ _ | refine blk_drew ?_ | refine blk_alloc ?_ _)); exact BK303.out)) : gb304 ≠ gb303)); clear BK303; clear HB; have BK303 := n0_; have HB := n1_; have BK304 := n2_; have GW304 := n3_; have GE304 := n4_; have NB303_304 := n5_; have NB304_303 := n6_; clear n0_ n1_ n2_ n3_ n4_ n5_ n6_; clear hb hbox hg) | ((with_reducible refine gate_dst (N := 10) rfl ?_); (try (refine gate_guard (by rfl) ?_; dsimp only)); refine box_event ?hg (N := 10) ?hd (cs := #[.int .i64 a4_0, .int .i64 a4_1, .int .u64 a4_2, .int .u16 a4_3]) (t := 52) ?hr ?_; (case hd => rfl); (case hg => rfl); (case hr => first | (go_simp; done) | (go_simp; rfl)); intro gb305 hg w11 hbox hb; have n0_ := Aside0.mk (blk_below (g := gb303) (o := .cells #[.bool a0_0, .bool a0_1, .int .u64 a0_2, .int .i64 a0_3] 55 (0, 0)) (by (with_reducible repeat (first | refine blk_drewN ?_ _ | refine blk_drew ?_ | refine blk_alloc ?_ _)); exact BK303.out) hb); have n1_ := Aside0.mk (blk_below (g := gb304) (o := .cells #[.int .i64 a1_0, .int .i64 a1_1, .int .i64 a1_2, .int .i64 a1_3, .int .i64 a1_4] 23 (0, 0)) (by (with_reducible repeat (first | refine blk_drewN ?_ _ | refine blk_drew ?_ | refine blk_alloc ?_ _)); exact BK304.out) hb); have n2_ := Aside0.mk (below_step (by repeat (first | (with_reducible first | exact HB.out | apply below_alloc | apply pw_below_drewN | apply below_drew1 | refine below_set ?_ GE303.out | refine below_set ?_ GE304.out) | exact HB.out)) hb); have n3_ := Aside0.mk (hbox); have n4_ := Aside0.mk ((by rw [hg]; exact (below_size (by repeat (first | (with_reducible first | exact HB.out | apply below_alloc | apply pw_below_drewN | apply below_drew1 | refine below_set ?_ GE303.out | refine below_set ?_ GE304.out) | exact HB.out))) : w.heap.size ≤ gb305)); have n5_ := Aside0.mk ((by rw [hg]; exact (below_size (by repeat (first | (with_reducible first | exact HB.out | apply below_alloc | apply pw_below_drewN | apply below_drew1 | refine below_set ?_ GE303.out | refine below_set ?_ GE304.out) | exact HB.out))) : w.heap.size ≤ gb305)); have n6_ := Aside0.mk ((by rw [hg]; exact Nat.ne_of_lt (blk_lt (g := gb303) (o := .cells #[.bool a0_0, .bool a0_1, .int .u64 a0_2, .int .i64 a0_3] 55 (0, 0)) (by (with_reducible repeat (first | refine blk_drewN ?_ _ | refine blk_drew ?_ | refine blk_alloc ?_ _)); exact BK303.out)) : gb303 ≠ gb305)); have n7_ := Aside0.mk ((by rw [hg]; exact Nat.ne_of_gt (blk_lt (g := gb303) (o := .cells #[.bool a0_0, .bool a0_1, .int .u64 a0_2, .int .i64 a0_3] 55 (0, 0)) (by (with_reducible repeat (first | refine blk_drewN ?_ _ | refine blk_drew ?_ | refine blk_alloc ?_ _)); exact BK303.out)) : gb305 ≠ gb303)); have n8_ := Aside0.mk ((by rw [hg]; exact Nat.ne_of_lt (blk_lt (g := gb304) (o := .cells #[.int .i64 a1_0, .int .i64 a1_1, .int .i64 a1_2, .int .i64 a1_3, .int .i64 a1_4] 23 (0, 0)) (by (with_reducible repeat (first | refine blk_drewN ?_ _ | refine blk_drew ?_ | refine blk_alloc ?_ _)); exact BK304.out)) : gb304 ≠ gb305)); have n9_ := Aside0.mk ((by rw [hg]; exact Nat.ne_of_gt (blk_lt (g := gb304) (o := .cells #[.int .i64 a1_0, .int .i64 a1_1, .int .i64 a1_2, .int .i64 a1_3, .int .i64 a1_4] 23 (0, 0)) (by (with_reducible repeat (first | refine blk_drewN ?_ _ | refine blk_drew ?_ | refine blk_alloc ?_ _)); exact BK304.out)) : gb305 ≠ gb304)); clear BK303; clear BK304; clear HB; have BK303 := n0_; have BK304 := n1_; have HB := n2_; have BK305 := n3_; have GW305 := n4_; have GE305 := n5_; have NB303_305 := n6_; have NB305_303 := n7_; have NB304_305 := n8_; have NB305_304 := n9_; clear n0_ n1_ n2_ n3_ n4_ n5_ n6_ n7_ n8_ n9_; clear hb hbox hg) | ((with_reducible refine gate_dst (N := 12) rfl ?_); (try (refine gate_guard (by rfl) ?_; dsimp only)); refine box_event ?hg (N := 12) ?hd (cs := #[.bool false, .bool false, .int .u64 0, .int .i64 0]) (t := 55) ?hr ?_; (case hd => rfl); (case hg => rfl); (case hr => first | (go_simp; done) | (go_simp; rfl)); intro gb306 hg w12 hbox hb; have n0_ := Aside0.mk (blk_below (g := gb303) (o := .cells #[.bool a0_0, .bool a0_1, .int .u64 a0_2, .int .i64 a0_3] 55 (0, 0)) (by (with_reducible repeat (first | refine blk_drewN ?_ _ | refine blk_drew ?_ | refine blk_alloc ?_ _)); exact BK303.out) hb); have n1_ := Aside0.mk (blk_below (g := gb304) (o := .cells #[.int .i64 a1_0, .int .i64 a1_1, .int .i64 a1_2, .int .i64 a1_3, .int .i64 a1_4] 23 (0, 0)) (by (with_reducible repeat (first | refine blk_drewN ?_ _ | refine blk_drew ?_ | refine blk_alloc ?_ _)); exact BK304.out) hb); have n2_ := Aside0.mk (blk_below (g := gb305) (o := .cells #[.int .i64 a4_0, .int .i64 a4_1, .int .u64 a4_2, .int .u16 a4_3] 52 (0, 0)) (by (with_reducible repeat (first | refine blk_drewN ?_ _ | refine blk_drew ?_ | refine blk_alloc ?_ _)); exact BK305.out) hb); have n3_ := Aside0.mk (below_step (by repeat (first | (with_reducible first | exact HB.out | apply below_alloc | apply pw_below_drewN | apply below_drew1 | refine below_set ?_ GE303.out | refine below_set ?_ GE304.out | refine below_set ?_ GE305.out) | exact HB.out)) hb); have n4_ := Aside0.mk (hbox); have n5_ := Aside0.mk ((by rw [hg]; exact (below_size (by repeat (first | (with_reducible first | exact HB.out | apply below_alloc | apply pw_below_drewN | apply below_drew1 | refine below_set ?_ GE303.out | refine below_set ?_ GE304.out | refine below_set ?_ GE305.out) | exact HB.out))) : w.heap.size ≤ gb306)); have n6_ := Aside0.mk ((by rw [hg]; exact (below_size (by repeat (first | (with_reducible first | exact HB.out | apply below_alloc | apply pw_below_drewN | apply below_drew1 | refine below_set ?_ GE303.out | refine below_set ?_ GE304.out | refine below_set ?_ GE305.out) | exact HB.out))) : w.heap.size ≤ gb306)); have n7_ := Aside0.mk ((by rw [hg]; exact Nat.ne_of_lt (blk_lt (g := gb303) (o := .cells #[.bool a0_0, .bool a0_1, .int .u64 a0_2, .int .i64 a0_3] 55 (0, 0)) (by (with_reducible repeat (first | refine blk_drewN ?_ _ | refine blk_drew ?_ | refine blk_alloc ?_ _)); exact BK303.out)) : gb303 ≠ gb306)); have n8_ := Aside0.mk ((by rw [hg]; exact Nat.ne_of_gt (blk_lt (g := gb303) (o := .cells #[.bool a0_0, .bool a0_1, .int .u64 a0_2, .int .i64 a0_3] 55 (0, 0)) (by (with_reducible repeat (first | refine blk_drewN ?_ _ | refine blk_drew ?_ | refine blk_alloc ?_ _)); exact BK303.out)) : gb306 ≠ gb303)); have n9_ := Aside0.mk ((by rw [hg]; exact Nat.ne_of_lt (blk_lt (g := gb304) (o := .cells #[.int .i64 a1_0, .int .i64 a1_1, .int .i64 a1_2, .int .i64 a1_3, .int .i64 a1_4] 23 (0, 0)) (by (with_reducible repeat (first | refine blk_drewN ?_ _ | refine blk_drew ?_ | refine blk_alloc ?_ _)); exact BK304.out)) : gb304 ≠ gb306)); have n10_ := Aside0.mk ((by rw [hg]; exact Nat.ne_of_gt (blk_lt (g := gb304) (o := .cells #[.int .i64 a1_0, .int .i64 a1_1, .int .i64 a1_2, .int .i64 a1_3, .int .i64 a1_4] 23 (0, 0)) (by (with_reducible repeat (first | refine blk_drewN ?_ _ | refine blk_drew ?_ | refine blk_alloc ?_ _)); exact BK304.out)) : gb306 ≠ gb304)); have n11_ := Aside0.mk ((by rw [hg]; exact Nat.ne_of_lt (blk_lt (g := gb305) (o := .cells #[.int .i64 a4_0, .int .i64 a4_1, .int .u64 a4_2, .int .u16 a4_3] 52 (0, 0)) (by (with_reducible repeat (first | refine blk_drewN ?_ _ | refine blk_drew ?_ | refine blk_alloc ?_ _)); exact BK305.out)) : gb305 ≠ gb306)); have n12_ := Aside0.mk ((by rw [hg]; exact Nat.ne_of_gt (blk_lt (g := gb305) (o := .cells #[.int .i64 a4_0, .int .i64 a4_1, .int .u64 a4_2, .int .u16 a4_3] 52 (0, 0)) (by (with_reducible repeat (first | refine blk_drewN ?_ _ | refine blk_drew ?_ | refine blk_alloc ?_ _)); exact BK305.out)) : gb306 ≠ gb305)); clear BK303; clear BK304; clear BK305; clear HB; have BK303 := n0_; have BK304 := n1_; have BK305 := n2_; have HB := n3_; have BK306 := n4_; have GW306 := n5_; have GE306 := n6_; have NB303_306 := n7_; have NB306_303 := n8_; have NB304_306 := n9_; have NB306_304 := n10_; have NB305_306 := n11_; have NB306_305 := n12_; clear n0_ n1_ n2_ n3_ n4_ n5_ n6_ n7_ n8_ n9_ n10_ n11_ n12_; clear hb hbox hg; have hnb13 := NB304_303.out; have hnc13 := NB303_304.out; have hnb14 := NB304_305.out; have hnc14 := NB305_304.out; have hnb15 := NB304_306.out; have hnc15 := NB306_304.out; have hcz16_0 : w12.cell? ⟨gb304, 0, none⟩ = some (.int .i64 a1_0) := (blk_cell BK304.out 0).trans rfl; have hcz16_1 : w12.cell? ⟨gb304, 1, none⟩ = some (.int .i64 a1_1) := (blk_cell BK304.out 1).trans rfl; have hcz16_2 : w12.cell? ⟨gb304, 2, none⟩ = some (.int .i64 a1_2) := (blk_cell BK304.out 2).trans rfl; have hcz16_3 : w12.cell? ⟨gb304, 3, none⟩ = some (.int .i64 a1_3) := (blk_cell BK304.out 3).trans rfl; have hcz16_4 : w12.cell? ⟨gb304, 4, none⟩ = some (.int .i64 a1_4) := (blk_cell BK304.out 4).trans rfl; have hfz16_0 := blk_frozen BK304.out 0; have hfz16_1 := blk_frozen BK304.out 1; have hfz16_2 := blk_frozen BK304.out 2; have hfz16_3 := blk_frozen BK304.out 3; have hfz16_4 := blk_frozen BK304.out 4) | ((with_reducible refine gate_callee (f := 34) rfl ?_); refine goesL_ (some 23) rfl rfl Try.func34 (by kernel_rfl) rfl #[.agg #[.int .i64 a1_0, .int .i64 a1_1, .int .i64 a1_2, .int .i64 a1_3, .int .i64 a1_4], .int .i64 a2] rfl (by (try simp only [List.map_toArray, List.map_cons, List.map_nil]); first | done | rfl | (simp only [List.length_drop, List.length_take]; rfl)) ?_; (with_reducible refine (guard_scaled.calls a1_0 a1_1 a1_2 a1_3 a1_4 a2 t307 t308 t309 t310 _ A7.out).mono ?_); rintro e w17 ⟨rfl, hb⟩; refine ⟨_, rfl, ?_⟩; have n0_ := Aside0.mk (blk_below (g := gb303) (o := .cells #[.bool a0_0, .bool a0_1, .int .u64 a0_2, .int .i64 a0_3] 55 (0, 0)) (by (with_reducible repeat (first | refine blk_drewN ?_ _ | refine blk_drew ?_ | refine blk_alloc ?_ _)); exact BK303.out) hb); have n1_ := Aside0.mk (blk_below (g := gb304) (o := .cells #[.int .i64 a1_0, .int .i64 a1_1, .int .i64 a1_2, .int .i64 a1_3, .int .i64 a1_4] 23 (0, 0)) (by (with_reducible repeat (first | refine blk_drewN ?_ _ | refine blk_drew ?_ | refine blk_alloc ?_ _)); exact BK304.out) hb); have n2_ := Aside0.mk (blk_below (g := gb305) (o := .cells #[.int .i64 a4_0, .int .i64 a4_1, .int .u64 a4_2, .int .u16 a4_3] 52 (0, 0)) (by (with_reducible repeat (first | refine blk_drewN ?_ _ | refine blk_drew ?_ | refine blk_alloc ?_ _)); exact BK305.out) hb); have n3_ := Aside0.mk (blk_below (g := gb306) (o := .cells #[.bool false, .bool false, .int .u64 0, .int .i64 0] 55 (0, 0)) (by (with_reducible repeat (first | refine blk_drewN ?_ _ | refine blk_drew ?_ | refine blk_alloc ?_ _)); exact BK306.out) hb); have n4_ := Aside0.mk (below_step (by repeat (first | (with_reducible first | exact HB.out | apply below_alloc | apply pw_below_drewN | apply below_drew1 | refine below_set ?_ GE303.out | refine below_set ?_ GE304.out | refine below_set ?_ GE305.out | refine below_set ?_ GE306.out) | exact HB.out)) hb); clear BK303; clear BK304; clear BK305; clear BK306; clear HB; have BK303 := n0_; have BK304 := n1_; have BK305 := n2_; have BK306 := n3_; have HB := n4_; clear n0_ n1_ n2_ n3_ n4_; (try clear hb); (try clear hb2); (try clear hk); (try clear hi)) | ((with_reducible refine gate_dst (N := 15) rfl ?_); (try (refine gate_guard (by rfl) ?_; dsimp only)); refine box_event ?hg (N := 15) ?hd (cs := #[.int .i64 0, .int .i64 0, .int .i64 0]) (t := 69) ?hr ?_; (case hd => rfl); (case hg => rfl); (case hr => first | (go_simp; done) | (go_simp; rfl)); intro gb311 hg w18 hbox hb; have n0_ := Aside0.mk (blk_below (g := gb303) (o := .cells #[.bool a0_0, .bool a0_1, .int .u64 a0_2, .int .i64 a0_3] 55 (0, 0)) (by (with_reducible repeat (first | refine blk_drewN ?_ _ | refine blk_drew ?_ | refine blk_alloc ?_ _)); exact BK303.out) hb); have n1_ := Aside0.mk (blk_below (g := gb304) (o := .cells #[.int .i64 a1_0, .int .i64 a1_1, .int .i64 a1_2, .int .i64 a1_3, .int .i64 a1_4] 23 (0, 0)) (by (with_reducible repeat (first | refine blk_drewN ?_ _ | refine blk_drew ?_ | refine blk_alloc ?_ _)); exact BK304.out) hb); have n2_ := Aside0.mk (blk_below (g := gb305) (o := .cells #[.int .i64 a4_0, .int .i64 a4_1, .int .u64 a4_2, .int .u16 a4_3] 52 (0, 0)) (by (with_reducible repeat (first | refine blk_drewN ?_ _ | refine blk_drew ?_ | refine blk_alloc ?_ _)); exact BK305.out) hb); have n3_ := Aside0.mk (blk_below (g := gb306) (o := .cells #[.bool false, .bool false, .int .u64 0, .int .i64 0] 55 (0, 0)) (by (with_reducible repeat (first | refine blk_drewN ?_ _ | refine blk_drew ?_ | refine blk_alloc ?_ _)); exact BK306.out) hb); have n4_ := Aside0.mk (below_step (by repeat (first | (with_reducible first | exact HB.out | apply below_alloc | apply pw_below_drewN | apply below_drew1 | refine below_set ?_ GE303.out | refine below_set ?_ GE304.out | refine below_set ?_ GE305.out | refine below_set ?_ GE306.out) | exact HB.out)) hb); have n5_ := Aside0.mk (hbox); have n6_ := Aside0.mk ((by rw [hg]; exact (below_size (by repeat (first | (with_reducible first | exact HB.out | apply below_alloc | apply pw_below_drewN | apply below_drew1 | refine below_set ?_ GE303.out | refine below_set ?_ GE304.out | refine below_set ?_ GE305.out | refine below_set ?_ GE306.out) | exact HB.out))) : w.heap.size ≤ gb311)); have n7_ := Aside0.mk ((by rw [hg]; exact (below_size (by repeat (first | (with_reducible first | exact HB.out | apply below_alloc | apply pw_below_drewN | apply below_drew1 | refine below_set ?_ GE303.out | refine below_set ?_ GE304.out | refine below_set ?_ GE305.out | refine below_set ?_ GE306.out) | exact HB.out))) : w.heap.size ≤ gb311)); have n8_ := Aside0.mk ((by rw [hg]; exact Nat.ne_of_lt (blk_lt (g := gb303) (o := .cells #[.bool a0_0, .bool a0_1, .int .u64 a0_2, .int .i64 a0_3] 55 (0, 0)) (by (with_reducible repeat (first | refine blk_drewN ?_ _ | refine blk_drew ?_ | refine blk_alloc ?_ _)); exact BK303.out)) : gb303 ≠ gb311)); have n9_ := Aside0.mk ((by rw [hg]; exact Nat.ne_of_gt (blk_lt (g := gb303) (o := .cells #[.bool a0_0, .bool a0_1, .int .u64 a0_2, .int .i64 a0_3] 55 (0, 0)) (by (with_reducible repeat (first | refine blk_drewN ?_ _ | refine blk_drew ?_ | refine blk_alloc ?_ _)); exact BK303.out)) : gb311 ≠ gb303)); have n10_ := Aside0.mk ((by rw [hg]; exact Nat.ne_of_lt (blk_lt (g := gb304) (o := .cells #[.int .i64 a1_0, .int .i64 a1_1, .int .i64 a1_2, .int .i64 a1_3, .int .i64 a1_4] 23 (0, 0)) (by (with_reducible repeat (first | refine blk_drewN ?_ _ | refine blk_drew ?_ | refine blk_alloc ?_ _)); exact BK304.out)) : gb304 ≠ gb311)); have n11_ := Aside0.mk ((by rw [hg]; exact Nat.ne_of_gt (blk_lt (g := gb304) (o := .cells #[.int .i64 a1_0, .int .i64 a1_1, .int .i64 a1_2, .int .i64 a1_3, .int .i64 a1_4] 23 (0, 0)) (by (with_reducible repeat (first | refine blk_drewN ?_ _ | refine blk_drew ?_ | refine blk_alloc ?_ _)); exact BK304.out)) : gb311 ≠ gb304)); have n12_ := Aside0.mk ((by rw [hg]; exact Nat.ne_of_lt (blk_lt (g := gb305) (o := .cells #[.int .i64 a4_0, .int .i64 a4_1, .int .u64 a4_2, .int .u16 a4_3] 52 (0, 0)) (by (with_reducible repeat (first | refine blk_drewN ?_ _ | refine blk_drew ?_ | refine blk_alloc ?_ _)); exact BK305.out)) : gb305 ≠ gb311)); have n13_ := Aside0.mk ((by rw [hg]; exact Nat.ne_of_gt (blk_lt (g := gb305) (o := .cells #[.int .i64 a4_0, .int .i64 a4_1, .int .u64 a4_2, .int .u16 a4_3] 52 (0, 0)) (by (with_reducible repeat (first | refine blk_drewN ?_ _ | refine blk_drew ?_ | refine blk_alloc ?_ _)); exact BK305.out)) : gb311 ≠ gb305)); have n14_ := Aside0.mk ((by rw [hg]; exact Nat.ne_of_lt (blk_lt (g := gb306) (o := .cells #[.bool false, .bool false, .int .u64 0, .int .i64 0] 55 (0, 0)) (by (with_reducible repeat (first | refine blk_drewN ?_ _ | refine blk_drew ?_ | refine blk_alloc ?_ _)); exact BK306.out)) : gb306 ≠ gb311)); have n15_ := Aside0.mk ((by rw [hg]; exact Nat.ne_of_gt (blk_lt (g := gb306) (o := .cells #[.bool false, .bool false, .int .u64 0, .int .i64 0] 55 (0, 0)) (by (with_reducible repeat (first | refine blk_drewN ?_ _ | refine blk_drew ?_ | refine blk_alloc ?_ _)); exact BK306.out)) : gb311 ≠ gb306)); clear BK303; clear BK304; clear BK305; clear BK306; clear HB; have BK303 := n0_; have BK304 := n1_; have BK305 := n2_; have BK306 := n3_; have HB := n4_; have BK311 := n5_; have GW311 := n6_; have GE311 := n7_; have NB303_311 := n8_; have NB311_303 := n9_; have NB304_311 := n10_; have NB311_304 := n11_; have NB305_311 := n12_; have NB311_305 := n13_; have NB306_311 := n14_; have NB311_306 := n15_; clear n0_ n1_ n2_ n3_ n4_ n5_ n6_ n7_ n8_ n9_ n10_ n11_ n12_ n13_ n14_ n15_; clear hb hbox hg; have hnb19 := NB311_303.out; have hnc19 := NB303_311.out; have hnb20 := NB311_304.out; have hnc20 := NB304_311.out; have hnb21 := NB311_305.out; have hnc21 := NB305_311.out; have hnb22 := NB311_306.out; have hnc22 := NB306_311.out; have hcz23_0 : w18.cell? ⟨gb311, 0, none⟩ = some (.int .i64 0) := (blk_cell BK311.out 0).trans rfl; have hcz23_1 : w18.cell? ⟨gb311, 1, none⟩ = some (.int .i64 0) := (blk_cell BK311.out 1).trans rfl; have hcz23_2 : w18.cell? ⟨gb311, 2, none⟩ = some (.int .i64 0) := (blk_cell BK311.out 2).trans rfl; have hfz23_0 := blk_frozen BK311.out 0; have hfz23_1 := blk_frozen BK311.out 1; have hfz23_2 := blk_frozen BK311.out 2))
 (try simp only [Act.put, List.setIfInBounds_toArray, List.set_cons_zero, List.set_cons_succ])
 go_cut [26] (fun v26 wc => ∃ (kq : Nat) (x26_7 : Bool), v26 = .bool x26_7 ∧ Aside0 (guard_Pass.j0 kq a3 a5 x26_7 a0_0 a0_1 a0_2 a0_3 a1_0 a1_1 a1_2 a1_3 a1_4 a4_0 a4_1 a4_2 a4_3 t307 t308 t309 = some (r1, r2, r3, r4, r5, r6)) ∧ Aside0 (kq ≤ k) ∧ Aside0 (wc.heap[gb303]? = some (.cells #[.bool a0_0, .bool a0_1, .int .u64 a0_2, .int .i64 a0_3] 55 (0, 0))) ∧ Aside0 (wc.heap[gb304]? = some (.cells #[.int .i64 a1_0, .int .i64 a1_1, .int .i64 a1_2, .int .i64 a1_3, .int .i64 a1_4] 23 (0, 0))) ∧ Aside0 (wc.heap[gb305]? = some (.cells #[.int .i64 a4_0, .int .i64 a4_1, .int .u64 a4_2, .int .u16 a4_3] 52 (0, 0))) ∧ Aside0 (wc.heap[gb306]? = some (.cells #[.bool false, .bool false, .int .u64 0, .int .i64 0] 55 (0, 0))) ∧ Aside0 (wc.heap[gb311]? = some (.cells #[.int .i64 t307, .int .i64 t308, .int .i64 t309] 69 (0, 0))) ∧ Aside0 (Below w.heap.size w wc))
 case first =>
  have H := HC8.out
  clear HC8
  by_cases c24 : t310 = 0
  ·rw [if_pos c24] at H
   have c24b0 : (t310 == 0) = true := beq_iff_eq.mpr c24
   have c24b1 : (t310 != 0) = false := bne_eq_false_iff_eq.mpr c24
   clear c24
   (first | rw [c24b0] | (simp only [i64_w, i32_w]; rw [c24b0]) | skip)
   replace H := Option.bind_eq_some_iff.mp H
   obtain ⟨t312, A250, H⟩ := H
   replace H : (if t312 = 0 then ((guard_node.f a1_0 a1_1 a1_2 a1_3 a1_4 a3).bind fun t313 => (if t313 = true then (if a5 < 0 then (guard_Pass.j0 k a3 a5 true a0_0 a0_1 a0_2 a0_3 a1_0 a1_1 a1_2 a1_3 a1_4 a4_0 a4_1 a4_2 a4_3 t307 t308 t309) else ((pico_May.f k (([a5] : List Int))).bind fun t317 => (guard_Pass.j0 k a3 a5 (!t317) a0_0 a0_1 a0_2 a0_3 a1_0 a1_1 a1_2 a1_3 a1_4 a4_0 a4_1 a4_2 a4_3 t307 t308 t309))) else (guard_Pass.j0 k a3 a5 true a0_0 a0_1 a0_2 a0_3 a1_0 a1_1 a1_2 a1_3 a1_4 a4_0 a4_1 a4_2 a4_3 t307 t308 t309))) else (guard_Pass.j0 k a3 a5 true a0_0 a0_1 a0_2 a0_3 a1_0 a1_1 a1_2 a1_3 a1_4 a4_0 a4_1 a4_2 a4_3 t307 t308 t309)) = some (r1, r2, r3, r4, r5, r6) := H
   have A25 := Aside0.mk A250
   clear A250
   by_cases c26 : t312 = 0
   ·rw [if_pos c26] at H
    have c26b0 : (t312 == 0) = true := beq_iff_eq.mpr c26
    have c26b1 : (t312 != 0) = false := bne_eq_false_iff_eq.mpr c26
    clear c26
    replace H := Option.bind_eq_some_iff.mp H
    obtain ⟨t313, A270, H⟩ := H
    replace H : (if t313 = true then (if a5 < 0 then (guard_Pass.j0 k a3 a5 true a0_0 a0_1 a0_2 a0_3 a1_0 a1_1 a1_2 a1_3 a1_4 a4_0 a4_1 a4_2 a4_3 t307 t308 t309) else ((pico_May.f k (([a5] : List Int))).bind fun t317 => (guard_Pass.j0 k a3 a5 (!t317) a0_0 a0_1 a0_2 a0_3 a1_0 a1_1 a1_2 a1_3 a1_4 a4_0 a4_1 a4_2 a4_3 t307 t308 t309))) else (guard_Pass.j0 k a3 a5 true a0_0 a0_1 a0_2 a0_3 a1_0 a1_1 a1_2 a1_3 a1_4 a4_0 a4_1 a4_2 a4_3 t307 t308 t309)) = some (r1, r2, r3, r4, r5, r6) := H
    have A27 := Aside0.mk A270
    clear A270
    by_cases c28 : t313 = true
    ·subst c28
     have H1 : (if a5 < 0 then (guard_Pass.j0 k a3 a5 true a0_0 a0_1 a0_2 a0_3 a1_0 a1_1 a1_2 a1_3 a1_4 a4_0 a4_1 a4_2 a4_3 t307 t308 t309) else ((pico_May.f k (([a5] : List Int))).bind fun t317 => (guard_Pass.j0 k a3 a5 (!t317) a0_0 a0_1 a0_2 a0_3 a1_0 a1_1 a1_2 a1_3 a1_4 a4_0 a4_1 a4_2 a4_3 t307 t308 t309))) = some (r1, r2, r3, r4, r5, r6) := by rw [if_pos rfl] at H; exact H
     clear H
     have H := H1
     clear H1
     by_cases c29 : a5 < 0
     ·rw [if_pos c29] at H
      have c29b0 : decide (a5 < 0) = true := decide_eq_true c29
      clear c29
      have H' := Aside0.mk H
      clear H
      have hnb30 := NB303_304.out
      have hnc30 := NB304_303.out
      have hnb31 := NB303_305.out
      have hnc31 := NB305_303.out
      have hnb32 := NB303_306.out
      have hnc32 := NB306_303.out
      have hnb33 := NB303_311.out
      have hnc33 := NB311_303.out
      have hcz34_0 : w18.cell? ⟨gb303, 0, none⟩ = some (.bool a0_0) := (blk_cell BK303.out 0).trans rfl
      have hcz34_1 : w18.cell? ⟨gb303, 1, none⟩ = some (.bool a0_1) := (blk_cell BK303.out 1).trans rfl
      have hcz34_2 : w18.cell? ⟨gb303, 2, none⟩ = some (.int .u64 a0_2) := (blk_cell BK303.out 2).trans rfl
      have hcz34_3 : w18.cell? ⟨gb303, 3, none⟩ = some (.int .i64 a0_3) := (blk_cell BK303.out 3).trans rfl
      have hfz34_0 := blk_frozen BK303.out 0
      have hfz34_1 := blk_frozen BK303.out 1
      have hfz34_2 := blk_frozen BK303.out 2
      have hfz34_3 := blk_frozen BK303.out 3
      go_wp2_with (first | (go_at_call 28; (with_reducible refine (guard_Check.calls k a0_0 a0_1 a0_2 a0_3 t312 _ A25.out).mono ?_); rintro e w35 ⟨rfl, hb⟩; have n0_ := Aside0.mk (blk_below (g := gb303) (o := .cells #[.bool a0_0, .bool a0_1, .int .u64 a0_2, .int .i64 a0_3] 55 (0, 0)) (by (with_reducible repeat (first | refine blk_drewN ?_ _ | refine blk_drew ?_ | refine blk_alloc ?_ _)); refine blk_far ?_ NB303_311.out _; (with_reducible repeat (first | refine blk_drewN ?_ _ | refine blk_drew ?_ | refine blk_alloc ?_ _)); refine blk_far ?_ NB303_311.out _; (with_reducible repeat (first | refine blk_drewN ?_ _ | refine blk_drew ?_ | refine blk_alloc ?_ _)); refine blk_far ?_ NB303_311.out _; (with_reducible repeat (first | refine blk_drewN ?_ _ | refine blk_drew ?_ | refine blk_alloc ?_ _)); exact BK303.out) hb); have n1_ := Aside0.mk (blk_below (g := gb304) (o := .cells #[.int .i64 a1_0, .int .i64 a1_1, .int .i64 a1_2, .int .i64 a1_3, .int .i64 a1_4] 23 (0, 0)) (by (with_reducible repeat (first | refine blk_drewN ?_ _ | refine blk_drew ?_ | refine blk_alloc ?_ _)); refine blk_far ?_ NB304_311.out _; (with_reducible repeat (first | refine blk_drewN ?_ _ | refine blk_drew ?_ | refine blk_alloc ?_ _)); refine blk_far ?_ NB304_311.out _; (with_reducible repeat (first | refine blk_drewN ?_ _ | refine blk_drew ?_ | refine blk_alloc ?_ _)); refine blk_far ?_ NB304_311.out _; (with_reducible repeat (first | refine blk_drewN ?_ _ | refine blk_drew ?_ | refine blk_alloc ?_ _)); exact BK304.out) hb); have n2_ := Aside0.mk (blk_below (g := gb305) (o := .cells #[.int .i64 a4_0, .int .i64 a4_1, .int .u64 a4_2, .int .u16 a4_3] 52 (0, 0)) (by (with_reducible repeat (first | refine blk_drewN ?_ _ | refine blk_drew ?_ | refine blk_alloc ?_ _)); refine blk_far ?_ NB305_311.out _; (with_reducible repeat (first | refine blk_drewN ?_ _ | refine blk_drew ?_ | refine blk_alloc ?_ _)); refine blk_far ?_ NB305_311.out _; (with_reducible repeat (first | refine blk_drewN ?_ _ | refine blk_drew ?_ | refine blk_alloc ?_ _)); refine blk_far ?_ NB305_311.out _; (with_reducible repeat (first | refine blk_drewN ?_ _ | refine blk_drew ?_ | refine blk_alloc ?_ _)); exact BK305.out) hb); have n3_ := Aside0.mk (blk_below (g := gb306) (o := .cells #[.bool false, .bool false, .int .u64 0, .int .i64 0] 55 (0, 0)) (by (with_reducible repeat (first | refine blk_drewN ?_ _ | refine blk_drew ?_ | refine blk_alloc ?_ _)); refine blk_far ?_ NB306_311.out _; (with_reducible repeat (first | refine blk_drewN ?_ _ | refine blk_drew ?_ | refine blk_alloc ?_ _)); refine blk_far ?_ NB306_311.out _; (with_reducible repeat (first | refine blk_drewN ?_ _ | refine blk_drew ?_ | refine blk_alloc ?_ _)); refine blk_far ?_ NB306_311.out _; (with_reducible repeat (first | refine blk_drewN ?_ _ | refine blk_drew ?_ | refine blk_alloc ?_ _)); exact BK306.out) hb); have n4_ := Aside0.mk (blk_below (g := gb311) (o := .cells #[.int .i64 t307, .int .i64 t308, .int .i64 t309] 69 (0, 0)) (by (with_reducible repeat (first | refine blk_drewN ?_ _ | refine blk_drew ?_ | refine blk_alloc ?_ _)); refine blk_put (cs := #[.int .i64 t307, .int .i64 t308, .int .i64 0]) ?_ 2 _ rfl; (with_reducible repeat (first | refine blk_drewN ?_ _ | refine blk_drew ?_ | refine blk_alloc ?_ _)); refine blk_put (cs := #[.int .i64 t307, .int .i64 0, .int .i64 0]) ?_ 1 _ rfl; (with_reducible repeat (first | refine blk_drewN ?_ _ | refine blk_drew ?_ | refine blk_alloc ?_ _)); refine blk_put (cs := #[.int .i64 0, .int .i64 0, .int .i64 0]) ?_ 0 _ rfl; (with_reducible repeat (first | refine blk_drewN ?_ _ | refine blk_drew ?_ | refine blk_alloc ?_ _)); exact BK311.out) hb); have n5_ := Aside0.mk (below_step (by repeat (first | (with_reducible first | exact HB.out | apply below_alloc | apply pw_below_drewN | apply below_drew1 | refine below_set ?_ GE303.out | refine below_set ?_ GE304.out | refine below_set ?_ GE305.out | refine below_set ?_ GE306.out | refine below_set ?_ GE311.out) | exact HB.out)) hb); clear BK303; clear BK304; clear BK305; clear BK306; clear BK311; clear HB; have BK303 := n0_; have BK304 := n1_; have BK305 := n2_; have BK306 := n3_; have BK311 := n4_; have HB := n5_; clear n0_ n1_ n2_ n3_ n4_ n5_; (try clear hb); (try clear hb2); (try clear hk); (try clear hi); have hnb36 := NB304_305.out; have hnc36 := NB305_304.out; have hnb37 := NB304_306.out; have hnc37 := NB306_304.out; have hnb38 := NB304_311.out; have hnc38 := NB311_304.out; have hcz39_0 : w35.cell? ⟨gb304, 0, none⟩ = some (.int .i64 a1_0) := (blk_cell BK304.out 0).trans rfl; have hcz39_1 : w35.cell? ⟨gb304, 1, none⟩ = some (.int .i64 a1_1) := (blk_cell BK304.out 1).trans rfl; have hcz39_2 : w35.cell? ⟨gb304, 2, none⟩ = some (.int .i64 a1_2) := (blk_cell BK304.out 2).trans rfl; have hcz39_3 : w35.cell? ⟨gb304, 3, none⟩ = some (.int .i64 a1_3) := (blk_cell BK304.out 3).trans rfl; have hcz39_4 : w35.cell? ⟨gb304, 4, none⟩ = some (.int .i64 a1_4) := (blk_cell BK304.out 4).trans rfl; have hfz39_0 := blk_frozen BK304.out 0; have hfz39_1 := blk_frozen BK304.out 1; have hfz39_2 := blk_frozen BK304.out 2; have hfz39_3 := blk_frozen BK304.out 3; have hfz39_4 := blk_frozen BK304.out 4) | (go_at_call 39; (with_reducible refine (guard_node.calls a1_0 a1_1 a1_2 a1_3 a1_4 a3 true _ A27.out).mono ?_); rintro e w40 ⟨rfl, hb⟩; have n0_ := Aside0.mk (blk_below (g := gb303) (o := .cells #[.bool a0_0, .bool a0_1, .int .u64 a0_2, .int .i64 a0_3] 55 (0, 0)) (by (with_reducible repeat (first | refine blk_drewN ?_ _ | refine blk_drew ?_ | refine blk_alloc ?_ _)); exact BK303.out) hb); have n1_ := Aside0.mk (blk_below (g := gb304) (o := .cells #[.int .i64 a1_0, .int .i64 a1_1, .int .i64 a1_2, .int .i64 a1_3, .int .i64 a1_4] 23 (0, 0)) (by (with_reducible repeat (first | refine blk_drewN ?_ _ | refine blk_drew ?_ | refine blk_alloc ?_ _)); exact BK304.out) hb); have n2_ := Aside0.mk (blk_below (g := gb305) (o := .cells #[.int .i64 a4_0, .int .i64 a4_1, .int .u64 a4_2, .int .u16 a4_3] 52 (0, 0)) (by (with_reducible repeat (first | refine blk_drewN ?_ _ | refine blk_drew ?_ | refine blk_alloc ?_ _)); exact BK305.out) hb); have n3_ := Aside0.mk (blk_below (g := gb306) (o := .cells #[.bool false, .bool false, .int .u64 0, .int .i64 0] 55 (0, 0)) (by (with_reducible repeat (first | refine blk_drewN ?_ _ | refine blk_drew ?_ | refine blk_alloc ?_ _)); exact BK306.out) hb); have n4_ := Aside0.mk (blk_below (g := gb311) (o := .cells #[.int .i64 t307, .int .i64 t308, .int .i64 t309] 69 (0, 0)) (by (with_reducible repeat (first | refine blk_drewN ?_ _ | refine blk_drew ?_ | refine blk_alloc ?_ _)); exact BK311.out) hb); have n5_ := Aside0.mk (below_step (by repeat (first | (with_reducible first | exact HB.out | apply below_alloc | apply pw_below_drewN | apply below_drew1 | refine below_set ?_ GE303.out | refine below_set ?_ GE304.out | refine below_set ?_ GE305.out | refine below_set ?_ GE306.out | refine below_set ?_ GE311.out) | exact HB.out)) hb); clear BK303; clear BK304; clear BK305; clear BK306; clear BK311; clear HB; have BK303 := n0_; have BK304 := n1_; have BK305 := n2_; have BK306 := n3_; have BK311 := n4_; have HB := n5_; clear n0_ n1_ n2_ n3_ n4_ n5_; (try clear hb); (try clear hb2); (try clear hk); (try clear hi)))
      go_meet
      case rel => exact ⟨_, (true), (by first | rfl | (simp; done) | (simp [*]; done)), H', ⟨by first | omega | exact Nat.le_refl _⟩, ⟨by (with_reducible repeat (first | refine blk_drewN ?_ _ | refine blk_drew ?_ | refine blk_alloc ?_ _)); exact BK303.out⟩, ⟨by (with_reducible repeat (first | refine blk_drewN ?_ _ | refine blk_drew ?_ | refine blk_alloc ?_ _)); exact BK304.out⟩, ⟨by (with_reducible repeat (first | refine blk_drewN ?_ _ | refine blk_drew ?_ | refine blk_alloc ?_ _)); exact BK305.out⟩, ⟨by (with_reducible repeat (first | refine blk_drewN ?_ _ | refine blk_drew ?_ | refine blk_alloc ?_ _)); exact BK306.out⟩, ⟨by (with_reducible repeat (first | refine blk_drewN ?_ _ | refine blk_drew ?_ | refine blk_alloc ?_ _)); exact BK311.out⟩, ⟨by repeat (first | (with_reducible first | exact HB.out | apply below_alloc | apply pw_below_drewN | apply below_drew1 | refine below_set ?_ GE303.out | refine below_set ?_ GE304.out | refine below_set ?_ GE305.out | refine below_set ?_ GE306.out | refine below_set ?_ GE311.out) | exact HB.out)⟩⟩
     ·rw [if_neg c29] at H
      have c29b0 : decide (a5 < 0) = false := decide_eq_false c29
      clear c29
      obtain ⟨y314, hy314⟩ : ∃ y_ : List Int, y_ = (([a5] : List Int)) := ⟨_, rfl⟩
      replace H : ((pico_May.f k y314).bind fun t317 => (guard_Pass.j0 k a3 a5 (!t317) a0_0 a0_1 a0_2 a0_3 a1_0 a1_1 a1_2 a1_3 a1_4 a4_0 a4_1 a4_2 a4_3 t307 t308 t309)) = some (r1, r2, r3, r4, r5, r6) := by first | (rw [hy314]; with_reducible exact H) | (have H2_ := (Option.bind_some _ _).symm.trans H; rw [hy314]; with_reducible exact H2_) | (have H2_ := (Option.bind_some _ _).symm.trans H; with_reducible exact H2_) | with_reducible exact H | (rw [hy314]; exact H) | exact H
      have Ny314 := Aside0.mk hy314
      clear hy314
      replace H := Option.bind_eq_some_iff.mp H
      obtain ⟨t317, A410, H⟩ := H
      replace H : (guard_Pass.j0 k a3 a5 (!t317) a0_0 a0_1 a0_2 a0_3 a1_0 a1_1 a1_2 a1_3 a1_4 a4_0 a4_1 a4_2 a4_3 t307 t308 t309) = some (r1, r2, r3, r4, r5, r6) := H
      have A41 := Aside0.mk A410
      clear A410
      have H' := Aside0.mk H
      clear H
      have hnb42 := NB303_304.out
      have hnc42 := NB304_303.out
      have hnb43 := NB303_305.out
      have hnc43 := NB305_303.out
      have hnb44 := NB303_306.out
      have hnc44 := NB306_303.out
      have hnb45 := NB303_311.out
      have hnc45 := NB311_303.out
      have hcz46_0 : w18.cell? ⟨gb303, 0, none⟩ = some (.bool a0_0) := (blk_cell BK303.out 0).trans rfl
      have hcz46_1 : w18.cell? ⟨gb303, 1, none⟩ = some (.bool a0_1) := (blk_cell BK303.out 1).trans rfl
      have hcz46_2 : w18.cell? ⟨gb303, 2, none⟩ = some (.int .u64 a0_2) := (blk_cell BK303.out 2).trans rfl
      have hcz46_3 : w18.cell? ⟨gb303, 3, none⟩ = some (.int .i64 a0_3) := (blk_cell BK303.out 3).trans rfl
      have hfz46_0 := blk_frozen BK303.out 0
      have hfz46_1 := blk_frozen BK303.out 1
      have hfz46_2 := blk_frozen BK303.out 2
      have hfz46_3 := blk_frozen BK303.out 3
      go_wp2_with (first | (go_at_call 28; (with_reducible refine (guard_Check.calls k a0_0 a0_1 a0_2 a0_3 t312 _ A25.out).mono ?_); rintro e w47 ⟨rfl, hb⟩; have n0_ := Aside0.mk (blk_below (g := gb303) (o := .cells #[.bool a0_0, .bool a0_1, .int .u64 a0_2, .int .i64 a0_3] 55 (0, 0)) (by (with_reducible repeat (first | refine blk_drewN ?_ _ | refine blk_drew ?_ | refine blk_alloc ?_ _)); refine blk_far ?_ NB303_311.out _; (with_reducible repeat (first | refine blk_drewN ?_ _ | refine blk_drew ?_ | refine blk_alloc ?_ _)); refine blk_far ?_ NB303_311.out _; (with_reducible repeat (first | refine blk_drewN ?_ _ | refine blk_drew ?_ | refine blk_alloc ?_ _)); refine blk_far ?_ NB303_311.out _; (with_reducible repeat (first | refine blk_drewN ?_ _ | refine blk_drew ?_ | refine blk_alloc ?_ _)); exact BK303.out) hb); have n1_ := Aside0.mk (blk_below (g := gb304) (o := .cells #[.int .i64 a1_0, .int .i64 a1_1, .int .i64 a1_2, .int .i64 a1_3, .int .i64 a1_4] 23 (0, 0)) (by (with_reducible repeat (first | refine blk_drewN ?_ _ | refine blk_drew ?_ | refine blk_alloc ?_ _)); refine blk_far ?_ NB304_311.out _; (with_reducible repeat (first | refine blk_drewN ?_ _ | refine blk_drew ?_ | refine blk_alloc ?_ _)); refine blk_far ?_ NB304_311.out _; (with_reducible repeat (first | refine blk_drewN ?_ _ | refine blk_drew ?_ | refine blk_alloc ?_ _)); refine blk_far ?_ NB304_311.out _; (with_reducible repeat (first | refine blk_drewN ?_ _ | refine blk_drew ?_ | refine blk_alloc ?_ _)); exact BK304.out) hb); have n2_ := Aside0.mk (blk_below (g := gb305) (o := .cells #[.int .i64 a4_0, .int .i64 a4_1, .int .u64 a4_2, .int .u16 a4_3] 52 (0, 0)) (by (with_reducible repeat (first | refine blk_drewN ?_ _ | refine blk_drew ?_ | refine blk_alloc ?_ _)); refine blk_far ?_ NB305_311.out _; (with_reducible repeat (first | refine blk_drewN ?_ _ | refine blk_drew ?_ | refine blk_alloc ?_ _)); refine blk_far ?_ NB305_311.out _; (with_reducible repeat (first | refine blk_drewN ?_ _ | refine blk_drew ?_ | refine blk_alloc ?_ _)); refine blk_far ?_ NB305_311.out _; (with_reducible repeat (first | refine blk_drewN ?_ _ | refine blk_drew ?_ | refine blk_alloc ?_ _)); exact BK305.out) hb); have n3_ := Aside0.mk (blk_below (g := gb306) (o := .cells #[.bool false, .bool false, .int .u64 0, .int .i64 0] 55 (0, 0)) (by (with_reducible repeat (first | refine blk_drewN ?_ _ | refine blk_drew ?_ | refine blk_alloc ?_ _)); refine blk_far ?_ NB306_311.out _; (with_reducible repeat (first | refine blk_drewN ?_ _ | refine blk_drew ?_ | refine blk_alloc ?_ _)); refine blk_far ?_ NB306_311.out _; (with_reducible repeat (first | refine blk_drewN ?_ _ | refine blk_drew ?_ | refine blk_alloc ?_ _)); refine blk_far ?_ NB306_311.out _; (with_reducible repeat (first | refine blk_drewN ?_ _ | refine blk_drew ?_ | refine blk_alloc ?_ _)); exact BK306.out) hb); have n4_ := Aside0.mk (blk_below (g := gb311) (o := .cells #[.int .i64 t307, .int .i64 t308, .int .i64 t309] 69 (0, 0)) (by (with_reducible repeat (first | refine blk_drewN ?_ _ | refine blk_drew ?_ | refine blk_alloc ?_ _)); refine blk_put (cs := #[.int .i64 t307, .int .i64 t308, .int .i64 0]) ?_ 2 _ rfl; (with_reducible repeat (first | refine blk_drewN ?_ _ | refine blk_drew ?_ | refine blk_alloc ?_ _)); refine blk_put (cs := #[.int .i64 t307, .int .i64 0, .int .i64 0]) ?_ 1 _ rfl; (with_reducible repeat (first | refine blk_drewN ?_ _ | refine blk_drew ?_ | refine blk_alloc ?_ _)); refine blk_put (cs := #[.int .i64 0, .int .i64 0, .int .i64 0]) ?_ 0 _ rfl; (with_reducible repeat (first | refine blk_drewN ?_ _ | refine blk_drew ?_ | refine blk_alloc ?_ _)); exact BK311.out) hb); have n5_ := Aside0.mk (below_step (by repeat (first | (with_reducible first | exact HB.out | apply below_alloc | apply pw_below_drewN | apply below_drew1 | refine below_set ?_ GE303.out | refine below_set ?_ GE304.out | refine below_set ?_ GE305.out | refine below_set ?_ GE306.out | refine below_set ?_ GE311.out) | exact HB.out)) hb); clear BK303; clear BK304; clear BK305; clear BK306; clear BK311; clear HB; have BK303 := n0_; have BK304 := n1_; have BK305 := n2_; have BK306 := n3_; have BK311 := n4_; have HB := n5_; clear n0_ n1_ n2_ n3_ n4_ n5_; (try clear hb); (try clear hb2); (try clear hk); (try clear hi); have hnb48 := NB304_305.out; have hnc48 := NB305_304.out; have hnb49 := NB304_306.out; have hnc49 := NB306_304.out; have hnb50 := NB304_311.out; have hnc50 := NB311_304.out; have hcz51_0 : w47.cell? ⟨gb304, 0, none⟩ = some (.int .i64 a1_0) := (blk_cell BK304.out 0).trans rfl; have hcz51_1 : w47.cell? ⟨gb304, 1, none⟩ = some (.int .i64 a1_1) := (blk_cell BK304.out 1).trans rfl; have hcz51_2 : w47.cell? ⟨gb304, 2, none⟩ = some (.int .i64 a1_2) := (blk_cell BK304.out 2).trans rfl; have hcz51_3 : w47.cell? ⟨gb304, 3, none⟩ = some (.int .i64 a1_3) := (blk_cell BK304.out 3).trans rfl; have hcz51_4 : w47.cell? ⟨gb304, 4, none⟩ = some (.int .i64 a1_4) := (blk_cell BK304.out 4).trans rfl; have hfz51_0 := blk_frozen BK304.out 0; have hfz51_1 := blk_frozen BK304.out 1; have hfz51_2 := blk_frozen BK304.out 2; have hfz51_3 := blk_frozen BK304.out 3; have hfz51_4 := blk_frozen BK304.out 4) | (go_at_call 39; (with_reducible refine (guard_node.calls a1_0 a1_1 a1_2 a1_3 a1_4 a3 true _ A27.out).mono ?_); rintro e w52 ⟨rfl, hb⟩; have n0_ := Aside0.mk (blk_below (g := gb303) (o := .cells #[.bool a0_0, .bool a0_1, .int .u64 a0_2, .int .i64 a0_3] 55 (0, 0)) (by (with_reducible repeat (first | refine blk_drewN ?_ _ | refine blk_drew ?_ | refine blk_alloc ?_ _)); exact BK303.out) hb); have n1_ := Aside0.mk (blk_below (g := gb304) (o := .cells #[.int .i64 a1_0, .int .i64 a1_1, .int .i64 a1_2, .int .i64 a1_3, .int .i64 a1_4] 23 (0, 0)) (by (with_reducible repeat (first | refine blk_drewN ?_ _ | refine blk_drew ?_ | refine blk_alloc ?_ _)); exact BK304.out) hb); have n2_ := Aside0.mk (blk_below (g := gb305) (o := .cells #[.int .i64 a4_0, .int .i64 a4_1, .int .u64 a4_2, .int .u16 a4_3] 52 (0, 0)) (by (with_reducible repeat (first | refine blk_drewN ?_ _ | refine blk_drew ?_ | refine blk_alloc ?_ _)); exact BK305.out) hb); have n3_ := Aside0.mk (blk_below (g := gb306) (o := .cells #[.bool false, .bool false, .int .u64 0, .int .i64 0] 55 (0, 0)) (by (with_reducible repeat (first | refine blk_drewN ?_ _ | refine blk_drew ?_ | refine blk_alloc ?_ _)); exact BK306.out) hb); have n4_ := Aside0.mk (blk_below (g := gb311) (o := .cells #[.int .i64 t307, .int .i64 t308, .int .i64 t309] 69 (0, 0)) (by (with_reducible repeat (first | refine blk_drewN ?_ _ | refine blk_drew ?_ | refine blk_alloc ?_ _)); exact BK311.out) hb); have n5_ := Aside0.mk (below_step (by repeat (first | (with_reducible first | exact HB.out | apply below_alloc | apply pw_below_drewN | apply below_drew1 | refine below_set ?_ GE303.out | refine below_set ?_ GE304.out | refine below_set ?_ GE305.out | refine below_set ?_ GE306.out | refine below_set ?_ GE311.out) | exact HB.out)) hb); clear BK303; clear BK304; clear BK305; clear BK306; clear BK311; clear HB; have BK303 := n0_; have BK304 := n1_; have BK305 := n2_; have BK306 := n3_; have BK311 := n4_; have HB := n5_; clear n0_ n1_ n2_ n3_ n4_ n5_; (try clear hb); (try clear hb2); (try clear hk); (try clear hi)) | ((with_reducible refine gate_dst (N := 46) rfl ?_); (try (refine gate_guard (by rfl) ?_; dsimp only)); refine Kd.R_lit (Kd.int .i64) _ 2 ?hg (N := 46) ?hd (xs := ([a5] : List Int)) (inner := [.int .i64 a5]) (ok := fun _ => True) (okp := fun _ => True) ?hr ?hp (fun _ hk => hk) trivial (Below.refl _ _) (Nat.le_refl _) (by simp) ?_; (case hd => rfl); (case hg => rfl); (case hr => first | (go_simp; done) | (go_simp; rfl)); (case hp => exact (Reps.one (show Kd.M (Kd.int .i64) _ _ _ a5 [.int .i64 a5] from rfl) (Reps.none _ _))); intro v315 w53 ho54 hb hg_ hnew_; clear hg_ hnew_; (first | rw [← Ny314.out] at ho54 | (simp only [Int.reduceToNat] at ho54; rw [← Ny314.out] at ho54)); have n0_ := Aside0.mk (Kd.R_lower ho54 (below_size (by repeat (first | (with_reducible first | exact HB.out | apply below_alloc | apply pw_below_drewN | apply below_drew1 | refine below_set ?_ GE303.out | refine below_set ?_ GE304.out | refine below_set ?_ GE305.out | refine below_set ?_ GE306.out | refine below_set ?_ GE311.out) | exact HB.out)))); have n1_ := Aside0.mk (blk_below (g := gb303) (o := .cells #[.bool a0_0, .bool a0_1, .int .u64 a0_2, .int .i64 a0_3] 55 (0, 0)) (by (with_reducible repeat (first | refine blk_drewN ?_ _ | refine blk_drew ?_ | refine blk_alloc ?_ _)); exact BK303.out) hb); have n2_ := Aside0.mk (blk_below (g := gb304) (o := .cells #[.int .i64 a1_0, .int .i64 a1_1, .int .i64 a1_2, .int .i64 a1_3, .int .i64 a1_4] 23 (0, 0)) (by (with_reducible repeat (first | refine blk_drewN ?_ _ | refine blk_drew ?_ | refine blk_alloc ?_ _)); exact BK304.out) hb); have n3_ := Aside0.mk (blk_below (g := gb305) (o := .cells #[.int .i64 a4_0, .int .i64 a4_1, .int .u64 a4_2, .int .u16 a4_3] 52 (0, 0)) (by (with_reducible repeat (first | refine blk_drewN ?_ _ | refine blk_drew ?_ | refine blk_alloc ?_ _)); exact BK305.out) hb); have n4_ := Aside0.mk (blk_below (g := gb306) (o := .cells #[.bool false, .bool false, .int .u64 0, .int .i64 0] 55 (0, 0)) (by (with_reducible repeat (first | refine blk_drewN ?_ _ | refine blk_drew ?_ | refine blk_alloc ?_ _)); exact BK306.out) hb); have n5_ := Aside0.mk (blk_below (g := gb311) (o := .cells #[.int .i64 t307, .int .i64 t308, .int .i64 t309] 69 (0, 0)) (by (with_reducible repeat (first | refine blk_drewN ?_ _ | refine blk_drew ?_ | refine blk_alloc ?_ _)); exact BK311.out) hb); have n6_ := Aside0.mk (below_step (by repeat (first | (with_reducible first | exact HB.out | apply below_alloc | apply pw_below_drewN | apply below_drew1 | refine below_set ?_ GE303.out | refine below_set ?_ GE304.out | refine below_set ?_ GE305.out | refine below_set ?_ GE306.out | refine below_set ?_ GE311.out) | exact HB.out)) hb); clear BK303; clear BK304; clear BK305; clear BK306; clear BK311; clear HB; have HO316 := n0_; have BK303 := n1_; have BK304 := n2_; have BK305 := n3_; have BK306 := n4_; have BK311 := n5_; have HB := n6_; clear n0_ n1_ n2_ n3_ n4_ n5_ n6_; clear hb ho54; obtain ⟨Ao55, co55, eo55⟩ := Kd.R_slice HO316.out; subst eo55) | (go_at_call 35; (with_reducible refine (pico_May.calls k _ _ y314 t317 _ ?side1 ?side2 A41.out).mono ?_); (case side1 => repeat (first | exact (Kd.R_reads' HO316.out).2.2 | (with_reducible refine Kd.C_alloc ?_ _) | (with_reducible refine Kd.C_drewN ?_ _) | (with_reducible refine Kd.C_drew ?_))); (case side2 => exact (Kd.R_reads' HO316.out).2.1); rintro e w56 ⟨rfl, hb⟩; have n0_ := Aside0.mk (Kd.R_below (by (with_reducible repeat (first | apply Kd.R_alloc | apply Kd.R_drewN | apply Kd.R_drew)); exact HO316.out) hb); have n1_ := Aside0.mk (blk_below (g := gb303) (o := .cells #[.bool a0_0, .bool a0_1, .int .u64 a0_2, .int .i64 a0_3] 55 (0, 0)) (by (with_reducible repeat (first | refine blk_drewN ?_ _ | refine blk_drew ?_ | refine blk_alloc ?_ _)); exact BK303.out) hb); have n2_ := Aside0.mk (blk_below (g := gb304) (o := .cells #[.int .i64 a1_0, .int .i64 a1_1, .int .i64 a1_2, .int .i64 a1_3, .int .i64 a1_4] 23 (0, 0)) (by (with_reducible repeat (first | refine blk_drewN ?_ _ | refine blk_drew ?_ | refine blk_alloc ?_ _)); exact BK304.out) hb); have n3_ := Aside0.mk (blk_below (g := gb305) (o := .cells #[.int .i64 a4_0, .int .i64 a4_1, .int .u64 a4_2, .int .u16 a4_3] 52 (0, 0)) (by (with_reducible repeat (first | refine blk_drewN ?_ _ | refine blk_drew ?_ | refine blk_alloc ?_ _)); exact BK305.out) hb); have n4_ := Aside0.mk (blk_below (g := gb306) (o := .cells #[.bool false, .bool false, .int .u64 0, .int .i64 0] 55 (0, 0)) (by (with_reducible repeat (first | refine blk_drewN ?_ _ | refine blk_drew ?_ | refine blk_alloc ?_ _)); exact BK306.out) hb); have n5_ := Aside0.mk (blk_below (g := gb311) (o := .cells #[.int .i64 t307, .int .i64 t308, .int .i64 t309] 69 (0, 0)) (by (with_reducible repeat (first | refine blk_drewN ?_ _ | refine blk_drew ?_ | refine blk_alloc ?_ _)); exact BK311.out) hb); have n6_ := Aside0.mk (below_step (by repeat (first | (with_reducible first | exact HB.out | apply below_alloc | apply pw_below_drewN | apply below_drew1 | refine below_set ?_ GE303.out | refine below_set ?_ GE304.out | refine below_set ?_ GE305.out | refine below_set ?_ GE306.out | refine below_set ?_ GE311.out) | exact HB.out)) hb); clear HO316; clear BK303; clear BK304; clear BK305; clear BK306; clear BK311; clear HB; have HO316 := n0_; have BK303 := n1_; have BK304 := n2_; have BK305 := n3_; have BK306 := n4_; have BK311 := n5_; have HB := n6_; clear n0_ n1_ n2_ n3_ n4_ n5_ n6_; (try clear hb); (try clear hb2); (try clear hk); (try clear hi)))
      go_meet
      case rel => exact ⟨_, (!t317), (by first | rfl | (simp; done) | (simp [*]; done)), H', ⟨by first | omega | exact Nat.le_refl _⟩, ⟨by (with_reducible repeat (first | refine blk_drewN ?_ _ | refine blk_drew ?_ | refine blk_alloc ?_ _)); exact BK303.out⟩, ⟨by (with_reducible repeat (first | refine blk_drewN ?_ _ | refine blk_drew ?_ | refine blk_alloc ?_ _)); exact BK304.out⟩, ⟨by (with_reducible repeat (first | refine blk_drewN ?_ _ | refine blk_drew ?_ | refine blk_alloc ?_ _)); exact BK305.out⟩, ⟨by (with_reducible repeat (first | refine blk_drewN ?_ _ | refine blk_drew ?_ | refine blk_alloc ?_ _)); exact BK306.out⟩, ⟨by (with_reducible repeat (first | refine blk_drewN ?_ _ | refine blk_drew ?_ | refine blk_alloc ?_ _)); exact BK311.out⟩, ⟨by repeat (first | (with_reducible first | exact HB.out | apply below_alloc | apply pw_below_drewN | apply below_drew1 | refine below_set ?_ GE303.out | refine below_set ?_ GE304.out | refine below_set ?_ GE305.out | refine below_set ?_ GE306.out | refine below_set ?_ GE311.out) | exact HB.out)⟩⟩
    ·replace c28 := Bool.eq_false_iff.mpr c28
     subst c28
     have H1 : (guard_Pass.j0 k a3 a5 true a0_0 a0_1 a0_2 a0_3 a1_0 a1_1 a1_2 a1_3 a1_4 a4_0 a4_1 a4_2 a4_3 t307 t308 t309) = some (r1, r2, r3, r4, r5, r6) := by rw [if_neg (show ¬ (false = true) by decide)] at H; exact H
     clear H
     have H := H1
     clear H1
     have H' := Aside0.mk H
     clear H
     have hnb57 := NB303_304.out
     have hnc57 := NB304_303.out
     have hnb58 := NB303_305.out
     have hnc58 := NB305_303.out
     have hnb59 := NB303_306.out
     have hnc59 := NB306_303.out
     have hnb60 := NB303_311.out
     have hnc60 := NB311_303.out
     have hcz61_0 : w18.cell? ⟨gb303, 0, none⟩ = some (.bool a0_0) := (blk_cell BK303.out 0).trans rfl
     have hcz61_1 : w18.cell? ⟨gb303, 1, none⟩ = some (.bool a0_1) := (blk_cell BK303.out 1).trans rfl
     have hcz61_2 : w18.cell? ⟨gb303, 2, none⟩ = some (.int .u64 a0_2) := (blk_cell BK303.out 2).trans rfl
     have hcz61_3 : w18.cell? ⟨gb303, 3, none⟩ = some (.int .i64 a0_3) := (blk_cell BK303.out 3).trans rfl
     have hfz61_0 := blk_frozen BK303.out 0
     have hfz61_1 := blk_frozen BK303.out 1
     have hfz61_2 := blk_frozen BK303.out 2
     have hfz61_3 := blk_frozen BK303.out 3
     go_wp2_with (first | (go_at_call 28; (with_reducible refine (guard_Check.calls k a0_0 a0_1 a0_2 a0_3 t312 _ A25.out).mono ?_); rintro e w62 ⟨rfl, hb⟩; have n0_ := Aside0.mk (blk_below (g := gb303) (o := .cells #[.bool a0_0, .bool a0_1, .int .u64 a0_2, .int .i64 a0_3] 55 (0, 0)) (by (with_reducible repeat (first | refine blk_drewN ?_ _ | refine blk_drew ?_ | refine blk_alloc ?_ _)); refine blk_far ?_ NB303_311.out _; (with_reducible repeat (first | refine blk_drewN ?_ _ | refine blk_drew ?_ | refine blk_alloc ?_ _)); refine blk_far ?_ NB303_311.out _; (with_reducible repeat (first | refine blk_drewN ?_ _ | refine blk_drew ?_ | refine blk_alloc ?_ _)); refine blk_far ?_ NB303_311.out _; (with_reducible repeat (first | refine blk_drewN ?_ _ | refine blk_drew ?_ | refine blk_alloc ?_ _)); exact BK303.out) hb); have n1_ := Aside0.mk (blk_below (g := gb304) (o := .cells #[.int .i64 a1_0, .int .i64 a1_1, .int .i64 a1_2, .int .i64 a1_3, .int .i64 a1_4] 23 (0, 0)) (by (with_reducible repeat (first | refine blk_drewN ?_ _ | refine blk_drew ?_ | refine blk_alloc ?_ _)); refine blk_far ?_ NB304_311.out _; (with_reducible repeat (first | refine blk_drewN ?_ _ | refine blk_drew ?_ | refine blk_alloc ?_ _)); refine blk_far ?_ NB304_311.out _; (with_reducible repeat (first | refine blk_drewN ?_ _ | refine blk_drew ?_ | refine blk_alloc ?_ _)); refine blk_far ?_ NB304_311.out _; (with_reducible repeat (first | refine blk_drewN ?_ _ | refine blk_drew ?_ | refine blk_alloc ?_ _)); exact BK304.out) hb); have n2_ := Aside0.mk (blk_below (g := gb305) (o := .cells #[.int .i64 a4_0, .int .i64 a4_1, .int .u64 a4_2, .int .u16 a4_3] 52 (0, 0)) (by (with_reducible repeat (first | refine blk_drewN ?_ _ | refine blk_drew ?_ | refine blk_alloc ?_ _)); refine blk_far ?_ NB305_311.out _; (with_reducible repeat (first | refine blk_drewN ?_ _ | refine blk_drew ?_ | refine blk_alloc ?_ _)); refine blk_far ?_ NB305_311.out _; (with_reducible repeat (first | refine blk_drewN ?_ _ | refine blk_drew ?_ | refine blk_alloc ?_ _)); refine blk_far ?_ NB305_311.out _; (with_reducible repeat (first | refine blk_drewN ?_ _ | refine blk_drew ?_ | refine blk_alloc ?_ _)); exact BK305.out) hb); have n3_ := Aside0.mk (blk_below (g := gb306) (o := .cells #[.bool false, .bool false, .int .u64 0, .int .i64 0] 55 (0, 0)) (by (with_reducible repeat (first | refine blk_drewN ?_ _ | refine blk_drew ?_ | refine blk_alloc ?_ _)); refine blk_far ?_ NB306_311.out _; (with_reducible repeat (first | refine blk_drewN ?_ _ | refine blk_drew ?_ | refine blk_alloc ?_ _)); refine blk_far ?_ NB306_311.out _; (with_reducible repeat (first | refine blk_drewN ?_ _ | refine blk_drew ?_ | refine blk_alloc ?_ _)); refine blk_far ?_ NB306_311.out _; (with_reducible repeat (first | refine blk_drewN ?_ _ | refine blk_drew ?_ | refine blk_alloc ?_ _)); exact BK306.out) hb); have n4_ := Aside0.mk (blk_below (g := gb311) (o := .cells #[.int .i64 t307, .int .i64 t308, .int .i64 t309] 69 (0, 0)) (by (with_reducible repeat (first | refine blk_drewN ?_ _ | refine blk_drew ?_ | refine blk_alloc ?_ _)); refine blk_put (cs := #[.int .i64 t307, .int .i64 t308, .int .i64 0]) ?_ 2 _ rfl; (with_reducible repeat (first | refine blk_drewN ?_ _ | refine blk_drew ?_ | refine blk_alloc ?_ _)); refine blk_put (cs := #[.int .i64 t307, .int .i64 0, .int .i64 0]) ?_ 1 _ rfl; (with_reducible repeat (first | refine blk_drewN ?_ _ | refine blk_drew ?_ | refine blk_alloc ?_ _)); refine blk_put (cs := #[.int .i64 0, .int .i64 0, .int .i64 0]) ?_ 0 _ rfl; (with_reducible repeat (first | refine blk_drewN ?_ _ | refine blk_drew ?_ | refine blk_alloc ?_ _)); exact BK311.out) hb); have n5_ := Aside0.mk (below_step (by repeat (first | (with_reducible first | exact HB.out | apply below_alloc | apply pw_below_drewN | apply below_drew1 | refine below_set ?_ GE303.out | refine below_set ?_ GE304.out | refine below_set ?_ GE305.out | refine below_set ?_ GE306.out | refine below_set ?_ GE311.out) | exact HB.out)) hb); clear BK303; clear BK304; clear BK305; clear BK306; clear BK311; clear HB; have BK303 := n0_; have BK304 := n1_; have BK305 := n2_; have BK306 := n3_; have BK311 := n4_; have HB := n5_; clear n0_ n1_ n2_ n3_ n4_ n5_; (try clear hb); (try clear hb2); (try clear hk); (try clear hi); have hnb63 := NB304_305.out; have hnc63 := NB305_304.out; have hnb64 := NB304_306.out; have hnc64 := NB306_304.out; have hnb65 := NB304_311.out; have hnc65 := NB311_304.out; have hcz66_0 : w62.cell? ⟨gb304, 0, none⟩ = some (.int .i64 a1_0) := (blk_cell BK304.out 0).trans rfl; have hcz66_1 : w62.cell? ⟨gb304, 1, none⟩ = some (.int .i64 a1_1) := (blk_cell BK304.out 1).trans rfl; have hcz66_2 : w62.cell? ⟨gb304, 2, none⟩ = some (.int .i64 a1_2) := (blk_cell BK304.out 2).trans rfl; have hcz66_3 : w62.cell? ⟨gb304, 3, none⟩ = some (.int .i64 a1_3) := (blk_cell BK304.out 3).trans rfl; have hcz66_4 : w62.cell? ⟨gb304, 4, none⟩ = some (.int .i64 a1_4) := (blk_cell BK304.out 4).trans rfl; have hfz66_0 := blk_frozen BK304.out 0; have hfz66_1 := blk_frozen BK304.out 1; have hfz66_2 := blk_frozen BK304.out 2; have hfz66_3 := blk_frozen BK304.out 3; have hfz66_4 := blk_frozen BK304.out 4) | (go_at_call 39; (with_reducible refine (guard_node.calls a1_0 a1_1 a1_2 a1_3 a1_4 a3 false _ A27.out).mono ?_); rintro e w67 ⟨rfl, hb⟩; have n0_ := Aside0.mk (blk_below (g := gb303) (o := .cells #[.bool a0_0, .bool a0_1, .int .u64 a0_2, .int .i64 a0_3] 55 (0, 0)) (by (with_reducible repeat (first | refine blk_drewN ?_ _ | refine blk_drew ?_ | refine blk_alloc ?_ _)); exact BK303.out) hb); have n1_ := Aside0.mk (blk_below (g := gb304) (o := .cells #[.int .i64 a1_0, .int .i64 a1_1, .int .i64 a1_2, .int .i64 a1_3, .int .i64 a1_4] 23 (0, 0)) (by (with_reducible repeat (first | refine blk_drewN ?_ _ | refine blk_drew ?_ | refine blk_alloc ?_ _)); exact BK304.out) hb); have n2_ := Aside0.mk (blk_below (g := gb305) (o := .cells #[.int .i64 a4_0, .int .i64 a4_1, .int .u64 a4_2, .int .u16 a4_3] 52 (0, 0)) (by (with_reducible repeat (first | refine blk_drewN ?_ _ | refine blk_drew ?_ | refine blk_alloc ?_ _)); exact BK305.out) hb); have n3_ := Aside0.mk (blk_below (g := gb306) (o := .cells #[.bool false, .bool false, .int .u64 0, .int .i64 0] 55 (0, 0)) (by (with_reducible repeat (first | refine blk_drewN ?_ _ | refine blk_drew ?_ | refine blk_alloc ?_ _)); exact BK306.out) hb); have n4_ := Aside0.mk (blk_below (g := gb311) (o := .cells #[.int .i64 t307, .int .i64 t308, .int .i64 t309] 69 (0, 0)) (by (with_reducible repeat (first | refine blk_drewN ?_ _ | refine blk_drew ?_ | refine blk_alloc ?_ _)); exact BK311.out) hb); have n5_ := Aside0.mk (below_step (by repeat (first | (with_reducible first | exact HB.out | apply below_alloc | apply pw_below_drewN | apply below_drew1 | refine below_set ?_ GE303.out | refine below_set ?_ GE304.out | refine below_set ?_ GE305.out | refine below_set ?_ GE306.out | refine below_set ?_ GE311.out) | exact HB.out)) hb); clear BK303; clear BK304; clear BK305; clear BK306; clear BK311; clear HB; have BK303 := n0_; have BK304 := n1_; have BK305 := n2_; have BK306 := n3_; have BK311 := n4_; have HB := n5_; clear n0_ n1_ n2_ n3_ n4_ n5_; (try clear hb); (try clear hb2); (try clear hk); (try clear hi)))
     go_meet
     case rel => exact ⟨_, (true), (by first | rfl | (simp; done) | (simp [*]; done)), H', ⟨by first | omega | exact Nat.le_refl _⟩, ⟨by (with_reducible repeat (first | refine blk_drewN ?_ _ | refine blk_drew ?_ | refine blk_alloc ?_ _)); exact BK303.out⟩, ⟨by (with_reducible repeat (first | refine blk_drewN ?_ _ | refine blk_drew ?_ | refine blk_alloc ?_ _)); exact BK304.out⟩, ⟨by (with_reducible repeat (first | refine blk_drewN ?_ _ | refine blk_drew ?_ | refine blk_alloc ?_ _)); exact BK305.out⟩, ⟨by (with_reducible repeat (first | refine blk_drewN ?_ _ | refine blk_drew ?_ | refine blk_alloc ?_ _)); exact BK306.out⟩, ⟨by (with_reducible repeat (first | refine blk_drewN ?_ _ | refine blk_drew ?_ | refine blk_alloc ?_ _)); exact BK311.out⟩, ⟨by repeat (first | (with_reducible first | exact HB.out | apply below_alloc | apply pw_below_drewN | apply below_drew1 | refine below_set ?_ GE303.out | refine below_set ?_ GE304.out | refine below_set ?_ GE305.out | refine below_set ?_ GE306.out | refine below_set ?_ GE311.out) | exact HB.out)⟩⟩
   ·rw [if_neg c26] at H
    have c26b0 : (t312 == 0) = false := beq_eq_false_iff_ne.mpr c26
    have c26b1 : (t312 != 0) = true := bne_iff_ne.mpr c26
    have H' := Aside0.mk H
    clear H
    have hnb68 := NB303_304.out
    have hnc68 := NB304_303.out
    have hnb69 := NB303_305.out
    have hnc69 := NB305_303.out
    have hnb70 := NB303_306.out
    have hnc70 := NB306_303.out
    have hnb71 := NB303_311.out
    have hnc71 := NB311_303.out
    have hcz72_0 : w18.cell? ⟨gb303, 0, none⟩ = some (.bool a0_0) := (blk_cell BK303.out 0).trans rfl
    have hcz72_1 : w18.cell? ⟨gb303, 1, none⟩ = some (.bool a0_1) := (blk_cell BK303.out 1).trans rfl
    have hcz72_2 : w18.cell? ⟨gb303, 2, none⟩ = some (.int .u64 a0_2) := (blk_cell BK303.out 2).trans rfl
    have hcz72_3 : w18.cell? ⟨gb303, 3, none⟩ = some (.int .i64 a0_3) := (blk_cell BK303.out 3).trans rfl
    have hfz72_0 := blk_frozen BK303.out 0
    have hfz72_1 := blk_frozen BK303.out 1
    have hfz72_2 := blk_frozen BK303.out 2
    have hfz72_3 := blk_frozen BK303.out 3
    go_wp2_with (first | (go_at_call 28; (with_reducible refine (guard_Check.calls k a0_0 a0_1 a0_2 a0_3 t312 _ A25.out).mono ?_); rintro e w73 ⟨rfl, hb⟩; have n0_ := Aside0.mk (blk_below (g := gb303) (o := .cells #[.bool a0_0, .bool a0_1, .int .u64 a0_2, .int .i64 a0_3] 55 (0, 0)) (by (with_reducible repeat (first | refine blk_drewN ?_ _ | refine blk_drew ?_ | refine blk_alloc ?_ _)); refine blk_far ?_ NB303_311.out _; (with_reducible repeat (first | refine blk_drewN ?_ _ | refine blk_drew ?_ | refine blk_alloc ?_ _)); refine blk_far ?_ NB303_311.out _; (with_reducible repeat (first | refine blk_drewN ?_ _ | refine blk_drew ?_ | refine blk_alloc ?_ _)); refine blk_far ?_ NB303_311.out _; (with_reducible repeat (first | refine blk_drewN ?_ _ | refine blk_drew ?_ | refine blk_alloc ?_ _)); exact BK303.out) hb); have n1_ := Aside0.mk (blk_below (g := gb304) (o := .cells #[.int .i64 a1_0, .int .i64 a1_1, .int .i64 a1_2, .int .i64 a1_3, .int .i64 a1_4] 23 (0, 0)) (by (with_reducible repeat (first | refine blk_drewN ?_ _ | refine blk_drew ?_ | refine blk_alloc ?_ _)); refine blk_far ?_ NB304_311.out _; (with_reducible repeat (first | refine blk_drewN ?_ _ | refine blk_drew ?_ | refine blk_alloc ?_ _)); refine blk_far ?_ NB304_311.out _; (with_reducible repeat (first | refine blk_drewN ?_ _ | refine blk_drew ?_ | refine blk_alloc ?_ _)); refine blk_far ?_ NB304_311.out _; (with_reducible repeat (first | refine blk_drewN ?_ _ | refine blk_drew ?_ | refine blk_alloc ?_ _)); exact BK304.out) hb); have n2_ := Aside0.mk (blk_below (g := gb305) (o := .cells #[.int .i64 a4_0, .int .i64 a4_1, .int .u64 a4_2, .int .u16 a4_3] 52 (0, 0)) (by (with_reducible repeat (first | refine blk_drewN ?_ _ | refine blk_drew ?_ | refine blk_alloc ?_ _)); refine blk_far ?_ NB305_311.out _; (with_reducible repeat (first | refine blk_drewN ?_ _ | refine blk_drew ?_ | refine blk_alloc ?_ _)); refine blk_far ?_ NB305_311.out _; (with_reducible repeat (first | refine blk_drewN ?_ _ | refine blk_drew ?_ | refine blk_alloc ?_ _)); refine blk_far ?_ NB305_311.out _; (with_reducible repeat (first | refine blk_drewN ?_ _ | refine blk_drew ?_ | refine blk_alloc ?_ _)); exact BK305.out) hb); have n3_ := Aside0.mk (blk_below (g := gb306) (o := .cells #[.bool false, .bool false, .int .u64 0, .int .i64 0] 55 (0, 0)) (by (with_reducible repeat (first | refine blk_drewN ?_ _ | refine blk_drew ?_ | refine blk_alloc ?_ _)); refine blk_far ?_ NB306_311.out _; (with_reducible repeat (first | refine blk_drewN ?_ _ | refine blk_drew ?_ | refine blk_alloc ?_ _)); refine blk_far ?_ NB306_311.out _; (with_reducible repeat (first | refine blk_drewN ?_ _ | refine blk_drew ?_ | refine blk_alloc ?_ _)); refine blk_far ?_ NB306_311.out _; (with_reducible repeat (first | refine blk_drewN ?_ _ | refine blk_drew ?_ | refine blk_alloc ?_ _)); exact BK306.out) hb); have n4_ := Aside0.mk (blk_below (g := gb311) (o := .cells #[.int .i64 t307, .int .i64 t308, .int .i64 t309] 69 (0, 0)) (by (with_reducible repeat (first | refine blk_drewN ?_ _ | refine blk_drew ?_ | refine blk_alloc ?_ _)); refine blk_put (cs := #[.int .i64 t307, .int .i64 t308, .int .i64 0]) ?_ 2 _ rfl; (with_reducible repeat (first | refine blk_drewN ?_ _ | refine blk_drew ?_ | refine blk_alloc ?_ _)); refine blk_put (cs := #[.int .i64 t307, .int .i64 0, .int .i64 0]) ?_ 1 _ rfl; (with_reducible repeat (first | refine blk_drewN ?_ _ | refine blk_drew ?_ | refine blk_alloc ?_ _)); refine blk_put (cs := #[.int .i64 0, .int .i64 0, .int .i64 0]) ?_ 0 _ rfl; (with_reducible repeat (first | refine blk_drewN ?_ _ | refine blk_drew ?_ | refine blk_alloc ?_ _)); exact BK311.out) hb); have n5_ := Aside0.mk (below_step (by repeat (first | (with_reducible first | exact HB.out | apply below_alloc | apply pw_below_drewN | apply below_drew1 | refine below_set ?_ GE303.out | refine below_set ?_ GE304.out | refine below_set ?_ GE305.out | refine below_set ?_ GE306.out | refine below_set ?_ GE311.out) | exact HB.out)) hb); clear BK303; clear BK304; clear BK305; clear BK306; clear BK311; clear HB; have BK303 := n0_; have BK304 := n1_; have BK305 := n2_; have BK306 := n3_; have BK311 := n4_; have HB := n5_; clear n0_ n1_ n2_ n3_ n4_ n5_; (try clear hb); (try clear hb2); (try clear hk); (try clear hi)))
    go_meet
    case rel => exact ⟨_, (true), (by first | rfl | (simp; done) | (simp [*]; done)), H', ⟨by first | omega | exact Nat.le_refl _⟩, ⟨by (with_reducible repeat (first | refine blk_drewN ?_ _ | refine blk_drew ?_ | refine blk_alloc ?_ _)); exact BK303.out⟩, ⟨by (with_reducible repeat (first | refine blk_drewN ?_ _ | refine blk_drew ?_ | refine blk_alloc ?_ _)); exact BK304.out⟩, ⟨by (with_reducible repeat (first | refine blk_drewN ?_ _ | refine blk_drew ?_ | refine blk_alloc ?_ _)); exact BK305.out⟩, ⟨by (with_reducible repeat (first | refine blk_drewN ?_ _ | refine blk_drew ?_ | refine blk_alloc ?_ _)); exact BK306.out⟩, ⟨by (with_reducible repeat (first | refine blk_drewN ?_ _ | refine blk_drew ?_ | refine blk_alloc ?_ _)); exact BK311.out⟩, ⟨by repeat (first | (with_reducible first | exact HB.out | apply below_alloc | apply pw_below_drewN | apply below_drew1 | refine below_set ?_ GE303.out | refine below_set ?_ GE304.out | refine below_set ?_ GE305.out | refine below_set ?_ GE306.out | refine below_set ?_ GE311.out) | exact HB.out)⟩⟩
  ·rw [if_neg c24] at H
   have c24b0 : (t310 == 0) = false := beq_eq_false_iff_ne.mpr c24
   have c24b1 : (t310 != 0) = true := bne_iff_ne.mpr c24
   (first | rw [c24b0] | (simp only [i64_w, i32_w]; rw [c24b0]) | skip)
   have H' := Aside0.mk H
   clear H
   go_wp2
   go_meet
   case rel => exact ⟨_, (true), (by first | rfl | (simp; done) | (simp [*]; done)), H', ⟨by first | omega | exact Nat.le_refl _⟩, ⟨by (with_reducible repeat (first | refine blk_drewN ?_ _ | refine blk_drew ?_ | refine blk_alloc ?_ _)); refine blk_far ?_ NB303_311.out _; (with_reducible repeat (first | refine blk_drewN ?_ _ | refine blk_drew ?_ | refine blk_alloc ?_ _)); refine blk_far ?_ NB303_311.out _; (with_reducible repeat (first | refine blk_drewN ?_ _ | refine blk_drew ?_ | refine blk_alloc ?_ _)); refine blk_far ?_ NB303_311.out _; (with_reducible repeat (first | refine blk_drewN ?_ _ | refine blk_drew ?_ | refine blk_alloc ?_ _)); exact BK303.out⟩, ⟨by (with_reducible repeat (first | refine blk_drewN ?_ _ | refine blk_drew ?_ | refine blk_alloc ?_ _)); refine blk_far ?_ NB304_311.out _; (with_reducible repeat (first | refine blk_drewN ?_ _ | refine blk_drew ?_ | refine blk_alloc ?_ _)); refine blk_far ?_ NB304_311.out _; (with_reducible repeat (first | refine blk_drewN ?_ _ | refine blk_drew ?_ | refine blk_alloc ?_ _)); refine blk_far ?_ NB304_311.out _; (with_reducible repeat (first | refine blk_drewN ?_ _ | refine blk_drew ?_ | refine blk_alloc ?_ _)); exact BK304.out⟩, ⟨by (with_reducible repeat (first | refine blk_drewN ?_ _ | refine blk_drew ?_ | refine blk_alloc ?_ _)); refine blk_far ?_ NB305_311.out _; (with_reducible repeat (first | refine blk_drewN ?_ _ | refine blk_drew ?_ | refine blk_alloc ?_ _)); refine blk_far ?_ NB305_311.out _; (with_reducible repeat (first | refine blk_drewN ?_ _ | refine blk_drew ?_ | refine blk_alloc ?_ _)); refine blk_far ?_ NB305_311.out _; (with_reducible repeat (first | refine blk_drewN ?_ _ | refine blk_drew ?_ | refine blk_alloc ?_ _)); exact BK305.out⟩, ⟨by (with_reducible repeat (first | refine blk_drewN ?_ _ | refine blk_drew ?_ | refine blk_alloc ?_ _)); refine blk_far ?_ NB306_311.out _; (with_reducible repeat (first | refine blk_drewN ?_ _ | refine blk_drew ?_ | refine blk_alloc ?_ _)); refine blk_far ?_ NB306_311.out _; (with_reducible repeat (first | refine blk_drewN ?_ _ | refine blk_drew ?_ | refine blk_alloc ?_ _)); refine blk_far ?_ NB306_311.out _; (with_reducible repeat (first | refine blk_drewN ?_ _ | refine blk_drew ?_ | refine blk_alloc ?_ _)); exact BK306.out⟩, ⟨by (with_reducible repeat (first | refine blk_drewN ?_ _ | refine blk_drew ?_ | refine blk_alloc ?_ _)); refine blk_put (cs := #[.int .i64 t307, .int .i64 t308, .int .i64 0]) ?_ 2 _ rfl; (with_reducible repeat (first | refine blk_drewN ?_ _ | refine blk_drew ?_ | refine blk_alloc ?_ _)); refine blk_put (cs := #[.int .i64 t307, .int .i64 0, .int .i64 0]) ?_ 1 _ rfl; (with_reducible repeat (first | refine blk_drewN ?_ _ | refine blk_drew ?_ | refine blk_alloc ?_ _)); refine blk_put (cs := #[.int .i64 0, .int .i64 0, .int .i64 0]) ?_ 0 _ rfl; (with_reducible repeat (first | refine blk_drewN ?_ _ | refine blk_drew ?_ | refine blk_alloc ?_ _)); exact BK311.out⟩, ⟨by repeat (first | (with_reducible first | exact HB.out | apply below_alloc | apply pw_below_drewN | apply below_drew1 | refine below_set ?_ GE303.out | refine below_set ?_ GE304.out | refine below_set ?_ GE305.out | refine below_set ?_ GE306.out | refine below_set ?_ GE311.out) | exact HB.out)⟩⟩
 case rest =>
  clear HC8
  try clear c1
  try clear c2
  try clear p2
  try clear c3
  try clear c4
  try clear c5
  try clear c6
  try clear c7
  try clear c13
  try clear c14
  try clear c15
  try clear c19
  try clear c20
  try clear c21
  try clear c22
  try clear c24
  try clear c24b0
  try clear c24b1
  try clear c26
  try clear c26b0
  try clear c26b1
  try clear c27
  try clear c28
  try clear c29
  try clear c29b0
  try clear c30
  try clear c31
  try clear c32
  try clear c33
  try clear c34
  try clear c36
  try clear c37
  try clear c38
  try clear c42
  try clear c43
  try clear c44
  try clear c45
  try clear c48
  try clear c49
  try clear c50
  try clear c57
  try clear c58
  try clear c59
  try clear c60
  try clear c63
  try clear c64
  try clear c65
  try clear c68
  try clear c69
  try clear c70
  try clear c71
  try clear hcz16_0
  try clear hcz16_1
  try clear hcz16_2
  try clear hcz16_3
  try clear hcz16_4
  try clear hcz23_0
  try clear hcz23_1
  try clear hcz23_2
  try clear hcz34_0
  try clear hcz34_1
  try clear hcz34_2
  try clear hcz34_3
  try clear hcz39_0
  try clear hcz39_1
  try clear hcz39_2
  try clear hcz39_3
  try clear hcz39_4
  try clear hcz46_0
  try clear hcz46_1
  try clear hcz46_2
  try clear hcz46_3
  try clear hcz51_0
  try clear hcz51_1
  try clear hcz51_2
  try clear hcz51_3
  try clear hcz51_4
  try clear hcz61_0
  try clear hcz61_1
  try clear hcz61_2
  try clear hcz61_3
  try clear hcz66_0
  try clear hcz66_1
  try clear hcz66_2
  try clear hcz66_3
  try clear hcz66_4
  try clear hcz72_0
  try clear hcz72_1
  try clear hcz72_2
  try clear hcz72_3
  try clear hfz16_0
  try clear hfz16_1
  try clear hfz16_2
  try clear hfz16_3
  try clear hfz16_4
  try clear hfz23_0
  try clear hfz23_1
  try clear hfz23_2
  try clear hfz34_0
  try clear hfz34_1
  try clear hfz34_2
  try clear hfz34_3
  try clear hfz39_0
  try clear hfz39_1
  try clear hfz39_2
  try clear hfz39_3
  try clear hfz39_4
  try clear hfz46_0
  try clear hfz46_1
  try clear hfz46_2
  try clear hfz46_3
  try clear hfz51_0
  try clear hfz51_1
  try clear hfz51_2
  try clear hfz51_3
  try clear hfz51_4
  try clear hfz61_0
  try clear hfz61_1
  try clear hfz61_2
  try clear hfz61_3
  try clear hfz66_0
  try clear hfz66_1
  try clear hfz66_2
  try clear hfz66_3
  try clear hfz66_4
  try clear hfz72_0
  try clear hfz72_1
  try clear hfz72_2
  try clear hfz72_3
  obtain ⟨kq, x26_7, rfl, HA, HJ7, BK303, BK304, BK305, BK306, BK311, HB⟩ := hcut
  cases kq with
  | zero => exact absurd HA.out (by simp [guard_Pass.j0])
  | succ kj7 =>
   have H := HA.out
   clear HA
   simp only [guard_Pass.j0] at H
   by_cases c74 : x26_7 = true
   ·subst c74
    have H1 : (some (a0_0, a0_1, a0_2, a0_3, false, 1)) = some (r1, r2, r3, r4, r5, r6) := by rw [if_pos rfl] at H; exact H
    clear H
    have H := H1
    clear H1
    simp only [Option.some.injEq, Prod.mk.injEq] at H
    obtain ⟨rfl, rfl, rfl, rfl, rfl, rfl⟩ := H
    have hnb75 := NB303_304.out
    have hnc75 := NB304_303.out
    have hnb76 := NB303_305.out
    have hnc76 := NB305_303.out
    have hnb77 := NB303_306.out
    have hnc77 := NB306_303.out
    have hnb78 := NB303_311.out
    have hnc78 := NB311_303.out
    have hcz79_0 : wc.cell? ⟨gb303, 0, none⟩ = some (.bool a0_0) := (blk_cell BK303.out 0).trans rfl
    have hcz79_1 : wc.cell? ⟨gb303, 1, none⟩ = some (.bool a0_1) := (blk_cell BK303.out 1).trans rfl
    have hcz79_2 : wc.cell? ⟨gb303, 2, none⟩ = some (.int .u64 a0_2) := (blk_cell BK303.out 2).trans rfl
    have hcz79_3 : wc.cell? ⟨gb303, 3, none⟩ = some (.int .i64 a0_3) := (blk_cell BK303.out 3).trans rfl
    have hfz79_0 := blk_frozen BK303.out 0
    have hfz79_1 := blk_frozen BK303.out 1
    have hfz79_2 := blk_frozen BK303.out 2
    have hfz79_3 := blk_frozen BK303.out 3
    have hnb80 := NB306_304.out
    have hnc80 := NB304_306.out
    have hnb81 := NB306_305.out
    have hnc81 := NB305_306.out
    have hnb82 := NB306_311.out
    have hnc82 := NB311_306.out
    have hcz83_0 : wc.cell? ⟨gb306, 0, none⟩ = some (.bool false) := (blk_cell BK306.out 0).trans rfl
    have hcz83_1 : wc.cell? ⟨gb306, 1, none⟩ = some (.bool false) := (blk_cell BK306.out 1).trans rfl
    have hcz83_2 : wc.cell? ⟨gb306, 2, none⟩ = some (.int .u64 0) := (blk_cell BK306.out 2).trans rfl
    have hcz83_3 : wc.cell? ⟨gb306, 3, none⟩ = some (.int .i64 0) := (blk_cell BK306.out 3).trans rfl
    have hfz83_0 := blk_frozen BK306.out 0
    have hfz83_1 := blk_frozen BK306.out 1
    have hfz83_2 := blk_frozen BK306.out 2
    have hfz83_3 := blk_frozen BK306.out 3
    go_wp2
    refine bodyPost_ret (results_ctt rfl _ _ gb306 55 #[.bool a0_0, .bool a0_1, .int .u64 a0_2, .int .i64 a0_3] (0, 0) _ rfl (by (with_reducible repeat (first | refine blk_drewN ?_ _ | refine blk_drew ?_ | refine blk_alloc ?_ _)); refine blk_put (cs := #[.bool a0_0, .bool a0_1, .int .u64 a0_2, .int .i64 0]) ?_ 3 _ rfl; (with_reducible repeat (first | refine blk_drewN ?_ _ | refine blk_drew ?_ | refine blk_alloc ?_ _)); refine blk_put (cs := #[.bool a0_0, .bool a0_1, .int .u64 0, .int .i64 0]) ?_ 2 _ rfl; (with_reducible repeat (first | refine blk_drewN ?_ _ | refine blk_drew ?_ | refine blk_alloc ?_ _)); refine blk_put (cs := #[.bool a0_0, .bool false, .int .u64 0, .int .i64 0]) ?_ 1 _ rfl; (with_reducible repeat (first | refine blk_drewN ?_ _ | refine blk_drew ?_ | refine blk_alloc ?_ _)); refine blk_put (cs := #[.bool false, .bool false, .int .u64 0, .int .i64 0]) ?_ 0 _ rfl; (with_reducible repeat (first | refine blk_drewN ?_ _ | refine blk_drew ?_ | refine blk_alloc ?_ _)); exact BK306.out) Try.underlying55 rfl (by kernel_rfl)) rfl ?_
    exact ⟨by first | rfl | (simp [errW_none, errW_some] <;> rfl) | (simp [*, errW_none, errW_some] <;> rfl), by repeat (first | (with_reducible first | exact HB.out | apply below_alloc | apply pw_below_drewN | apply below_drew1 | refine below_set ?_ GE303.out | refine below_set ?_ GE304.out | refine below_set ?_ GE305.out | refine below_set ?_ GE306.out | refine below_set ?_ GE311.out) | exact HB.out)⟩
   ·replace c74 := Bool.eq_false_iff.mpr c74
    subst c74
    have H1 : (if a0_0 = true then ((guard_scale_passes.f kj7 t307 t308 t309 a0_0 a0_1 a0_2 a0_3 a1_0 a1_1 a1_2 a1_3 a1_4 a3 a4_0 a4_1 a4_2 a4_3 (wrap64 (a5 - t308))).bind fun bt318 => (if bt318.2 = true then (some (true, true, bt318.1, wrap64 (a5 - t308), true, 0)) else (some (a0_0, a0_1, a0_2, a0_3, false, 0)))) else (some (a0_0, a0_1, a0_2, a0_3, true, 0))) = some (r1, r2, r3, r4, r5, r6) := by rw [if_neg (show ¬ (false = true) by decide)] at H; exact H
    clear H
    have H := H1
    clear H1
    by_cases c84 : a0_0 = true
    ·subst c84
     have H1 : ((guard_scale_passes.f kj7 t307 t308 t309 true a0_1 a0_2 a0_3 a1_0 a1_1 a1_2 a1_3 a1_4 a3 a4_0 a4_1 a4_2 a4_3 (wrap64 (a5 - t308))).bind fun bt318 => (if bt318.2 = true then (some (true, true, bt318.1, wrap64 (a5 - t308), true, 0)) else (some (true, a0_1, a0_2, a0_3, false, 0)))) = some (r1, r2, r3, r4, r5, r6) := by rw [if_pos rfl] at H; exact H
     clear H
     have H := H1
     clear H1
     replace H := Option.bind_eq_some_iff.mp H
     obtain ⟨⟨t318, t319⟩, A850, H⟩ := H
     replace H : (if t319 = true then (some (true, true, t318, wrap64 (a5 - t308), true, 0)) else (some (true, a0_1, a0_2, a0_3, false, 0))) = some (r1, r2, r3, r4, r5, r6) := H
     have A85 := Aside0.mk A850
     clear A850
     by_cases c86 : t319 = true
     ·subst c86
      have H1 : (some (true, true, t318, wrap64 (a5 - t308), true, 0)) = some (r1, r2, r3, r4, r5, r6) := by rw [if_pos rfl] at H; exact H
      clear H
      have H := H1
      clear H1
      simp only [Option.some.injEq, Prod.mk.injEq] at H
      obtain ⟨rfl, rfl, rfl, rfl, rfl, rfl⟩ := H
      have hnb87 := NB303_304.out
      have hnc87 := NB304_303.out
      have hnb88 := NB303_305.out
      have hnc88 := NB305_303.out
      have hnb89 := NB303_306.out
      have hnc89 := NB306_303.out
      have hnb90 := NB303_311.out
      have hnc90 := NB311_303.out
      have hcz91_0 : wc.cell? ⟨gb303, 0, none⟩ = some (.bool true) := (blk_cell BK303.out 0).trans rfl
      have hcz91_1 : wc.cell? ⟨gb303, 1, none⟩ = some (.bool a0_1) := (blk_cell BK303.out 1).trans rfl
      have hcz91_2 : wc.cell? ⟨gb303, 2, none⟩ = some (.int .u64 a0_2) := (blk_cell BK303.out 2).trans rfl
      have hcz91_3 : wc.cell? ⟨gb303, 3, none⟩ = some (.int .i64 a0_3) := (blk_cell BK303.out 3).trans rfl
      have hfz91_0 := blk_frozen BK303.out 0
      have hfz91_1 := blk_frozen BK303.out 1
      have hfz91_2 := blk_frozen BK303.out 2
      have hfz91_3 := blk_frozen BK303.out 3
      have hnb92 := NB311_304.out
      have hnc92 := NB304_311.out
      have hnb93 := NB311_305.out
      have hnc93 := NB305_311.out
      have hnb94 := NB311_306.out
      have hnc94 := NB306_311.out
      have hcz95_0 : wc.cell? ⟨gb311, 0, none⟩ = some (.int .i64 t307) := (blk_cell BK311.out 0).trans rfl
      have hcz95_1 : wc.cell? ⟨gb311, 1, none⟩ = some (.int .i64 t308) := (blk_cell BK311.out 1).trans rfl
      have hcz95_2 : wc.cell? ⟨gb311, 2, none⟩ = some (.int .i64 t309) := (blk_cell BK311.out 2).trans rfl
      have hfz95_0 := blk_frozen BK311.out 0
      have hfz95_1 := blk_frozen BK311.out 1
      have hfz95_2 := blk_frozen BK311.out 2
      have hnb96 := NB304_305.out
      have hnc96 := NB305_304.out
      have hnb97 := NB304_306.out
      have hnc97 := NB306_304.out
      have hcz98_0 : wc.cell? ⟨gb304, 0, none⟩ = some (.int .i64 a1_0) := (blk_cell BK304.out 0).trans rfl
      have hcz98_1 : wc.cell? ⟨gb304, 1, none⟩ = some (.int .i64 a1_1) := (blk_cell BK304.out 1).trans rfl
      have hcz98_2 : wc.cell? ⟨gb304, 2, none⟩ = some (.int .i64 a1_2) := (blk_cell BK304.out 2).trans rfl
      have hcz98_3 : wc.cell? ⟨gb304, 3, none⟩ = some (.int .i64 a1_3) := (blk_cell BK304.out 3).trans rfl
      have hcz98_4 : wc.cell? ⟨gb304, 4, none⟩ = some (.int .i64 a1_4) := (blk_cell BK304.out 4).trans rfl
      have hfz98_0 := blk_frozen BK304.out 0
      have hfz98_1 := blk_frozen BK304.out 1
      have hfz98_2 := blk_frozen BK304.out 2
      have hfz98_3 := blk_frozen BK304.out 3
      have hfz98_4 := blk_frozen BK304.out 4
      have hnb99 := NB305_306.out
      have hnc99 := NB306_305.out
      have hcz100_0 : wc.cell? ⟨gb305, 0, none⟩ = some (.int .i64 a4_0) := (blk_cell BK305.out 0).trans rfl
      have hcz100_1 : wc.cell? ⟨gb305, 1, none⟩ = some (.int .i64 a4_1) := (blk_cell BK305.out 1).trans rfl
      have hcz100_2 : wc.cell? ⟨gb305, 2, none⟩ = some (.int .u64 a4_2) := (blk_cell BK305.out 2).trans rfl
      have hcz100_3 : wc.cell? ⟨gb305, 3, none⟩ = some (.int .u16 a4_3) := (blk_cell BK305.out 3).trans rfl
      have hfz100_0 := blk_frozen BK305.out 0
      have hfz100_1 := blk_frozen BK305.out 1
      have hfz100_2 := blk_frozen BK305.out 2
      have hfz100_3 := blk_frozen BK305.out 3
      go_wp2_with (first | ((with_reducible refine gate_callee (f := 40) rfl ?_); refine goesL_ (some 67) rfl rfl Try.func40 (by kernel_rfl) rfl #[.agg #[.int .i64 t307, .int .i64 t308, .int .i64 t309], .agg #[.bool true, .bool a0_1, .int .u64 a0_2, .int .i64 a0_3], .agg #[.int .i64 a1_0, .int .i64 a1_1, .int .i64 a1_2, .int .i64 a1_3, .int .i64 a1_4], .int .i64 a3, .agg #[.int .i64 a4_0, .int .i64 a4_1, .int .u64 a4_2, .int .u16 a4_3], .int .i64 (wrap64 (a5 - t308))] rfl (by (try simp only [List.map_toArray, List.map_cons, List.map_nil]); first | done | rfl | (simp only [List.length_drop, List.length_take]; rfl)) ?_; (with_reducible refine (guard_scale_passes.calls kj7 t307 t308 t309 true a0_1 a0_2 a0_3 a1_0 a1_1 a1_2 a1_3 a1_4 a3 a4_0 a4_1 a4_2 a4_3 (wrap64 (a5 - t308)) t318 true _ A85.out).mono ?_); rintro e w101 ⟨rfl, hb⟩; refine ⟨_, rfl, ?_⟩; have n0_ := Aside0.mk (blk_below (g := gb303) (o := .cells #[.bool true, .bool a0_1, .int .u64 a0_2, .int .i64 a0_3] 55 (0, 0)) (by (with_reducible repeat (first | refine blk_drewN ?_ _ | refine blk_drew ?_ | refine blk_alloc ?_ _)); exact BK303.out) hb); have n1_ := Aside0.mk (blk_below (g := gb304) (o := .cells #[.int .i64 a1_0, .int .i64 a1_1, .int .i64 a1_2, .int .i64 a1_3, .int .i64 a1_4] 23 (0, 0)) (by (with_reducible repeat (first | refine blk_drewN ?_ _ | refine blk_drew ?_ | refine blk_alloc ?_ _)); exact BK304.out) hb); have n2_ := Aside0.mk (blk_below (g := gb305) (o := .cells #[.int .i64 a4_0, .int .i64 a4_1, .int .u64 a4_2, .int .u16 a4_3] 52 (0, 0)) (by (with_reducible repeat (first | refine blk_drewN ?_ _ | refine blk_drew ?_ | refine blk_alloc ?_ _)); exact BK305.out) hb); have n3_ := Aside0.mk (blk_below (g := gb306) (o := .cells #[.bool false, .bool false, .int .u64 0, .int .i64 0] 55 (0, 0)) (by (with_reducible repeat (first | refine blk_drewN ?_ _ | refine blk_drew ?_ | refine blk_alloc ?_ _)); exact BK306.out) hb); have n4_ := Aside0.mk (blk_below (g := gb311) (o := .cells #[.int .i64 t307, .int .i64 t308, .int .i64 t309] 69 (0, 0)) (by (with_reducible repeat (first | refine blk_drewN ?_ _ | refine blk_drew ?_ | refine blk_alloc ?_ _)); exact BK311.out) hb); have n5_ := Aside0.mk (below_step (by repeat (first | (with_reducible first | exact HB.out | apply below_alloc | apply pw_below_drewN | apply below_drew1 | refine below_set ?_ GE303.out | refine below_set ?_ GE304.out | refine below_set ?_ GE305.out | refine below_set ?_ GE306.out | refine below_set ?_ GE311.out) | exact HB.out)) hb); clear BK303; clear BK304; clear BK305; clear BK306; clear BK311; clear HB; have BK303 := n0_; have BK304 := n1_; have BK305 := n2_; have BK306 := n3_; have BK311 := n4_; have HB := n5_; clear n0_ n1_ n2_ n3_ n4_ n5_; (try clear hb); (try clear hb2); (try clear hk); (try clear hi); have hcz102_0 : w101.cell? ⟨gb306, 0, none⟩ = some (.bool false) := (blk_cell BK306.out 0).trans rfl; have hcz102_1 : w101.cell? ⟨gb306, 1, none⟩ = some (.bool false) := (blk_cell BK306.out 1).trans rfl; have hcz102_2 : w101.cell? ⟨gb306, 2, none⟩ = some (.int .u64 0) := (blk_cell BK306.out 2).trans rfl; have hcz102_3 : w101.cell? ⟨gb306, 3, none⟩ = some (.int .i64 0) := (blk_cell BK306.out 3).trans rfl; have hfz102_0 := blk_frozen BK306.out 0; have hfz102_1 := blk_frozen BK306.out 1; have hfz102_2 := blk_frozen BK306.out 2; have hfz102_3 := blk_frozen BK306.out 3))
      refine bodyPost_ret (results_ctt rfl _ _ gb306 55 #[.bool true, .bool true, .int .u64 t318, .int .i64 (wrap64 (a5 - t308))] (0, 0) _ rfl (by (with_reducible repeat (first | refine blk_drewN ?_ _ | refine blk_drew ?_ | refine blk_alloc ?_ _)); refine blk_put (cs := #[.bool true, .bool true, .int .u64 t318, .int .i64 0]) ?_ 3 _ rfl; (with_reducible repeat (first | refine blk_drewN ?_ _ | refine blk_drew ?_ | refine blk_alloc ?_ _)); refine blk_put (cs := #[.bool true, .bool true, .int .u64 0, .int .i64 0]) ?_ 2 _ rfl; (with_reducible repeat (first | refine blk_drewN ?_ _ | refine blk_drew ?_ | refine blk_alloc ?_ _)); refine blk_put (cs := #[.bool true, .bool false, .int .u64 0, .int .i64 0]) ?_ 1 _ rfl; (with_reducible repeat (first | refine blk_drewN ?_ _ | refine blk_drew ?_ | refine blk_alloc ?_ _)); refine blk_put (cs := #[.bool false, .bool false, .int .u64 0, .int .i64 0]) ?_ 0 _ rfl; (with_reducible repeat (first | refine blk_drewN ?_ _ | refine blk_drew ?_ | refine blk_alloc ?_ _)); exact BK306.out) Try.underlying55 rfl (by kernel_rfl)) rfl ?_
      exact ⟨by first | rfl | (simp [errW_none, errW_some] <;> rfl) | (simp [*, errW_none, errW_some] <;> rfl), by repeat (first | (with_reducible first | exact HB.out | apply below_alloc | apply pw_below_drewN | apply below_drew1 | refine below_set ?_ GE303.out | refine below_set ?_ GE304.out | refine below_set ?_ GE305.out | refine below_set ?_ GE306.out | refine below_set ?_ GE311.out) | exact HB.out)⟩
     ·replace c86 := Bool.eq_false_iff.mpr c86
      subst c86
      have H1 : (some (true, a0_1, a0_2, a0_3, false, 0)) = some (r1, r2, r3, r4, r5, r6) := by rw [if_neg (show ¬ (false = true) by decide)] at H; exact H
      clear H
      have H := H1
      clear H1
      simp only [Option.some.injEq, Prod.mk.injEq] at H
      obtain ⟨rfl, rfl, rfl, rfl, rfl, rfl⟩ := H
      have hnb103 := NB303_304.out
      have hnc103 := NB304_303.out
      have hnb104 := NB303_305.out
      have hnc104 := NB305_303.out
      have hnb105 := NB303_306.out
      have hnc105 := NB306_303.out
      have hnb106 := NB303_311.out
      have hnc106 := NB311_303.out
      have hcz107_0 : wc.cell? ⟨gb303, 0, none⟩ = some (.bool true) := (blk_cell BK303.out 0).trans rfl
      have hcz107_1 : wc.cell? ⟨gb303, 1, none⟩ = some (.bool a0_1) := (blk_cell BK303.out 1).trans rfl
      have hcz107_2 : wc.cell? ⟨gb303, 2, none⟩ = some (.int .u64 a0_2) := (blk_cell BK303.out 2).trans rfl
      have hcz107_3 : wc.cell? ⟨gb303, 3, none⟩ = some (.int .i64 a0_3) := (blk_cell BK303.out 3).trans rfl
      have hfz107_0 := blk_frozen BK303.out 0
      have hfz107_1 := blk_frozen BK303.out 1
      have hfz107_2 := blk_frozen BK303.out 2
      have hfz107_3 := blk_frozen BK303.out 3
      have hnb108 := NB311_304.out
      have hnc108 := NB304_311.out
      have hnb109 := NB311_305.out
      have hnc109 := NB305_311.out
      have hnb110 := NB311_306.out
      have hnc110 := NB306_311.out
      have hcz111_0 : wc.cell? ⟨gb311, 0, none⟩ = some (.int .i64 t307) := (blk_cell BK311.out 0).trans rfl
      have hcz111_1 : wc.cell? ⟨gb311, 1, none⟩ = some (.int .i64 t308) := (blk_cell BK311.out 1).trans rfl
      have hcz111_2 : wc.cell? ⟨gb311, 2, none⟩ = some (.int .i64 t309) := (blk_cell BK311.out 2).trans rfl
      have hfz111_0 := blk_frozen BK311.out 0
      have hfz111_1 := blk_frozen BK311.out 1
      have hfz111_2 := blk_frozen BK311.out 2
      have hnb112 := NB304_305.out
      have hnc112 := NB305_304.out
      have hnb113 := NB304_306.out
      have hnc113 := NB306_304.out
      have hcz114_0 : wc.cell? ⟨gb304, 0, none⟩ = some (.int .i64 a1_0) := (blk_cell BK304.out 0).trans rfl
      have hcz114_1 : wc.cell? ⟨gb304, 1, none⟩ = some (.int .i64 a1_1) := (blk_cell BK304.out 1).trans rfl
      have hcz114_2 : wc.cell? ⟨gb304, 2, none⟩ = some (.int .i64 a1_2) := (blk_cell BK304.out 2).trans rfl
      have hcz114_3 : wc.cell? ⟨gb304, 3, none⟩ = some (.int .i64 a1_3) := (blk_cell BK304.out 3).trans rfl
      have hcz114_4 : wc.cell? ⟨gb304, 4, none⟩ = some (.int .i64 a1_4) := (blk_cell BK304.out 4).trans rfl
      have hfz114_0 := blk_frozen BK304.out 0
      have hfz114_1 := blk_frozen BK304.out 1
      have hfz114_2 := blk_frozen BK304.out 2
      have hfz114_3 := blk_frozen BK304.out 3
      have hfz114_4 := blk_frozen BK304.out 4
      have hnb115 := NB305_306.out
      have hnc115 := NB306_305.out
      have hcz116_0 : wc.cell? ⟨gb305, 0, none⟩ = some (.int .i64 a4_0) := (blk_cell BK305.out 0).trans rfl
      have hcz116_1 : wc.cell? ⟨gb305, 1, none⟩ = some (.int .i64 a4_1) := (blk_cell BK305.out 1).trans rfl
      have hcz116_2 : wc.cell? ⟨gb305, 2, none⟩ = some (.int .u64 a4_2) := (blk_cell BK305.out 2).trans rfl
      have hcz116_3 : wc.cell? ⟨gb305, 3, none⟩ = some (.int .u16 a4_3) := (blk_cell BK305.out 3).trans rfl
      have hfz116_0 := blk_frozen BK305.out 0
      have hfz116_1 := blk_frozen BK305.out 1
      have hfz116_2 := blk_frozen BK305.out 2
      have hfz116_3 := blk_frozen BK305.out 3
      go_wp2_with (first | ((with_reducible refine gate_callee (f := 40) rfl ?_); refine goesL_ (some 67) rfl rfl Try.func40 (by kernel_rfl) rfl #[.agg #[.int .i64 t307, .int .i64 t308, .int .i64 t309], .agg #[.bool true, .bool a0_1, .int .u64 a0_2, .int .i64 a0_3], .agg #[.int .i64 a1_0, .int .i64 a1_1, .int .i64 a1_2, .int .i64 a1_3, .int .i64 a1_4], .int .i64 a3, .agg #[.int .i64 a4_0, .int .i64 a4_1, .int .u64 a4_2, .int .u16 a4_3], .int .i64 (wrap64 (a5 - t308))] rfl (by (try simp only [List.map_toArray, List.map_cons, List.map_nil]); first | done | rfl | (simp only [List.length_drop, List.length_take]; rfl)) ?_; (with_reducible refine (guard_scale_passes.calls kj7 t307 t308 t309 true a0_1 a0_2 a0_3 a1_0 a1_1 a1_2 a1_3 a1_4 a3 a4_0 a4_1 a4_2 a4_3 (wrap64 (a5 - t308)) t318 false _ A85.out).mono ?_); rintro e w117 ⟨rfl, hb⟩; refine ⟨_, rfl, ?_⟩; have n0_ := Aside0.mk (blk_below (g := gb303) (o := .cells #[.bool true, .bool a0_1, .int .u64 a0_2, .int .i64 a0_3] 55 (0, 0)) (by (with_reducible repeat (first | refine blk_drewN ?_ _ | refine blk_drew ?_ | refine blk_alloc ?_ _)); exact BK303.out) hb); have n1_ := Aside0.mk (blk_below (g := gb304) (o := .cells #[.int .i64 a1_0, .int .i64 a1_1, .int .i64 a1_2, .int .i64 a1_3, .int .i64 a1_4] 23 (0, 0)) (by (with_reducible repeat (first | refine blk_drewN ?_ _ | refine blk_drew ?_ | refine blk_alloc ?_ _)); exact BK304.out) hb); have n2_ := Aside0.mk (blk_below (g := gb305) (o := .cells #[.int .i64 a4_0, .int .i64 a4_1, .int .u64 a4_2, .int .u16 a4_3] 52 (0, 0)) (by (with_reducible repeat (first | refine blk_drewN ?_ _ | refine blk_drew ?_ | refine blk_alloc ?_ _)); exact BK305.out) hb); have n3_ := Aside0.mk (blk_below (g := gb306) (o := .cells #[.bool false, .bool false, .int .u64 0, .int .i64 0] 55 (0, 0)) (by (with_reducible repeat (first | refine blk_drewN ?_ _ | refine blk_drew ?_ | refine blk_alloc ?_ _)); exact BK306.out) hb); have n4_ := Aside0.mk (blk_below (g := gb311) (o := .cells #[.int .i64 t307, .int .i64 t308, .int .i64 t309] 69 (0, 0)) (by (with_reducible repeat (first | refine blk_drewN ?_ _ | refine blk_drew ?_ | refine blk_alloc ?_ _)); exact BK311.out) hb); have n5_ := Aside0.mk (below_step (by repeat (first | (with_reducible first | exact HB.out | apply below_alloc | apply pw_below_drewN | apply below_drew1 | refine below_set ?_ GE303.out | refine below_set ?_ GE304.out | refine below_set ?_ GE305.out | refine below_set ?_ GE306.out | refine below_set ?_ GE311.out) | exact HB.out)) hb); clear BK303; clear BK304; clear BK305; clear BK306; clear BK311; clear HB; have BK303 := n0_; have BK304 := n1_; have BK305 := n2_; have BK306 := n3_; have BK311 := n4_; have HB := n5_; clear n0_ n1_ n2_ n3_ n4_ n5_; (try clear hb); (try clear hb2); (try clear hk); (try clear hi); have hcz118_0 : w117.cell? ⟨gb303, 0, none⟩ = some (.bool true) := (blk_cell BK303.out 0).trans rfl; have hcz118_1 : w117.cell? ⟨gb303, 1, none⟩ = some (.bool a0_1) := (blk_cell BK303.out 1).trans rfl; have hcz118_2 : w117.cell? ⟨gb303, 2, none⟩ = some (.int .u64 a0_2) := (blk_cell BK303.out 2).trans rfl; have hcz118_3 : w117.cell? ⟨gb303, 3, none⟩ = some (.int .i64 a0_3) := (blk_cell BK303.out 3).trans rfl; have hfz118_0 := blk_frozen BK303.out 0; have hfz118_1 := blk_frozen BK303.out 1; have hfz118_2 := blk_frozen BK303.out 2; have hfz118_3 := blk_frozen BK303.out 3; have hcz119_0 : w117.cell? ⟨gb306, 0, none⟩ = some (.bool false) := (blk_cell BK306.out 0).trans rfl; have hcz119_1 : w117.cell? ⟨gb306, 1, none⟩ = some (.bool false) := (blk_cell BK306.out 1).trans rfl; have hcz119_2 : w117.cell? ⟨gb306, 2, none⟩ = some (.int .u64 0) := (blk_cell BK306.out 2).trans rfl; have hcz119_3 : w117.cell? ⟨gb306, 3, none⟩ = some (.int .i64 0) := (blk_cell BK306.out 3).trans rfl; have hfz119_0 := blk_frozen BK306.out 0; have hfz119_1 := blk_frozen BK306.out 1; have hfz119_2 := blk_frozen BK306.out 2; have hfz119_3 := blk_frozen BK306.out 3))
      refine bodyPost_ret (results_ctt rfl _ _ gb306 55 #[.bool true, .bool a0_1, .int .u64 a0_2, .int .i64 a0_3] (0, 0) _ rfl (by (with_reducible repeat (first | refine blk_drewN ?_ _ | refine blk_drew ?_ | refine blk_alloc ?_ _)); refine blk_put (cs := #[.bool true, .bool a0_1, .int .u64 a0_2, .int .i64 0]) ?_ 3 _ rfl; (with_reducible repeat (first | refine blk_drewN ?_ _ | refine blk_drew ?_ | refine blk_alloc ?_ _)); refine blk_put (cs := #[.bool true, .bool a0_1, .int .u64 0, .int .i64 0]) ?_ 2 _ rfl; (with_reducible repeat (first | refine blk_drewN ?_ _ | refine blk_drew ?_ | refine blk_alloc ?_ _)); refine blk_put (cs := #[.bool true, .bool false, .int .u64 0, .int .i64 0]) ?_ 1 _ rfl; (with_reducible repeat (first | refine blk_drewN ?_ _ | refine blk_drew ?_ | refine blk_alloc ?_ _)); refine blk_put (cs := #[.bool false, .bool false, .int .u64 0, .int .i64 0]) ?_ 0 _ rfl; (with_reducible repeat (first | refine blk_drewN ?_ _ | refine blk_drew ?_ | refine blk_alloc ?_ _)); exact BK306.out) Try.underlying55 rfl (by kernel_rfl)) rfl ?_
      exact ⟨by first | rfl | (simp [errW_none, errW_some] <;> rfl) | (simp [*, errW_none, errW_some] <;> rfl), by repeat (first | (with_reducible first | exact HB.out | apply below_alloc | apply pw_below_drewN | apply below_drew1 | refine below_set ?_ GE303.out | refine below_set ?_ GE304.out | refine below_set ?_ GE305.out | refine below_set ?_ GE306.out | refine below_set ?_ GE311.out) | exact HB.out)⟩
    ·replace c84 := Bool.eq_false_iff.mpr c84
     subst c84
     have H1 : (some (false, a0_1, a0_2, a0_3, true, 0)) = some (r1, r2, r3, r4, r5, r6) := by rw [if_neg (show ¬ (false = true) by decide)] at H; exact H
     clear H
     have H := H1
     clear H1
     simp only [Option.some.injEq, Prod.mk.injEq] at H
     obtain ⟨rfl, rfl, rfl, rfl, rfl, rfl⟩ := H
     have hnb120 := NB303_304.out
     have hnc120 := NB304_303.out
     have hnb121 := NB303_305.out
     have hnc121 := NB305_303.out
     have hnb122 := NB303_306.out
     have hnc122 := NB306_303.out
     have hnb123 := NB303_311.out
     have hnc123 := NB311_303.out
     have hcz124_0 : wc.cell? ⟨gb303, 0, none⟩ = some (.bool false) := (blk_cell BK303.out 0).trans rfl
     have hcz124_1 : wc.cell? ⟨gb303, 1, none⟩ = some (.bool a0_1) := (blk_cell BK303.out 1).trans rfl
     have hcz124_2 : wc.cell? ⟨gb303, 2, none⟩ = some (.int .u64 a0_2) := (blk_cell BK303.out 2).trans rfl
     have hcz124_3 : wc.cell? ⟨gb303, 3, none⟩ = some (.int .i64 a0_3) := (blk_cell BK303.out 3).trans rfl
     have hfz124_0 := blk_frozen BK303.out 0
     have hfz124_1 := blk_frozen BK303.out 1
     have hfz124_2 := blk_frozen BK303.out 2
     have hfz124_3 := blk_frozen BK303.out 3
     have hnb125 := NB306_304.out
     have hnc125 := NB304_306.out
     have hnb126 := NB306_305.out
     have hnc126 := NB305_306.out
     have hnb127 := NB306_311.out
     have hnc127 := NB311_306.out
     have hcz128_0 : wc.cell? ⟨gb306, 0, none⟩ = some (.bool false) := (blk_cell BK306.out 0).trans rfl
     have hcz128_1 : wc.cell? ⟨gb306, 1, none⟩ = some (.bool false) := (blk_cell BK306.out 1).trans rfl
     have hcz128_2 : wc.cell? ⟨gb306, 2, none⟩ = some (.int .u64 0) := (blk_cell BK306.out 2).trans rfl
     have hcz128_3 : wc.cell? ⟨gb306, 3, none⟩ = some (.int .i64 0) := (blk_cell BK306.out 3).trans rfl
     have hfz128_0 := blk_frozen BK306.out 0
     have hfz128_1 := blk_frozen BK306.out 1
     have hfz128_2 := blk_frozen BK306.out 2
     have hfz128_3 := blk_frozen BK306.out 3
     go_wp2
     refine bodyPost_ret (results_ctt rfl _ _ gb306 55 #[.bool false, .bool a0_1, .int .u64 a0_2, .int .i64 a0_3] (0, 0) _ rfl (by (with_reducible repeat (first | refine blk_drewN ?_ _ | refine blk_drew ?_ | refine blk_alloc ?_ _)); refine blk_put (cs := #[.bool false, .bool a0_1, .int .u64 a0_2, .int .i64 0]) ?_ 3 _ rfl; (with_reducible repeat (first | refine blk_drewN ?_ _ | refine blk_drew ?_ | refine blk_alloc ?_ _)); refine blk_put (cs := #[.bool false, .bool a0_1, .int .u64 0, .int .i64 0]) ?_ 2 _ rfl; (with_reducible repeat (first | refine blk_drewN ?_ _ | refine blk_drew ?_ | refine blk_alloc ?_ _)); refine blk_put (cs := #[.bool false, .bool false, .int .u64 0, .int .i64 0]) ?_ 1 _ rfl; (with_reducible repeat (first | refine blk_drewN ?_ _ | refine blk_drew ?_ | refine blk_alloc ?_ _)); refine blk_put (cs := #[.bool false, .bool false, .int .u64 0, .int .i64 0]) ?_ 0 _ rfl; (with_reducible repeat (first | refine blk_drewN ?_ _ | refine blk_drew ?_ | refine blk_alloc ?_ _)); exact BK306.out) Try.underlying55 rfl (by kernel_rfl)) rfl ?_
     exact ⟨by first | rfl | (simp [errW_none, errW_some] <;> rfl) | (simp [*, errW_none, errW_some] <;> rfl), by repeat (first | (with_reducible first | exact HB.out | apply below_alloc | apply pw_below_drewN | apply below_drew1 | refine below_set ?_ GE303.out | refine below_set ?_ GE304.out | refine below_set ?_ GE305.out | refine below_set ?_ GE306.out | refine below_set ?_ GE311.out) | exact HB.out)⟩

end Go.Proofs.Ytpfkiljakiiieaa.Print
