-- PRINTED by print.py (a twelfth state) out of the translation. Not trusted: Lean checks it.
import Derived.Test.YtpfkiljakiiieaaPrint0
import Derived.Test.YtpfkiljakiiieaaPrint7
import Derived.Test.YtpfkiljakiiieaaPrint11
import Derived.Test.YtpfkiljakiiieaaPrint18
import Derived.Test.YtpfkiljakiiieaaPrint19
import Derived.Test.YtpfkiljakiiieaaPrint23
namespace Go.Proofs.Ytpfkiljakiiieaa.Print
open Go.RowKit Go.Proofs.YtpfkiljakiiieaaW.PrintWords Go.Proofs.YtpfkiljakiiieaaW.PrintLast Go.Proofs.YtpfkiljakiiieaaW.PrintMore Go.Proofs.YtpfkiljakiiieaaX
attribute [local go_sem] max2_int min2_int max_two min_two max_three min_three max_four min_four   -- for this text's walks alone
set_option linter.unusedVariables false
set_option linter.unusedSimpArgs false

/-! ### guard_Opens: function 29 -/
def guard_Opens.j0 : Nat → Int → Bool → Bool → Bool → Int → Int → Int → Int → Int → Int → Int → Int → Int → Int → Option (Int × Int × Int)
 | 0, _, _, _, _, _, _, _, _, _, _, _, _, _, _ => none
 | k + 1, x3, x40, x374000, x374001, x374002, x374003, x375000, x375001, x375002, x375003, x375004, x380000, x380001, x380002 => if x40 = true then (some (0, 0, 1)) else ((medl_Next.f k x375000 x375001 x375002 x375003 x375004 x374002 x3).bind fun bt382 => (if bt382.2 = 0 then ((pico_Add.f k x374003 (wrap64 ((wrap64 (x380000 * (wrap64 (IntKind.u64.wrap (bt382.1 - x374002))))) + x380001))).bind fun bt384 => (if bt384.2 = 0 then ((pico_Sub.f k bt384.1 x380002).bind fun bt386 => (if bt386.2 = 0 then ((pico_Add.f k bt384.1 x380002).bind fun bt388 => (if bt388.2 = 0 then (some (bt386.1, bt388.1, 0)) else (some (0, 0, bt388.2)))) else (some (0, 0, bt386.2)))) else (some (0, 0, bt384.2)))) else (some (0, 0, bt382.2))))
def guard_Opens.f (k : Nat) (a0_0 : Bool) (a0_1 : Bool) (a0_2 : Int) (a0_3 : Int) (a1_0 : Int) (a1_1 : Int) (a1_2 : Int) (a1_3 : Int) (a1_4 : Int) (a2 : Int) (a3 : Int) : Option (Int × Int × Int) := (guard_scaled.f a1_0 a1_1 a1_2 a1_3 a1_4 a2).bind fun bt375 => (if bt375.2.2.2 = 0 then ((guard_Check.f k a0_0 a0_1 a0_2 a0_3).bind fun t380 => (if t380 = 0 then (if a0_1 = true then ((guard_node.f a1_0 a1_1 a1_2 a1_3 a1_4 a3).bind fun t381 => (guard_Opens.j0 k a3 (!t381) a0_0 a0_1 a0_2 a0_3 a1_0 a1_1 a1_2 a1_3 a1_4 bt375.1 bt375.2.1 bt375.2.2.1)) else (guard_Opens.j0 k a3 true a0_0 a0_1 a0_2 a0_3 a1_0 a1_1 a1_2 a1_3 a1_4 bt375.1 bt375.2.1 bt375.2.2.1)) else (guard_Opens.j0 k a3 true a0_0 a0_1 a0_2 a0_3 a1_0 a1_1 a1_2 a1_3 a1_4 bt375.1 bt375.2.1 bt375.2.2.1))) else (guard_Opens.j0 k a3 true a0_0 a0_1 a0_2 a0_3 a1_0 a1_1 a1_2 a1_3 a1_4 bt375.1 bt375.2.1 bt375.2.2.1))
theorem guard_Opens.mono_l : ∀ k, (∀ y0 y1 y2 y3 y4 y5 y6 y7 y8 y9 y10 y11 y12 y13, LeO (guard_Opens.j0 k y0 y1 y2 y3 y4 y5 y6 y7 y8 y9 y10 y11 y12 y13) (guard_Opens.j0 (k + 1) y0 y1 y2 y3 y4 y5 y6 y7 y8 y9 y10 y11 y12 y13))
 | 0 => fun _ _ _ _ _ _ _ _ _ _ _ _ _ _ r h => by simp [guard_Opens.j0] at h
 | k + 1 => by
  have ih0 := guard_Opens.mono_l k
  ·intro y0 y1 y2 y3 y4 y5 y6 y7 y8 y9 y10 y11 y12 y13
   unfold guard_Opens.j0
   repeat' first
   | (with_reducible exact ih0 _ _ _ _ _ _ _ _ _ _ _ _ _ _)
   | (with_reducible exact guard_Check.mono _ _ _ _ _)
   | (with_reducible exact medl_Next.mono _ _ _ _ _ _ _ _)
   | (with_reducible exact pico_Add.mono _ _ _)
   | (with_reducible exact pico_Sub.mono _ _ _)
   | (with_reducible exact LeO.refl _)
   | (with_reducible exact LeO.none _)
   | (with_reducible refine LeO.ite ?_ ?_)
   | (with_reducible refine LeO.bind ?_ (fun _ => ?_))
   | exact ih0 _ _ _ _ _ _ _ _ _ _ _ _ _ _
   | exact guard_Check.mono _ _ _ _ _
   | exact medl_Next.mono _ _ _ _ _ _ _ _
   | exact pico_Add.mono _ _ _
   | exact pico_Sub.mono _ _ _
   | exact LeO.none _
   | refine LeO.ite ?_ ?_
   | refine LeO.bind ?_ (fun _ => ?_)
theorem guard_Opens.mono : ∀ a0 a1 a2 a3 a4 a5 a6 a7 a8 a9 a10 k, LeO (guard_Opens.f k a0 a1 a2 a3 a4 a5 a6 a7 a8 a9 a10) (guard_Opens.f (k + 1) a0 a1 a2 a3 a4 a5 a6 a7 a8 a9 a10) := by
 intro a0 a1 a2 a3 a4 a5 a6 a7 a8 a9 a10 k
 have ih0 := guard_Opens.mono_l k
 unfold guard_Opens.f
 repeat' first
   | (with_reducible exact ih0 _ _ _ _ _ _ _ _ _ _ _ _ _ _)
   | (with_reducible exact guard_Check.mono _ _ _ _ _)
   | (with_reducible exact medl_Next.mono _ _ _ _ _ _ _ _)
   | (with_reducible exact pico_Add.mono _ _ _)
   | (with_reducible exact pico_Sub.mono _ _ _)
   | (with_reducible exact LeO.refl _)
   | (with_reducible exact LeO.none _)
   | (with_reducible refine LeO.ite ?_ ?_)
   | (with_reducible refine LeO.bind ?_ (fun _ => ?_))
   | exact ih0 _ _ _ _ _ _ _ _ _ _ _ _ _ _
   | exact guard_Check.mono _ _ _ _ _
   | exact medl_Next.mono _ _ _ _ _ _ _ _
   | exact pico_Add.mono _ _ _
   | exact pico_Sub.mono _ _ _
   | exact LeO.none _
   | refine LeO.ite ?_ ?_
   | refine LeO.bind ?_ (fun _ => ?_)
set_option maxHeartbeats 8000000 in
set_option maxRecDepth 100000 in
theorem guard_Opens.calls (k : Nat) (a0_0 : Bool) (a0_1 : Bool) (a0_2 : Int) (a0_3 : Int) (a1_0 : Int) (a1_1 : Int) (a1_2 : Int) (a1_3 : Int) (a1_4 : Int) (a2 : Int) (a3 : Int) (r1 : Int) (r2 : Int) (r3 : Int) (w : World) (h : guard_Opens.f k a0_0 a0_1 a0_2 a0_3 a1_0 a1_1 a1_2 a1_3 a1_4 a2 a3 = some (r1, r2, r3)) :
  Calls Try.prog 29 #[.agg #[.bool a0_0, .bool a0_1, .int .u64 a0_2, .int .i64 a0_3], .agg #[.int .i64 a1_0, .int .i64 a1_1, .int .i64 a1_2, .int .i64 a1_3, .int .i64 a1_4], .int .i64 a2, .int .i64 a3] w fun e w' => e = .returned (.tuple #[.int .i64 r1, .int .i64 r2, .int .i64 r3]) ∧ Below w.heap.size w w' := by
 have hu55 := Try.underlying55
 have hu23 := Try.underlying23
 have hu69 := Try.underlying69
 have HB := Aside0.mk (Below.refl w.heap.size w)
 have H : ((guard_scaled.f a1_0 a1_1 a1_2 a1_3 a1_4 a2).bind fun bt375 => (if bt375.2.2.2 = 0 then ((guard_Check.f k a0_0 a0_1 a0_2 a0_3).bind fun t380 => (if t380 = 0 then (if a0_1 = true then ((guard_node.f a1_0 a1_1 a1_2 a1_3 a1_4 a3).bind fun t381 => (guard_Opens.j0 k a3 (!t381) a0_0 a0_1 a0_2 a0_3 a1_0 a1_1 a1_2 a1_3 a1_4 bt375.1 bt375.2.1 bt375.2.2.1)) else (guard_Opens.j0 k a3 true a0_0 a0_1 a0_2 a0_3 a1_0 a1_1 a1_2 a1_3 a1_4 bt375.1 bt375.2.1 bt375.2.2.1)) else (guard_Opens.j0 k a3 true a0_0 a0_1 a0_2 a0_3 a1_0 a1_1 a1_2 a1_3 a1_4 bt375.1 bt375.2.1 bt375.2.2.1))) else (guard_Opens.j0 k a3 true a0_0 a0_1 a0_2 a0_3 a1_0 a1_1 a1_2 a1_3 a1_4 bt375.1 bt375.2.1 bt375.2.2.1))) = some (r1, r2, r3) := h
 clear h
 replace H := Option.bind_eq_some_iff.mp H
 obtain ⟨⟨t375, t376, t377, t378⟩, A50, H⟩ := H
 replace H : (if t378 = 0 then ((guard_Check.f k a0_0 a0_1 a0_2 a0_3).bind fun t380 => (if t380 = 0 then (if a0_1 = true then ((guard_node.f a1_0 a1_1 a1_2 a1_3 a1_4 a3).bind fun t381 => (guard_Opens.j0 k a3 (!t381) a0_0 a0_1 a0_2 a0_3 a1_0 a1_1 a1_2 a1_3 a1_4 t375 t376 t377)) else (guard_Opens.j0 k a3 true a0_0 a0_1 a0_2 a0_3 a1_0 a1_1 a1_2 a1_3 a1_4 t375 t376 t377)) else (guard_Opens.j0 k a3 true a0_0 a0_1 a0_2 a0_3 a1_0 a1_1 a1_2 a1_3 a1_4 t375 t376 t377))) else (guard_Opens.j0 k a3 true a0_0 a0_1 a0_2 a0_3 a1_0 a1_1 a1_2 a1_3 a1_4 t375 t376 t377)) = some (r1, r2, r3) := H
 have A5 := Aside0.mk A50
 clear A50
 have HC6 := Aside0.mk H
 clear H
 go_enter Try.func29, Try.ntmps29
 go_upto_region 2 with (first | ((with_reducible refine gate_dst (N := 4) rfl ?_); refine box_event ?hg (N := 4) ?hd (cs := #[.bool a0_0, .bool a0_1, .int .u64 a0_2, .int .i64 a0_3]) (t := 55) ?hr ?_; (case hd => rfl); (case hg => rfl); (case hr => first | (go_simp; done) | (go_simp; rfl)); intro gb373 hg w7 hbox hb; have n0_ := Aside0.mk (below_step (by repeat (first | (with_reducible first | exact HB.out | apply below_alloc | apply pw_below_drewN | apply below_drew1) | exact HB.out)) hb); have n1_ := Aside0.mk (hbox); have n2_ := Aside0.mk ((by rw [hg]; exact (below_size (by repeat (first | (with_reducible first | exact HB.out | apply below_alloc | apply pw_below_drewN | apply below_drew1) | exact HB.out))) : w.heap.size ≤ gb373)); have n3_ := Aside0.mk ((by rw [hg]; exact (below_size (by repeat (first | (with_reducible first | exact HB.out | apply below_alloc | apply pw_below_drewN | apply below_drew1) | exact HB.out))) : w.heap.size ≤ gb373)); clear HB; have HB := n0_; have BK373 := n1_; have GW373 := n2_; have GE373 := n3_; clear n0_ n1_ n2_ n3_; clear hb hbox hg) | ((with_reducible refine gate_dst (N := 5) rfl ?_); refine box_event ?hg (N := 5) ?hd (cs := #[.int .i64 a1_0, .int .i64 a1_1, .int .i64 a1_2, .int .i64 a1_3, .int .i64 a1_4]) (t := 23) ?hr ?_; (case hd => rfl); (case hg => rfl); (case hr => first | (go_simp; done) | (go_simp; rfl)); intro gb374 hg w8 hbox hb; have n0_ := Aside0.mk (blk_below (g := gb373) (o := .cells #[.bool a0_0, .bool a0_1, .int .u64 a0_2, .int .i64 a0_3] 55 (0, 0)) (by (with_reducible repeat (first | refine blk_drewN ?_ _ | refine blk_drew ?_ | refine blk_alloc ?_ _)); exact BK373.out) hb); have n1_ := Aside0.mk (below_step (by repeat (first | (with_reducible first | exact HB.out | apply below_alloc | apply pw_below_drewN | apply below_drew1 | refine below_set ?_ GE373.out) | exact HB.out)) hb); have n2_ := Aside0.mk (hbox); have n3_ := Aside0.mk ((by rw [hg]; exact (below_size (by repeat (first | (with_reducible first | exact HB.out | apply below_alloc | apply pw_below_drewN | apply below_drew1 | refine below_set ?_ GE373.out) | exact HB.out))) : w.heap.size ≤ gb374)); have n4_ := Aside0.mk ((by rw [hg]; exact (below_size (by repeat (first | (with_reducible first | exact HB.out | apply below_alloc | apply pw_below_drewN | apply below_drew1 | refine below_set ?_ GE373.out) | exact HB.out))) : w.heap.size ≤ gb374)); have n5_ := Aside0.mk ((by rw [hg]; exact Nat.ne_of_lt (blk_lt (g := gb373) (o := .cells #[.bool a0_0, .bool a0_1, .int .u64 a0_2, .int .i64 a0_3] 55 (0, 0)) (by (with_reducible repeat (first | refine blk_drewN ?_ _ | refine blk_drew ?_ | refine blk_alloc ?_ _)); exact BK373.out)) : gb373 ≠ gb374)); have n6_ := Aside0.mk ((by rw [hg]; exact Nat.ne_of_gt (blk_lt (g := gb373) (o := .cells #[.bool a0_0, .bool a0_1, .int .u64 a0_2, .int .i64 a0_3] 55 (0, 0)) (by (with_reducible repeat (first | refine blk_drewN ?_ _ | refine blk_drew ?_ | refine blk_alloc ?_ _)); exact BK373.out)) : gb374 ≠ gb373)); clear BK373; clear HB; have BK373 := n0_; have HB := n1_; have BK374 := n2_; have GW374 := n3_; have GE374 := n4_; have NB373_374 := n5_; have NB374_373 := n6_; clear n0_ n1_ n2_ n3_ n4_ n5_ n6_; clear hb hbox hg; have hnb9 := NB374_373.out; have hnc9 := NB373_374.out; have hcz10_0 : w8.cell? ⟨gb374, 0, none⟩ = some (.int .i64 a1_0) := (blk_cell BK374.out 0).trans rfl; have hcz10_1 : w8.cell? ⟨gb374, 1, none⟩ = some (.int .i64 a1_1) := (blk_cell BK374.out 1).trans rfl; have hcz10_2 : w8.cell? ⟨gb374, 2, none⟩ = some (.int .i64 a1_2) := (blk_cell BK374.out 2).trans rfl; have hcz10_3 : w8.cell? ⟨gb374, 3, none⟩ = some (.int .i64 a1_3) := (blk_cell BK374.out 3).trans rfl; have hcz10_4 : w8.cell? ⟨gb374, 4, none⟩ = some (.int .i64 a1_4) := (blk_cell BK374.out 4).trans rfl; have hfz10_0 := blk_frozen BK374.out 0; have hfz10_1 := blk_frozen BK374.out 1; have hfz10_2 := blk_frozen BK374.out 2; have hfz10_3 := blk_frozen BK374.out 3; have hfz10_4 := blk_frozen BK374.out 4) | ((with_reducible refine gate_callee (f := 34) rfl ?_); refine goesL_ (some 20) rfl rfl Try.func34 (by kernel_rfl) rfl #[.agg #[.int .i64 a1_0, .int .i64 a1_1, .int .i64 a1_2, .int .i64 a1_3, .int .i64 a1_4], .int .i64 a2] rfl (by (try simp only [List.map_toArray, List.map_cons, List.map_nil]); first | done | rfl | (simp only [List.length_drop, List.length_take]; rfl)) ?_; (with_reducible refine (guard_scaled.calls a1_0 a1_1 a1_2 a1_3 a1_4 a2 t375 t376 t377 t378 _ A5.out).mono ?_); rintro e w11 ⟨rfl, hb⟩; refine ⟨_, rfl, ?_⟩; have n0_ := Aside0.mk (blk_below (g := gb373) (o := .cells #[.bool a0_0, .bool a0_1, .int .u64 a0_2, .int .i64 a0_3] 55 (0, 0)) (by (with_reducible repeat (first | refine blk_drewN ?_ _ | refine blk_drew ?_ | refine blk_alloc ?_ _)); exact BK373.out) hb); have n1_ := Aside0.mk (blk_below (g := gb374) (o := .cells #[.int .i64 a1_0, .int .i64 a1_1, .int .i64 a1_2, .int .i64 a1_3, .int .i64 a1_4] 23 (0, 0)) (by (with_reducible repeat (first | refine blk_drewN ?_ _ | refine blk_drew ?_ | refine blk_alloc ?_ _)); exact BK374.out) hb); have n2_ := Aside0.mk (below_step (by repeat (first | (with_reducible first | exact HB.out | apply below_alloc | apply pw_below_drewN | apply below_drew1 | refine below_set ?_ GE373.out | refine below_set ?_ GE374.out) | exact HB.out)) hb); clear BK373; clear BK374; clear HB; have BK373 := n0_; have BK374 := n1_; have HB := n2_; clear n0_ n1_ n2_; (try clear hb); (try clear hb2); (try clear hk); (try clear hi)) | ((with_reducible refine gate_dst (N := 11) rfl ?_); refine box_event ?hg (N := 11) ?hd (cs := #[.int .i64 0, .int .i64 0, .int .i64 0]) (t := 69) ?hr ?_; (case hd => rfl); (case hg => rfl); (case hr => first | (go_simp; done) | (go_simp; rfl)); intro gb379 hg w12 hbox hb; have n0_ := Aside0.mk (blk_below (g := gb373) (o := .cells #[.bool a0_0, .bool a0_1, .int .u64 a0_2, .int .i64 a0_3] 55 (0, 0)) (by (with_reducible repeat (first | refine blk_drewN ?_ _ | refine blk_drew ?_ | refine blk_alloc ?_ _)); exact BK373.out) hb); have n1_ := Aside0.mk (blk_below (g := gb374) (o := .cells #[.int .i64 a1_0, .int .i64 a1_1, .int .i64 a1_2, .int .i64 a1_3, .int .i64 a1_4] 23 (0, 0)) (by (with_reducible repeat (first | refine blk_drewN ?_ _ | refine blk_drew ?_ | refine blk_alloc ?_ _)); exact BK374.out) hb); have n2_ := Aside0.mk (below_step (by repeat (first | (with_reducible first | exact HB.out | apply below_alloc | apply pw_below_drewN | apply below_drew1 | refine below_set ?_ GE373.out | refine below_set ?_ GE374.out) | exact HB.out)) hb); have n3_ := Aside0.mk (hbox); have n4_ := Aside0.mk ((by rw [hg]; exact (below_size (by repeat (first | (with_reducible first | exact HB.out | apply below_alloc | apply pw_below_drewN | apply below_drew1 | refine below_set ?_ GE373.out | refine below_set ?_ GE374.out) | exact HB.out))) : w.heap.size ≤ gb379)); have n5_ := Aside0.mk ((by rw [hg]; exact (below_size (by repeat (first | (with_reducible first | exact HB.out | apply below_alloc | apply pw_below_drewN | apply below_drew1 | refine below_set ?_ GE373.out | refine below_set ?_ GE374.out) | exact HB.out))) : w.heap.size ≤ gb379)); have n6_ := Aside0.mk ((by rw [hg]; exact Nat.ne_of_lt (blk_lt (g := gb373) (o := .cells #[.bool a0_0, .bool a0_1, .int .u64 a0_2, .int .i64 a0_3] 55 (0, 0)) (by (with_reducible repeat (first | refine blk_drewN ?_ _ | refine blk_drew ?_ | refine blk_alloc ?_ _)); exact BK373.out)) : gb373 ≠ gb379)); have n7_ := Aside0.mk ((by rw [hg]; exact Nat.ne_of_gt (blk_lt (g := gb373) (o := .cells #[.bool a0_0, .bool a0_1, .int .u64 a0_2, .int .i64 a0_3] 55 (0, 0)) (by (with_reducible repeat (first | refine blk_drewN ?_ _ | refine blk_drew ?_ | refine blk_alloc ?_ _)); exact BK373.out)) : gb379 ≠ gb373)); have n8_ := Aside0.mk ((by rw [hg]; exact Nat.ne_of_lt (blk_lt (g := gb374) (o := .cells #[.int .i64 a1_0, .int .i64 a1_1, .int .i64 a1_2, .int .i64 a1_3, .int .i64 a1_4] 23 (0, 0)) (by (with_reducible repeat (first | refine blk_drewN ?_ _ | refine blk_drew ?_ | refine blk_alloc ?_ _)); exact BK374.out)) : gb374 ≠ gb379)); have n9_ := Aside0.mk ((by rw [hg]; exact Nat.ne_of_gt (blk_lt (g := gb374) (o := .cells #[.int .i64 a1_0, .int .i64 a1_1, .int .i64 a1_2, .int .i64 a1_3, .int .i64 a1_4] 23 (0, 0)) (by (with_reducible repeat (first | refine blk_drewN ?_ _ | refine blk_drew ?_ | refine blk_alloc ?_ _)); exact BK374.out)) : gb379 ≠ gb374)); clear BK373; clear BK374; clear HB; have BK373 := n0_; have BK374 := n1_; have HB := n2_; have BK379 := n3_; have GW379 := n4_; have GE379 := n5_; have NB373_379 := n6_; have NB379_373 := n7_; have NB374_379 := n8_; have NB379_374 := n9_; clear n0_ n1_ n2_ n3_ n4_ n5_ n6_ n7_ n8_ n9_; clear hb hbox hg; have hnb13 := NB379_373.out; have hnc13 := NB373_379.out; have hnb14 := NB379_374.out; have hnc14 := NB374_379.out; have hcz15_0 : w12.cell? ⟨gb379, 0, none⟩ = some (.int .i64 0) := (blk_cell BK379.out 0).trans rfl; have hcz15_1 : w12.cell? ⟨gb379, 1, none⟩ = some (.int .i64 0) := (blk_cell BK379.out 1).trans rfl; have hcz15_2 : w12.cell? ⟨gb379, 2, none⟩ = some (.int .i64 0) := (blk_cell BK379.out 2).trans rfl; have hfz15_0 := blk_frozen BK379.out 0; have hfz15_1 := blk_frozen BK379.out 1; have hfz15_2 := blk_frozen BK379.out 2))
 (try simp only [Act.put, List.setIfInBounds_toArray, List.set_cons_zero, List.set_cons_succ])
 go_cut [40] (fun v40 wc => ∃ (kq : Nat) (x40_5 : Bool), v40 = .bool x40_5 ∧ Aside0 (guard_Opens.j0 kq a3 x40_5 a0_0 a0_1 a0_2 a0_3 a1_0 a1_1 a1_2 a1_3 a1_4 t375 t376 t377 = some (r1, r2, r3)) ∧ Aside0 (kq ≤ k) ∧ Aside0 (wc.heap[gb373]? = some (.cells #[.bool a0_0, .bool a0_1, .int .u64 a0_2, .int .i64 a0_3] 55 (0, 0))) ∧ Aside0 (wc.heap[gb374]? = some (.cells #[.int .i64 a1_0, .int .i64 a1_1, .int .i64 a1_2, .int .i64 a1_3, .int .i64 a1_4] 23 (0, 0))) ∧ Aside0 (wc.heap[gb379]? = some (.cells #[.int .i64 t375, .int .i64 t376, .int .i64 t377] 69 (0, 0))) ∧ Aside0 (Below w.heap.size w wc))
 case first =>
  have H := HC6.out
  clear HC6
  by_cases c16 : t378 = 0
  ·rw [if_pos c16] at H
   have c16b0 : (t378 == 0) = true := beq_iff_eq.mpr c16
   have c16b1 : (t378 != 0) = false := bne_eq_false_iff_eq.mpr c16
   clear c16
   (first | rw [c16b0] | (simp only [i64_w, i32_w]; rw [c16b0]) | skip)
   replace H := Option.bind_eq_some_iff.mp H
   obtain ⟨t380, A170, H⟩ := H
   replace H : (if t380 = 0 then (if a0_1 = true then ((guard_node.f a1_0 a1_1 a1_2 a1_3 a1_4 a3).bind fun t381 => (guard_Opens.j0 k a3 (!t381) a0_0 a0_1 a0_2 a0_3 a1_0 a1_1 a1_2 a1_3 a1_4 t375 t376 t377)) else (guard_Opens.j0 k a3 true a0_0 a0_1 a0_2 a0_3 a1_0 a1_1 a1_2 a1_3 a1_4 t375 t376 t377)) else (guard_Opens.j0 k a3 true a0_0 a0_1 a0_2 a0_3 a1_0 a1_1 a1_2 a1_3 a1_4 t375 t376 t377)) = some (r1, r2, r3) := H
   have A17 := Aside0.mk A170
   clear A170
   by_cases c18 : t380 = 0
   ·rw [if_pos c18] at H
    have c18b0 : (t380 == 0) = true := beq_iff_eq.mpr c18
    have c18b1 : (t380 != 0) = false := bne_eq_false_iff_eq.mpr c18
    clear c18
    by_cases c19 : a0_1 = true
    ·subst c19
     have H1 : ((guard_node.f a1_0 a1_1 a1_2 a1_3 a1_4 a3).bind fun t381 => (guard_Opens.j0 k a3 (!t381) a0_0 true a0_2 a0_3 a1_0 a1_1 a1_2 a1_3 a1_4 t375 t376 t377)) = some (r1, r2, r3) := by rw [if_pos rfl] at H; exact H
     clear H
     have H := H1
     clear H1
     replace H := Option.bind_eq_some_iff.mp H
     obtain ⟨t381, A200, H⟩ := H
     replace H : (guard_Opens.j0 k a3 (!t381) a0_0 true a0_2 a0_3 a1_0 a1_1 a1_2 a1_3 a1_4 t375 t376 t377) = some (r1, r2, r3) := H
     have A20 := Aside0.mk A200
     clear A200
     have H' := Aside0.mk H
     clear H
     have hnb21 := NB373_374.out
     have hnc21 := NB374_373.out
     have hnb22 := NB373_379.out
     have hnc22 := NB379_373.out
     have hcz23_0 : w12.cell? ⟨gb373, 0, none⟩ = some (.bool a0_0) := (blk_cell BK373.out 0).trans rfl
     have hcz23_1 : w12.cell? ⟨gb373, 1, none⟩ = some (.bool true) := (blk_cell BK373.out 1).trans rfl
     have hcz23_2 : w12.cell? ⟨gb373, 2, none⟩ = some (.int .u64 a0_2) := (blk_cell BK373.out 2).trans rfl
     have hcz23_3 : w12.cell? ⟨gb373, 3, none⟩ = some (.int .i64 a0_3) := (blk_cell BK373.out 3).trans rfl
     have hfz23_0 := blk_frozen BK373.out 0
     have hfz23_1 := blk_frozen BK373.out 1
     have hfz23_2 := blk_frozen BK373.out 2
     have hfz23_3 := blk_frozen BK373.out 3
     go_wp2_with (first | (go_at_call 28; (with_reducible refine (guard_Check.calls k a0_0 true a0_2 a0_3 t380 _ A17.out).mono ?_); rintro e w24 ⟨rfl, hb⟩; have n0_ := Aside0.mk (blk_below (g := gb373) (o := .cells #[.bool a0_0, .bool true, .int .u64 a0_2, .int .i64 a0_3] 55 (0, 0)) (by (with_reducible repeat (first | refine blk_drewN ?_ _ | refine blk_drew ?_ | refine blk_alloc ?_ _)); refine blk_far ?_ NB373_379.out _; (with_reducible repeat (first | refine blk_drewN ?_ _ | refine blk_drew ?_ | refine blk_alloc ?_ _)); refine blk_far ?_ NB373_379.out _; (with_reducible repeat (first | refine blk_drewN ?_ _ | refine blk_drew ?_ | refine blk_alloc ?_ _)); refine blk_far ?_ NB373_379.out _; (with_reducible repeat (first | refine blk_drewN ?_ _ | refine blk_drew ?_ | refine blk_alloc ?_ _)); exact BK373.out) hb); have n1_ := Aside0.mk (blk_below (g := gb374) (o := .cells #[.int .i64 a1_0, .int .i64 a1_1, .int .i64 a1_2, .int .i64 a1_3, .int .i64 a1_4] 23 (0, 0)) (by (with_reducible repeat (first | refine blk_drewN ?_ _ | refine blk_drew ?_ | refine blk_alloc ?_ _)); refine blk_far ?_ NB374_379.out _; (with_reducible repeat (first | refine blk_drewN ?_ _ | refine blk_drew ?_ | refine blk_alloc ?_ _)); refine blk_far ?_ NB374_379.out _; (with_reducible repeat (first | refine blk_drewN ?_ _ | refine blk_drew ?_ | refine blk_alloc ?_ _)); refine blk_far ?_ NB374_379.out _; (with_reducible repeat (first | refine blk_drewN ?_ _ | refine blk_drew ?_ | refine blk_alloc ?_ _)); exact BK374.out) hb); have n2_ := Aside0.mk (blk_below (g := gb379) (o := .cells #[.int .i64 t375, .int .i64 t376, .int .i64 t377] 69 (0, 0)) (by (with_reducible repeat (first | refine blk_drewN ?_ _ | refine blk_drew ?_ | refine blk_alloc ?_ _)); refine blk_put (cs := #[.int .i64 t375, .int .i64 t376, .int .i64 0]) ?_ 2 _ rfl; (with_reducible repeat (first | refine blk_drewN ?_ _ | refine blk_drew ?_ | refine blk_alloc ?_ _)); refine blk_put (cs := #[.int .i64 t375, .int .i64 0, .int .i64 0]) ?_ 1 _ rfl; (with_reducible repeat (first | refine blk_drewN ?_ _ | refine blk_drew ?_ | refine blk_alloc ?_ _)); refine blk_put (cs := #[.int .i64 0, .int .i64 0, .int .i64 0]) ?_ 0 _ rfl; (with_reducible repeat (first | refine blk_drewN ?_ _ | refine blk_drew ?_ | refine blk_alloc ?_ _)); exact BK379.out) hb); have n3_ := Aside0.mk (below_step (by repeat (first | (with_reducible first | exact HB.out | apply below_alloc | apply pw_below_drewN | apply below_drew1 | refine below_set ?_ GE373.out | refine below_set ?_ GE374.out | refine below_set ?_ GE379.out) | exact HB.out)) hb); clear BK373; clear BK374; clear BK379; clear HB; have BK373 := n0_; have BK374 := n1_; have BK379 := n2_; have HB := n3_; clear n0_ n1_ n2_ n3_; (try clear hb); (try clear hb2); (try clear hk); (try clear hi); have hcz25_0 : w24.cell? ⟨gb373, 0, none⟩ = some (.bool a0_0) := (blk_cell BK373.out 0).trans rfl; have hcz25_1 : w24.cell? ⟨gb373, 1, none⟩ = some (.bool true) := (blk_cell BK373.out 1).trans rfl; have hcz25_2 : w24.cell? ⟨gb373, 2, none⟩ = some (.int .u64 a0_2) := (blk_cell BK373.out 2).trans rfl; have hcz25_3 : w24.cell? ⟨gb373, 3, none⟩ = some (.int .i64 a0_3) := (blk_cell BK373.out 3).trans rfl; have hfz25_0 := blk_frozen BK373.out 0; have hfz25_1 := blk_frozen BK373.out 1; have hfz25_2 := blk_frozen BK373.out 2; have hfz25_3 := blk_frozen BK373.out 3; have hnb26 := NB374_379.out; have hnc26 := NB379_374.out; have hcz27_0 : w24.cell? ⟨gb374, 0, none⟩ = some (.int .i64 a1_0) := (blk_cell BK374.out 0).trans rfl; have hcz27_1 : w24.cell? ⟨gb374, 1, none⟩ = some (.int .i64 a1_1) := (blk_cell BK374.out 1).trans rfl; have hcz27_2 : w24.cell? ⟨gb374, 2, none⟩ = some (.int .i64 a1_2) := (blk_cell BK374.out 2).trans rfl; have hcz27_3 : w24.cell? ⟨gb374, 3, none⟩ = some (.int .i64 a1_3) := (blk_cell BK374.out 3).trans rfl; have hcz27_4 : w24.cell? ⟨gb374, 4, none⟩ = some (.int .i64 a1_4) := (blk_cell BK374.out 4).trans rfl; have hfz27_0 := blk_frozen BK374.out 0; have hfz27_1 := blk_frozen BK374.out 1; have hfz27_2 := blk_frozen BK374.out 2; have hfz27_3 := blk_frozen BK374.out 3; have hfz27_4 := blk_frozen BK374.out 4) | (go_at_call 39; (with_reducible refine (guard_node.calls a1_0 a1_1 a1_2 a1_3 a1_4 a3 t381 _ A20.out).mono ?_); rintro e w28 ⟨rfl, hb⟩; have n0_ := Aside0.mk (blk_below (g := gb373) (o := .cells #[.bool a0_0, .bool true, .int .u64 a0_2, .int .i64 a0_3] 55 (0, 0)) (by (with_reducible repeat (first | refine blk_drewN ?_ _ | refine blk_drew ?_ | refine blk_alloc ?_ _)); exact BK373.out) hb); have n1_ := Aside0.mk (blk_below (g := gb374) (o := .cells #[.int .i64 a1_0, .int .i64 a1_1, .int .i64 a1_2, .int .i64 a1_3, .int .i64 a1_4] 23 (0, 0)) (by (with_reducible repeat (first | refine blk_drewN ?_ _ | refine blk_drew ?_ | refine blk_alloc ?_ _)); exact BK374.out) hb); have n2_ := Aside0.mk (blk_below (g := gb379) (o := .cells #[.int .i64 t375, .int .i64 t376, .int .i64 t377] 69 (0, 0)) (by (with_reducible repeat (first | refine blk_drewN ?_ _ | refine blk_drew ?_ | refine blk_alloc ?_ _)); exact BK379.out) hb); have n3_ := Aside0.mk (below_step (by repeat (first | (with_reducible first | exact HB.out | apply below_alloc | apply pw_below_drewN | apply below_drew1 | refine below_set ?_ GE373.out | refine below_set ?_ GE374.out | refine below_set ?_ GE379.out) | exact HB.out)) hb); clear BK373; clear BK374; clear BK379; clear HB; have BK373 := n0_; have BK374 := n1_; have BK379 := n2_; have HB := n3_; clear n0_ n1_ n2_ n3_; (try clear hb); (try clear hb2); (try clear hk); (try clear hi)))
     go_meet
     case rel => exact ⟨_, (!t381), (by first | rfl | (simp; done) | (simp [*]; done)), H', ⟨by first | omega | exact Nat.le_refl _⟩, ⟨by (with_reducible repeat (first | refine blk_drewN ?_ _ | refine blk_drew ?_ | refine blk_alloc ?_ _)); exact BK373.out⟩, ⟨by (with_reducible repeat (first | refine blk_drewN ?_ _ | refine blk_drew ?_ | refine blk_alloc ?_ _)); exact BK374.out⟩, ⟨by (with_reducible repeat (first | refine blk_drewN ?_ _ | refine blk_drew ?_ | refine blk_alloc ?_ _)); exact BK379.out⟩, ⟨by repeat (first | (with_reducible first | exact HB.out | apply below_alloc | apply pw_below_drewN | apply below_drew1 | refine below_set ?_ GE373.out | refine below_set ?_ GE374.out | refine below_set ?_ GE379.out) | exact HB.out)⟩⟩
    ·replace c19 := Bool.eq_false_iff.mpr c19
     subst c19
     have H1 : (guard_Opens.j0 k a3 true a0_0 false a0_2 a0_3 a1_0 a1_1 a1_2 a1_3 a1_4 t375 t376 t377) = some (r1, r2, r3) := by rw [if_neg (show ¬ (false = true) by decide)] at H; exact H
     clear H
     have H := H1
     clear H1
     have H' := Aside0.mk H
     clear H
     have hnb29 := NB373_374.out
     have hnc29 := NB374_373.out
     have hnb30 := NB373_379.out
     have hnc30 := NB379_373.out
     have hcz31_0 : w12.cell? ⟨gb373, 0, none⟩ = some (.bool a0_0) := (blk_cell BK373.out 0).trans rfl
     have hcz31_1 : w12.cell? ⟨gb373, 1, none⟩ = some (.bool false) := (blk_cell BK373.out 1).trans rfl
     have hcz31_2 : w12.cell? ⟨gb373, 2, none⟩ = some (.int .u64 a0_2) := (blk_cell BK373.out 2).trans rfl
     have hcz31_3 : w12.cell? ⟨gb373, 3, none⟩ = some (.int .i64 a0_3) := (blk_cell BK373.out 3).trans rfl
     have hfz31_0 := blk_frozen BK373.out 0
     have hfz31_1 := blk_frozen BK373.out 1
     have hfz31_2 := blk_frozen BK373.out 2
     have hfz31_3 := blk_frozen BK373.out 3
     go_wp2_with (first | (go_at_call 28; (with_reducible refine (guard_Check.calls k a0_0 false a0_2 a0_3 t380 _ A17.out).mono ?_); rintro e w32 ⟨rfl, hb⟩; have n0_ := Aside0.mk (blk_below (g := gb373) (o := .cells #[.bool a0_0, .bool false, .int .u64 a0_2, .int .i64 a0_3] 55 (0, 0)) (by (with_reducible repeat (first | refine blk_drewN ?_ _ | refine blk_drew ?_ | refine blk_alloc ?_ _)); refine blk_far ?_ NB373_379.out _; (with_reducible repeat (first | refine blk_drewN ?_ _ | refine blk_drew ?_ | refine blk_alloc ?_ _)); refine blk_far ?_ NB373_379.out _; (with_reducible repeat (first | refine blk_drewN ?_ _ | refine blk_drew ?_ | refine blk_alloc ?_ _)); refine blk_far ?_ NB373_379.out _; (with_reducible repeat (first | refine blk_drewN ?_ _ | refine blk_drew ?_ | refine blk_alloc ?_ _)); exact BK373.out) hb); have n1_ := Aside0.mk (blk_below (g := gb374) (o := .cells #[.int .i64 a1_0, .int .i64 a1_1, .int .i64 a1_2, .int .i64 a1_3, .int .i64 a1_4] 23 (0, 0)) (by (with_reducible repeat (first | refine blk_drewN ?_ _ | refine blk_drew ?_ | refine blk_alloc ?_ _)); refine blk_far ?_ NB374_379.out _; (with_reducible repeat (first | refine blk_drewN ?_ _ | refine blk_drew ?_ | refine blk_alloc ?_ _)); refine blk_far ?_ NB374_379.out _; (with_reducible repeat (first | refine blk_drewN ?_ _ | refine blk_drew ?_ | refine blk_alloc ?_ _)); refine blk_far ?_ NB374_379.out _; (with_reducible repeat (first | refine blk_drewN ?_ _ | refine blk_drew ?_ | refine blk_alloc ?_ _)); exact BK374.out) hb); have n2_ := Aside0.mk (blk_below (g := gb379) (o := .cells #[.int .i64 t375, .int .i64 t376, .int .i64 t377] 69 (0, 0)) (by (with_reducible repeat (first | refine blk_drewN ?_ _ | refine blk_drew ?_ | refine blk_alloc ?_ _)); refine blk_put (cs := #[.int .i64 t375, .int .i64 t376, .int .i64 0]) ?_ 2 _ rfl; (with_reducible repeat (first | refine blk_drewN ?_ _ | refine blk_drew ?_ | refine blk_alloc ?_ _)); refine blk_put (cs := #[.int .i64 t375, .int .i64 0, .int .i64 0]) ?_ 1 _ rfl; (with_reducible repeat (first | refine blk_drewN ?_ _ | refine blk_drew ?_ | refine blk_alloc ?_ _)); refine blk_put (cs := #[.int .i64 0, .int .i64 0, .int .i64 0]) ?_ 0 _ rfl; (with_reducible repeat (first | refine blk_drewN ?_ _ | refine blk_drew ?_ | refine blk_alloc ?_ _)); exact BK379.out) hb); have n3_ := Aside0.mk (below_step (by repeat (first | (with_reducible first | exact HB.out | apply below_alloc | apply pw_below_drewN | apply below_drew1 | refine below_set ?_ GE373.out | refine below_set ?_ GE374.out | refine below_set ?_ GE379.out) | exact HB.out)) hb); clear BK373; clear BK374; clear BK379; clear HB; have BK373 := n0_; have BK374 := n1_; have BK379 := n2_; have HB := n3_; clear n0_ n1_ n2_ n3_; (try clear hb); (try clear hb2); (try clear hk); (try clear hi); have hcz33_0 : w32.cell? ⟨gb373, 0, none⟩ = some (.bool a0_0) := (blk_cell BK373.out 0).trans rfl; have hcz33_1 : w32.cell? ⟨gb373, 1, none⟩ = some (.bool false) := (blk_cell BK373.out 1).trans rfl; have hcz33_2 : w32.cell? ⟨gb373, 2, none⟩ = some (.int .u64 a0_2) := (blk_cell BK373.out 2).trans rfl; have hcz33_3 : w32.cell? ⟨gb373, 3, none⟩ = some (.int .i64 a0_3) := (blk_cell BK373.out 3).trans rfl; have hfz33_0 := blk_frozen BK373.out 0; have hfz33_1 := blk_frozen BK373.out 1; have hfz33_2 := blk_frozen BK373.out 2; have hfz33_3 := blk_frozen BK373.out 3))
     go_meet
     case rel => exact ⟨_, (true), (by first | rfl | (simp; done) | (simp [*]; done)), H', ⟨by first | omega | exact Nat.le_refl _⟩, ⟨by (with_reducible repeat (first | refine blk_drewN ?_ _ | refine blk_drew ?_ | refine blk_alloc ?_ _)); exact BK373.out⟩, ⟨by (with_reducible repeat (first | refine blk_drewN ?_ _ | refine blk_drew ?_ | refine blk_alloc ?_ _)); exact BK374.out⟩, ⟨by (with_reducible repeat (first | refine blk_drewN ?_ _ | refine blk_drew ?_ | refine blk_alloc ?_ _)); exact BK379.out⟩, ⟨by repeat (first | (with_reducible first | exact HB.out | apply below_alloc | apply pw_below_drewN | apply below_drew1 | refine below_set ?_ GE373.out | refine below_set ?_ GE374.out | refine below_set ?_ GE379.out) | exact HB.out)⟩⟩
   ·rw [if_neg c18] at H
    have c18b0 : (t380 == 0) = false := beq_eq_false_iff_ne.mpr c18
    have c18b1 : (t380 != 0) = true := bne_iff_ne.mpr c18
    have H' := Aside0.mk H
    clear H
    have hnb34 := NB373_374.out
    have hnc34 := NB374_373.out
    have hnb35 := NB373_379.out
    have hnc35 := NB379_373.out
    have hcz36_0 : w12.cell? ⟨gb373, 0, none⟩ = some (.bool a0_0) := (blk_cell BK373.out 0).trans rfl
    have hcz36_1 : w12.cell? ⟨gb373, 1, none⟩ = some (.bool a0_1) := (blk_cell BK373.out 1).trans rfl
    have hcz36_2 : w12.cell? ⟨gb373, 2, none⟩ = some (.int .u64 a0_2) := (blk_cell BK373.out 2).trans rfl
    have hcz36_3 : w12.cell? ⟨gb373, 3, none⟩ = some (.int .i64 a0_3) := (blk_cell BK373.out 3).trans rfl
    have hfz36_0 := blk_frozen BK373.out 0
    have hfz36_1 := blk_frozen BK373.out 1
    have hfz36_2 := blk_frozen BK373.out 2
    have hfz36_3 := blk_frozen BK373.out 3
    go_wp2_with (first | (go_at_call 28; (with_reducible refine (guard_Check.calls k a0_0 a0_1 a0_2 a0_3 t380 _ A17.out).mono ?_); rintro e w37 ⟨rfl, hb⟩; have n0_ := Aside0.mk (blk_below (g := gb373) (o := .cells #[.bool a0_0, .bool a0_1, .int .u64 a0_2, .int .i64 a0_3] 55 (0, 0)) (by (with_reducible repeat (first | refine blk_drewN ?_ _ | refine blk_drew ?_ | refine blk_alloc ?_ _)); refine blk_far ?_ NB373_379.out _; (with_reducible repeat (first | refine blk_drewN ?_ _ | refine blk_drew ?_ | refine blk_alloc ?_ _)); refine blk_far ?_ NB373_379.out _; (with_reducible repeat (first | refine blk_drewN ?_ _ | refine blk_drew ?_ | refine blk_alloc ?_ _)); refine blk_far ?_ NB373_379.out _; (with_reducible repeat (first | refine blk_drewN ?_ _ | refine blk_drew ?_ | refine blk_alloc ?_ _)); exact BK373.out) hb); have n1_ := Aside0.mk (blk_below (g := gb374) (o := .cells #[.int .i64 a1_0, .int .i64 a1_1, .int .i64 a1_2, .int .i64 a1_3, .int .i64 a1_4] 23 (0, 0)) (by (with_reducible repeat (first | refine blk_drewN ?_ _ | refine blk_drew ?_ | refine blk_alloc ?_ _)); refine blk_far ?_ NB374_379.out _; (with_reducible repeat (first | refine blk_drewN ?_ _ | refine blk_drew ?_ | refine blk_alloc ?_ _)); refine blk_far ?_ NB374_379.out _; (with_reducible repeat (first | refine blk_drewN ?_ _ | refine blk_drew ?_ | refine blk_alloc ?_ _)); refine blk_far ?_ NB374_379.out _; (with_reducible repeat (first | refine blk_drewN ?_ _ | refine blk_drew ?_ | refine blk_alloc ?_ _)); exact BK374.out) hb); have n2_ := Aside0.mk (blk_below (g := gb379) (o := .cells #[.int .i64 t375, .int .i64 t376, .int .i64 t377] 69 (0, 0)) (by (with_reducible repeat (first | refine blk_drewN ?_ _ | refine blk_drew ?_ | refine blk_alloc ?_ _)); refine blk_put (cs := #[.int .i64 t375, .int .i64 t376, .int .i64 0]) ?_ 2 _ rfl; (with_reducible repeat (first | refine blk_drewN ?_ _ | refine blk_drew ?_ | refine blk_alloc ?_ _)); refine blk_put (cs := #[.int .i64 t375, .int .i64 0, .int .i64 0]) ?_ 1 _ rfl; (with_reducible repeat (first | refine blk_drewN ?_ _ | refine blk_drew ?_ | refine blk_alloc ?_ _)); refine blk_put (cs := #[.int .i64 0, .int .i64 0, .int .i64 0]) ?_ 0 _ rfl; (with_reducible repeat (first | refine blk_drewN ?_ _ | refine blk_drew ?_ | refine blk_alloc ?_ _)); exact BK379.out) hb); have n3_ := Aside0.mk (below_step (by repeat (first | (with_reducible first | exact HB.out | apply below_alloc | apply pw_below_drewN | apply below_drew1 | refine below_set ?_ GE373.out | refine below_set ?_ GE374.out | refine below_set ?_ GE379.out) | exact HB.out)) hb); clear BK373; clear BK374; clear BK379; clear HB; have BK373 := n0_; have BK374 := n1_; have BK379 := n2_; have HB := n3_; clear n0_ n1_ n2_ n3_; (try clear hb); (try clear hb2); (try clear hk); (try clear hi)))
    go_meet
    case rel => exact ⟨_, (true), (by first | rfl | (simp; done) | (simp [*]; done)), H', ⟨by first | omega | exact Nat.le_refl _⟩, ⟨by (with_reducible repeat (first | refine blk_drewN ?_ _ | refine blk_drew ?_ | refine blk_alloc ?_ _)); exact BK373.out⟩, ⟨by (with_reducible repeat (first | refine blk_drewN ?_ _ | refine blk_drew ?_ | refine blk_alloc ?_ _)); exact BK374.out⟩, ⟨by (with_reducible repeat (first | refine blk_drewN ?_ _ | refine blk_drew ?_ | refine blk_alloc ?_ _)); exact BK379.out⟩, ⟨by repeat (first | (with_reducible first | exact HB.out | apply below_alloc | apply pw_below_drewN | apply below_drew1 | refine below_set ?_ GE373.out | refine below_set ?_ GE374.out | refine below_set ?_ GE379.out) | exact HB.out)⟩⟩
  ·rw [if_neg c16] at H
   have c16b0 : (t378 == 0) = false := beq_eq_false_iff_ne.mpr c16
   have c16b1 : (t378 != 0) = true := bne_iff_ne.mpr c16
   (first | rw [c16b0] | (simp only [i64_w, i32_w]; rw [c16b0]) | skip)
   have H' := Aside0.mk H
   clear H
   go_wp2
   go_meet
   case rel => exact ⟨_, (true), (by first | rfl | (simp; done) | (simp [*]; done)), H', ⟨by first | omega | exact Nat.le_refl _⟩, ⟨by (with_reducible repeat (first | refine blk_drewN ?_ _ | refine blk_drew ?_ | refine blk_alloc ?_ _)); refine blk_far ?_ NB373_379.out _; (with_reducible repeat (first | refine blk_drewN ?_ _ | refine blk_drew ?_ | refine blk_alloc ?_ _)); refine blk_far ?_ NB373_379.out _; (with_reducible repeat (first | refine blk_drewN ?_ _ | refine blk_drew ?_ | refine blk_alloc ?_ _)); refine blk_far ?_ NB373_379.out _; (with_reducible repeat (first | refine blk_drewN ?_ _ | refine blk_drew ?_ | refine blk_alloc ?_ _)); exact BK373.out⟩, ⟨by (with_reducible repeat (first | refine blk_drewN ?_ _ | refine blk_drew ?_ | refine blk_alloc ?_ _)); refine blk_far ?_ NB374_379.out _; (with_reducible repeat (first | refine blk_drewN ?_ _ | refine blk_drew ?_ | refine blk_alloc ?_ _)); refine blk_far ?_ NB374_379.out _; (with_reducible repeat (first | refine blk_drewN ?_ _ | refine blk_drew ?_ | refine blk_alloc ?_ _)); refine blk_far ?_ NB374_379.out _; (with_reducible repeat (first | refine blk_drewN ?_ _ | refine blk_drew ?_ | refine blk_alloc ?_ _)); exact BK374.out⟩, ⟨by (with_reducible repeat (first | refine blk_drewN ?_ _ | refine blk_drew ?_ | refine blk_alloc ?_ _)); refine blk_put (cs := #[.int .i64 t375, .int .i64 t376, .int .i64 0]) ?_ 2 _ rfl; (with_reducible repeat (first | refine blk_drewN ?_ _ | refine blk_drew ?_ | refine blk_alloc ?_ _)); refine blk_put (cs := #[.int .i64 t375, .int .i64 0, .int .i64 0]) ?_ 1 _ rfl; (with_reducible repeat (first | refine blk_drewN ?_ _ | refine blk_drew ?_ | refine blk_alloc ?_ _)); refine blk_put (cs := #[.int .i64 0, .int .i64 0, .int .i64 0]) ?_ 0 _ rfl; (with_reducible repeat (first | refine blk_drewN ?_ _ | refine blk_drew ?_ | refine blk_alloc ?_ _)); exact BK379.out⟩, ⟨by repeat (first | (with_reducible first | exact HB.out | apply below_alloc | apply pw_below_drewN | apply below_drew1 | refine below_set ?_ GE373.out | refine below_set ?_ GE374.out | refine below_set ?_ GE379.out) | exact HB.out)⟩⟩
 case rest =>
  clear HC6
  try clear c1
  try clear c2
  try clear p2
  try clear c3
  try clear c9
  try clear c13
  try clear c14
  try clear c16
  try clear c16b0
  try clear c16b1
  try clear c18
  try clear c18b0
  try clear c18b1
  try clear c19
  try clear c21
  try clear c22
  try clear c26
  try clear c29
  try clear c30
  try clear c34
  try clear c35
  try clear hcz10_0
  try clear hcz10_1
  try clear hcz10_2
  try clear hcz10_3
  try clear hcz10_4
  try clear hcz15_0
  try clear hcz15_1
  try clear hcz15_2
  try clear hcz23_0
  try clear hcz23_1
  try clear hcz23_2
  try clear hcz23_3
  try clear hcz25_0
  try clear hcz25_1
  try clear hcz25_2
  try clear hcz25_3
  try clear hcz27_0
  try clear hcz27_1
  try clear hcz27_2
  try clear hcz27_3
  try clear hcz27_4
  try clear hcz31_0
  try clear hcz31_1
  try clear hcz31_2
  try clear hcz31_3
  try clear hcz33_0
  try clear hcz33_1
  try clear hcz33_2
  try clear hcz33_3
  try clear hcz36_0
  try clear hcz36_1
  try clear hcz36_2
  try clear hcz36_3
  try clear hfz10_0
  try clear hfz10_1
  try clear hfz10_2
  try clear hfz10_3
  try clear hfz10_4
  try clear hfz15_0
  try clear hfz15_1
  try clear hfz15_2
  try clear hfz23_0
  try clear hfz23_1
  try clear hfz23_2
  try clear hfz23_3
  try clear hfz25_0
  try clear hfz25_1
  try clear hfz25_2
  try clear hfz25_3
  try clear hfz27_0
  try clear hfz27_1
  try clear hfz27_2
  try clear hfz27_3
  try clear hfz27_4
  try clear hfz31_0
  try clear hfz31_1
  try clear hfz31_2
  try clear hfz31_3
  try clear hfz33_0
  try clear hfz33_1
  try clear hfz33_2
  try clear hfz33_3
  try clear hfz36_0
  try clear hfz36_1
  try clear hfz36_2
  try clear hfz36_3
  obtain ⟨kq, x40_5, rfl, HA, HJ5, BK373, BK374, BK379, HB⟩ := hcut
  cases kq with
  | zero => exact absurd HA.out (by simp [guard_Opens.j0])
  | succ kj5 =>
   have H := HA.out
   clear HA
   simp only [guard_Opens.j0] at H
   by_cases c38 : x40_5 = true
   ·subst c38
    have H1 : (some (0, 0, 1)) = some (r1, r2, r3) := by rw [if_pos rfl] at H; exact H
    clear H
    have H := H1
    clear H1
    simp only [Option.some.injEq, Prod.mk.injEq] at H
    obtain ⟨rfl, rfl, rfl⟩ := H
    go_wp2
    go_ret3
    exact ⟨by first | rfl | (simp [errW_none, errW_some] <;> rfl) | (simp [*, errW_none, errW_some] <;> rfl), by repeat (first | (with_reducible first | exact HB.out | apply below_alloc | apply pw_below_drewN | apply below_drew1 | refine below_set ?_ GE373.out | refine below_set ?_ GE374.out | refine below_set ?_ GE379.out) | exact HB.out)⟩
   ·replace c38 := Bool.eq_false_iff.mpr c38
    subst c38
    have H1 : ((medl_Next.f kj5 a1_0 a1_1 a1_2 a1_3 a1_4 a0_2 a3).bind fun bt382 => (if bt382.2 = 0 then ((pico_Add.f kj5 a0_3 (wrap64 ((wrap64 (t375 * (wrap64 (IntKind.u64.wrap (bt382.1 - a0_2))))) + t376))).bind fun bt384 => (if bt384.2 = 0 then ((pico_Sub.f kj5 bt384.1 t377).bind fun bt386 => (if bt386.2 = 0 then ((pico_Add.f kj5 bt384.1 t377).bind fun bt388 => (if bt388.2 = 0 then (some (bt386.1, bt388.1, 0)) else (some (0, 0, bt388.2)))) else (some (0, 0, bt386.2)))) else (some (0, 0, bt384.2)))) else (some (0, 0, bt382.2)))) = some (r1, r2, r3) := by rw [if_neg (show ¬ (false = true) by decide)] at H; exact H
    clear H
    have H := H1
    clear H1
    replace H := Option.bind_eq_some_iff.mp H
    obtain ⟨⟨t382, t383⟩, A390, H⟩ := H
    replace H : (if t383 = 0 then ((pico_Add.f kj5 a0_3 (wrap64 ((wrap64 (t375 * (wrap64 (IntKind.u64.wrap (t382 - a0_2))))) + t376))).bind fun bt384 => (if bt384.2 = 0 then ((pico_Sub.f kj5 bt384.1 t377).bind fun bt386 => (if bt386.2 = 0 then ((pico_Add.f kj5 bt384.1 t377).bind fun bt388 => (if bt388.2 = 0 then (some (bt386.1, bt388.1, 0)) else (some (0, 0, bt388.2)))) else (some (0, 0, bt386.2)))) else (some (0, 0, bt384.2)))) else (some (0, 0, t383))) = some (r1, r2, r3) := H
    have A39 := Aside0.mk A390
    clear A390
    by_cases c40 : t383 = 0
    ·rw [if_pos c40] at H
     have c40b0 : (t383 == 0) = true := beq_iff_eq.mpr c40
     have c40b1 : (t383 != 0) = false := bne_eq_false_iff_eq.mpr c40
     clear c40
     replace H := Option.bind_eq_some_iff.mp H
     obtain ⟨⟨t384, t385⟩, A410, H⟩ := H
     replace H : (if t385 = 0 then ((pico_Sub.f kj5 t384 t377).bind fun bt386 => (if bt386.2 = 0 then ((pico_Add.f kj5 t384 t377).bind fun bt388 => (if bt388.2 = 0 then (some (bt386.1, bt388.1, 0)) else (some (0, 0, bt388.2)))) else (some (0, 0, bt386.2)))) else (some (0, 0, t385))) = some (r1, r2, r3) := H
     have A41 := Aside0.mk A410
     clear A410
     by_cases c42 : t385 = 0
     ·rw [if_pos c42] at H
      have c42b0 : (t385 == 0) = true := beq_iff_eq.mpr c42
      have c42b1 : (t385 != 0) = false := bne_eq_false_iff_eq.mpr c42
      clear c42
      replace H := Option.bind_eq_some_iff.mp H
      obtain ⟨⟨t386, t387⟩, A430, H⟩ := H
      replace H : (if t387 = 0 then ((pico_Add.f kj5 t384 t377).bind fun bt388 => (if bt388.2 = 0 then (some (t386, bt388.1, 0)) else (some (0, 0, bt388.2)))) else (some (0, 0, t387))) = some (r1, r2, r3) := H
      have A43 := Aside0.mk A430
      clear A430
      by_cases c44 : t387 = 0
      ·rw [if_pos c44] at H
       have c44b0 : (t387 == 0) = true := beq_iff_eq.mpr c44
       have c44b1 : (t387 != 0) = false := bne_eq_false_iff_eq.mpr c44
       clear c44
       replace H := Option.bind_eq_some_iff.mp H
       obtain ⟨⟨t388, t389⟩, A450, H⟩ := H
       replace H : (if t389 = 0 then (some (t386, t388, 0)) else (some (0, 0, t389))) = some (r1, r2, r3) := H
       have A45 := Aside0.mk A450
       clear A450
       by_cases c46 : t389 = 0
       ·rw [if_pos c46] at H
        have c46b0 : (t389 == 0) = true := beq_iff_eq.mpr c46
        have c46b1 : (t389 != 0) = false := bne_eq_false_iff_eq.mpr c46
        clear c46
        simp only [Option.some.injEq, Prod.mk.injEq] at H
        obtain ⟨rfl, rfl, rfl⟩ := H
        have hnb47 := NB374_373.out
        have hnc47 := NB373_374.out
        have hnb48 := NB374_379.out
        have hnc48 := NB379_374.out
        have hcz49_0 : wc.cell? ⟨gb374, 0, none⟩ = some (.int .i64 a1_0) := (blk_cell BK374.out 0).trans rfl
        have hcz49_1 : wc.cell? ⟨gb374, 1, none⟩ = some (.int .i64 a1_1) := (blk_cell BK374.out 1).trans rfl
        have hcz49_2 : wc.cell? ⟨gb374, 2, none⟩ = some (.int .i64 a1_2) := (blk_cell BK374.out 2).trans rfl
        have hcz49_3 : wc.cell? ⟨gb374, 3, none⟩ = some (.int .i64 a1_3) := (blk_cell BK374.out 3).trans rfl
        have hcz49_4 : wc.cell? ⟨gb374, 4, none⟩ = some (.int .i64 a1_4) := (blk_cell BK374.out 4).trans rfl
        have hfz49_0 := blk_frozen BK374.out 0
        have hfz49_1 := blk_frozen BK374.out 1
        have hfz49_2 := blk_frozen BK374.out 2
        have hfz49_3 := blk_frozen BK374.out 3
        have hfz49_4 := blk_frozen BK374.out 4
        have hnb50 := NB373_379.out
        have hnc50 := NB379_373.out
        have hcz51_0 : wc.cell? ⟨gb373, 0, none⟩ = some (.bool a0_0) := (blk_cell BK373.out 0).trans rfl
        have hcz51_1 : wc.cell? ⟨gb373, 1, none⟩ = some (.bool a0_1) := (blk_cell BK373.out 1).trans rfl
        have hcz51_2 : wc.cell? ⟨gb373, 2, none⟩ = some (.int .u64 a0_2) := (blk_cell BK373.out 2).trans rfl
        have hcz51_3 : wc.cell? ⟨gb373, 3, none⟩ = some (.int .i64 a0_3) := (blk_cell BK373.out 3).trans rfl
        have hfz51_0 := blk_frozen BK373.out 0
        have hfz51_1 := blk_frozen BK373.out 1
        have hfz51_2 := blk_frozen BK373.out 2
        have hfz51_3 := blk_frozen BK373.out 3
        go_wp2_with (first | ((with_reducible refine gate_callee (f := 18) rfl ?_); refine goesL_ (some 46) rfl rfl Try.func18 (by kernel_rfl) rfl #[.agg #[.int .i64 a1_0, .int .i64 a1_1, .int .i64 a1_2, .int .i64 a1_3, .int .i64 a1_4], .int .u64 a0_2, .int .i64 a3] rfl (by (try simp only [List.map_toArray, List.map_cons, List.map_nil]); first | done | rfl | (simp only [List.length_drop, List.length_take]; rfl)) ?_; (with_reducible refine (medl_Next.calls kj5 a1_0 a1_1 a1_2 a1_3 a1_4 a0_2 a3 t382 t383 _ A39.out).mono ?_); rintro e w52 ⟨rfl, hb⟩; refine ⟨_, rfl, ?_⟩; have n0_ := Aside0.mk (blk_below (g := gb373) (o := .cells #[.bool a0_0, .bool a0_1, .int .u64 a0_2, .int .i64 a0_3] 55 (0, 0)) (by (with_reducible repeat (first | refine blk_drewN ?_ _ | refine blk_drew ?_ | refine blk_alloc ?_ _)); exact BK373.out) hb); have n1_ := Aside0.mk (blk_below (g := gb374) (o := .cells #[.int .i64 a1_0, .int .i64 a1_1, .int .i64 a1_2, .int .i64 a1_3, .int .i64 a1_4] 23 (0, 0)) (by (with_reducible repeat (first | refine blk_drewN ?_ _ | refine blk_drew ?_ | refine blk_alloc ?_ _)); exact BK374.out) hb); have n2_ := Aside0.mk (blk_below (g := gb379) (o := .cells #[.int .i64 t375, .int .i64 t376, .int .i64 t377] 69 (0, 0)) (by (with_reducible repeat (first | refine blk_drewN ?_ _ | refine blk_drew ?_ | refine blk_alloc ?_ _)); exact BK379.out) hb); have n3_ := Aside0.mk (below_step (by repeat (first | (with_reducible first | exact HB.out | apply below_alloc | apply pw_below_drewN | apply below_drew1 | refine below_set ?_ GE373.out | refine below_set ?_ GE374.out | refine below_set ?_ GE379.out) | exact HB.out)) hb); clear BK373; clear BK374; clear BK379; clear HB; have BK373 := n0_; have BK374 := n1_; have BK379 := n2_; have HB := n3_; clear n0_ n1_ n2_ n3_; (try clear hb); (try clear hb2); (try clear hk); (try clear hi); have hcz53_0 : w52.cell? ⟨gb373, 0, none⟩ = some (.bool a0_0) := (blk_cell BK373.out 0).trans rfl; have hcz53_1 : w52.cell? ⟨gb373, 1, none⟩ = some (.bool a0_1) := (blk_cell BK373.out 1).trans rfl; have hcz53_2 : w52.cell? ⟨gb373, 2, none⟩ = some (.int .u64 a0_2) := (blk_cell BK373.out 2).trans rfl; have hcz53_3 : w52.cell? ⟨gb373, 3, none⟩ = some (.int .i64 a0_3) := (blk_cell BK373.out 3).trans rfl; have hfz53_0 := blk_frozen BK373.out 0; have hfz53_1 := blk_frozen BK373.out 1; have hfz53_2 := blk_frozen BK373.out 2; have hfz53_3 := blk_frozen BK373.out 3; have hcz54_0 : w52.cell? ⟨gb379, 0, none⟩ = some (.int .i64 t375) := (blk_cell BK379.out 0).trans rfl; have hcz54_1 : w52.cell? ⟨gb379, 1, none⟩ = some (.int .i64 t376) := (blk_cell BK379.out 1).trans rfl; have hcz54_2 : w52.cell? ⟨gb379, 2, none⟩ = some (.int .i64 t377) := (blk_cell BK379.out 2).trans rfl; have hfz54_0 := blk_frozen BK379.out 0; have hfz54_1 := blk_frozen BK379.out 1; have hfz54_2 := blk_frozen BK379.out 2) | ((with_reducible refine gate_callee (f := 41) rfl ?_); refine goesL_ (some 66) rfl rfl Try.func41 (by kernel_rfl) rfl #[.int .i64 a0_3, .int .i64 (wrap64 ((wrap64 (t375 * (wrap64 (IntKind.u64.wrap (t382 - a0_2))))) + t376))] rfl (by (try simp only [List.map_toArray, List.map_cons, List.map_nil]); first | done | rfl | (simp only [List.length_drop, List.length_take]; rfl)) ?_; (with_reducible refine (pico_Add.calls kj5 a0_3 (wrap64 ((wrap64 (t375 * (wrap64 (IntKind.u64.wrap (t382 - a0_2))))) + t376)) t384 t385 _ A41.out).mono ?_); rintro e w55 ⟨rfl, hb⟩; refine ⟨_, rfl, ?_⟩; have n0_ := Aside0.mk (blk_below (g := gb373) (o := .cells #[.bool a0_0, .bool a0_1, .int .u64 a0_2, .int .i64 a0_3] 55 (0, 0)) (by (with_reducible repeat (first | refine blk_drewN ?_ _ | refine blk_drew ?_ | refine blk_alloc ?_ _)); exact BK373.out) hb); have n1_ := Aside0.mk (blk_below (g := gb374) (o := .cells #[.int .i64 a1_0, .int .i64 a1_1, .int .i64 a1_2, .int .i64 a1_3, .int .i64 a1_4] 23 (0, 0)) (by (with_reducible repeat (first | refine blk_drewN ?_ _ | refine blk_drew ?_ | refine blk_alloc ?_ _)); exact BK374.out) hb); have n2_ := Aside0.mk (blk_below (g := gb379) (o := .cells #[.int .i64 t375, .int .i64 t376, .int .i64 t377] 69 (0, 0)) (by (with_reducible repeat (first | refine blk_drewN ?_ _ | refine blk_drew ?_ | refine blk_alloc ?_ _)); exact BK379.out) hb); have n3_ := Aside0.mk (below_step (by repeat (first | (with_reducible first | exact HB.out | apply below_alloc | apply pw_below_drewN | apply below_drew1 | refine below_set ?_ GE373.out | refine below_set ?_ GE374.out | refine below_set ?_ GE379.out) | exact HB.out)) hb); clear BK373; clear BK374; clear BK379; clear HB; have BK373 := n0_; have BK374 := n1_; have BK379 := n2_; have HB := n3_; clear n0_ n1_ n2_ n3_; (try clear hb); (try clear hb2); (try clear hk); (try clear hi); have hcz56_0 : w55.cell? ⟨gb379, 0, none⟩ = some (.int .i64 t375) := (blk_cell BK379.out 0).trans rfl; have hcz56_1 : w55.cell? ⟨gb379, 1, none⟩ = some (.int .i64 t376) := (blk_cell BK379.out 1).trans rfl; have hcz56_2 : w55.cell? ⟨gb379, 2, none⟩ = some (.int .i64 t377) := (blk_cell BK379.out 2).trans rfl; have hfz56_0 := blk_frozen BK379.out 0; have hfz56_1 := blk_frozen BK379.out 1; have hfz56_2 := blk_frozen BK379.out 2) | ((with_reducible refine gate_callee (f := 42) rfl ?_); refine goesL_ (some 76) rfl rfl Try.func42 (by kernel_rfl) rfl #[.int .i64 t384, .int .i64 t377] rfl (by (try simp only [List.map_toArray, List.map_cons, List.map_nil]); first | done | rfl | (simp only [List.length_drop, List.length_take]; rfl)) ?_; (with_reducible refine (pico_Sub.calls kj5 t384 t377 t386 t387 _ A43.out).mono ?_); rintro e w57 ⟨rfl, hb⟩; refine ⟨_, rfl, ?_⟩; have n0_ := Aside0.mk (blk_below (g := gb373) (o := .cells #[.bool a0_0, .bool a0_1, .int .u64 a0_2, .int .i64 a0_3] 55 (0, 0)) (by (with_reducible repeat (first | refine blk_drewN ?_ _ | refine blk_drew ?_ | refine blk_alloc ?_ _)); exact BK373.out) hb); have n1_ := Aside0.mk (blk_below (g := gb374) (o := .cells #[.int .i64 a1_0, .int .i64 a1_1, .int .i64 a1_2, .int .i64 a1_3, .int .i64 a1_4] 23 (0, 0)) (by (with_reducible repeat (first | refine blk_drewN ?_ _ | refine blk_drew ?_ | refine blk_alloc ?_ _)); exact BK374.out) hb); have n2_ := Aside0.mk (blk_below (g := gb379) (o := .cells #[.int .i64 t375, .int .i64 t376, .int .i64 t377] 69 (0, 0)) (by (with_reducible repeat (first | refine blk_drewN ?_ _ | refine blk_drew ?_ | refine blk_alloc ?_ _)); exact BK379.out) hb); have n3_ := Aside0.mk (below_step (by repeat (first | (with_reducible first | exact HB.out | apply below_alloc | apply pw_below_drewN | apply below_drew1 | refine below_set ?_ GE373.out | refine below_set ?_ GE374.out | refine below_set ?_ GE379.out) | exact HB.out)) hb); clear BK373; clear BK374; clear BK379; clear HB; have BK373 := n0_; have BK374 := n1_; have BK379 := n2_; have HB := n3_; clear n0_ n1_ n2_ n3_; (try clear hb); (try clear hb2); (try clear hk); (try clear hi); have hcz58_0 : w57.cell? ⟨gb379, 0, none⟩ = some (.int .i64 t375) := (blk_cell BK379.out 0).trans rfl; have hcz58_1 : w57.cell? ⟨gb379, 1, none⟩ = some (.int .i64 t376) := (blk_cell BK379.out 1).trans rfl; have hcz58_2 : w57.cell? ⟨gb379, 2, none⟩ = some (.int .i64 t377) := (blk_cell BK379.out 2).trans rfl; have hfz58_0 := blk_frozen BK379.out 0; have hfz58_1 := blk_frozen BK379.out 1; have hfz58_2 := blk_frozen BK379.out 2) | ((with_reducible refine gate_callee (f := 41) rfl ?_); refine goesL_ (some 86) rfl rfl Try.func41 (by kernel_rfl) rfl #[.int .i64 t384, .int .i64 t377] rfl (by (try simp only [List.map_toArray, List.map_cons, List.map_nil]); first | done | rfl | (simp only [List.length_drop, List.length_take]; rfl)) ?_; (with_reducible refine (pico_Add.calls kj5 t384 t377 t388 t389 _ A45.out).mono ?_); rintro e w59 ⟨rfl, hb⟩; refine ⟨_, rfl, ?_⟩; have n0_ := Aside0.mk (blk_below (g := gb373) (o := .cells #[.bool a0_0, .bool a0_1, .int .u64 a0_2, .int .i64 a0_3] 55 (0, 0)) (by (with_reducible repeat (first | refine blk_drewN ?_ _ | refine blk_drew ?_ | refine blk_alloc ?_ _)); exact BK373.out) hb); have n1_ := Aside0.mk (blk_below (g := gb374) (o := .cells #[.int .i64 a1_0, .int .i64 a1_1, .int .i64 a1_2, .int .i64 a1_3, .int .i64 a1_4] 23 (0, 0)) (by (with_reducible repeat (first | refine blk_drewN ?_ _ | refine blk_drew ?_ | refine blk_alloc ?_ _)); exact BK374.out) hb); have n2_ := Aside0.mk (blk_below (g := gb379) (o := .cells #[.int .i64 t375, .int .i64 t376, .int .i64 t377] 69 (0, 0)) (by (with_reducible repeat (first | refine blk_drewN ?_ _ | refine blk_drew ?_ | refine blk_alloc ?_ _)); exact BK379.out) hb); have n3_ := Aside0.mk (below_step (by repeat (first | (with_reducible first | exact HB.out | apply below_alloc | apply pw_below_drewN | apply below_drew1 | refine below_set ?_ GE373.out | refine below_set ?_ GE374.out | refine below_set ?_ GE379.out) | exact HB.out)) hb); clear BK373; clear BK374; clear BK379; clear HB; have BK373 := n0_; have BK374 := n1_; have BK379 := n2_; have HB := n3_; clear n0_ n1_ n2_ n3_; (try clear hb); (try clear hb2); (try clear hk); (try clear hi)))
        go_ret3
        exact ⟨by first | rfl | (simp [errW_none, errW_some] <;> rfl) | (simp [*, errW_none, errW_some] <;> rfl), by repeat (first | (with_reducible first | exact HB.out | apply below_alloc | apply pw_below_drewN | apply below_drew1 | refine below_set ?_ GE373.out | refine below_set ?_ GE374.out | refine below_set ?_ GE379.out) | exact HB.out)⟩
       ·rw [if_neg c46] at H
        have c46b0 : (t389 == 0) = false := beq_eq_false_iff_ne.mpr c46
        have c46b1 : (t389 != 0) = true := bne_iff_ne.mpr c46
        simp only [Option.some.injEq, Prod.mk.injEq] at H
        obtain ⟨rfl, rfl, rfl⟩ := H
        have hnb60 := NB374_373.out
        have hnc60 := NB373_374.out
        have hnb61 := NB374_379.out
        have hnc61 := NB379_374.out
        have hcz62_0 : wc.cell? ⟨gb374, 0, none⟩ = some (.int .i64 a1_0) := (blk_cell BK374.out 0).trans rfl
        have hcz62_1 : wc.cell? ⟨gb374, 1, none⟩ = some (.int .i64 a1_1) := (blk_cell BK374.out 1).trans rfl
        have hcz62_2 : wc.cell? ⟨gb374, 2, none⟩ = some (.int .i64 a1_2) := (blk_cell BK374.out 2).trans rfl
        have hcz62_3 : wc.cell? ⟨gb374, 3, none⟩ = some (.int .i64 a1_3) := (blk_cell BK374.out 3).trans rfl
        have hcz62_4 : wc.cell? ⟨gb374, 4, none⟩ = some (.int .i64 a1_4) := (blk_cell BK374.out 4).trans rfl
        have hfz62_0 := blk_frozen BK374.out 0
        have hfz62_1 := blk_frozen BK374.out 1
        have hfz62_2 := blk_frozen BK374.out 2
        have hfz62_3 := blk_frozen BK374.out 3
        have hfz62_4 := blk_frozen BK374.out 4
        have hnb63 := NB373_379.out
        have hnc63 := NB379_373.out
        have hcz64_0 : wc.cell? ⟨gb373, 0, none⟩ = some (.bool a0_0) := (blk_cell BK373.out 0).trans rfl
        have hcz64_1 : wc.cell? ⟨gb373, 1, none⟩ = some (.bool a0_1) := (blk_cell BK373.out 1).trans rfl
        have hcz64_2 : wc.cell? ⟨gb373, 2, none⟩ = some (.int .u64 a0_2) := (blk_cell BK373.out 2).trans rfl
        have hcz64_3 : wc.cell? ⟨gb373, 3, none⟩ = some (.int .i64 a0_3) := (blk_cell BK373.out 3).trans rfl
        have hfz64_0 := blk_frozen BK373.out 0
        have hfz64_1 := blk_frozen BK373.out 1
        have hfz64_2 := blk_frozen BK373.out 2
        have hfz64_3 := blk_frozen BK373.out 3
        go_wp2_with (first | ((with_reducible refine gate_callee (f := 18) rfl ?_); refine goesL_ (some 46) rfl rfl Try.func18 (by kernel_rfl) rfl #[.agg #[.int .i64 a1_0, .int .i64 a1_1, .int .i64 a1_2, .int .i64 a1_3, .int .i64 a1_4], .int .u64 a0_2, .int .i64 a3] rfl (by (try simp only [List.map_toArray, List.map_cons, List.map_nil]); first | done | rfl | (simp only [List.length_drop, List.length_take]; rfl)) ?_; (with_reducible refine (medl_Next.calls kj5 a1_0 a1_1 a1_2 a1_3 a1_4 a0_2 a3 t382 t383 _ A39.out).mono ?_); rintro e w65 ⟨rfl, hb⟩; refine ⟨_, rfl, ?_⟩; have n0_ := Aside0.mk (blk_below (g := gb373) (o := .cells #[.bool a0_0, .bool a0_1, .int .u64 a0_2, .int .i64 a0_3] 55 (0, 0)) (by (with_reducible repeat (first | refine blk_drewN ?_ _ | refine blk_drew ?_ | refine blk_alloc ?_ _)); exact BK373.out) hb); have n1_ := Aside0.mk (blk_below (g := gb374) (o := .cells #[.int .i64 a1_0, .int .i64 a1_1, .int .i64 a1_2, .int .i64 a1_3, .int .i64 a1_4] 23 (0, 0)) (by (with_reducible repeat (first | refine blk_drewN ?_ _ | refine blk_drew ?_ | refine blk_alloc ?_ _)); exact BK374.out) hb); have n2_ := Aside0.mk (blk_below (g := gb379) (o := .cells #[.int .i64 t375, .int .i64 t376, .int .i64 t377] 69 (0, 0)) (by (with_reducible repeat (first | refine blk_drewN ?_ _ | refine blk_drew ?_ | refine blk_alloc ?_ _)); exact BK379.out) hb); have n3_ := Aside0.mk (below_step (by repeat (first | (with_reducible first | exact HB.out | apply below_alloc | apply pw_below_drewN | apply below_drew1 | refine below_set ?_ GE373.out | refine below_set ?_ GE374.out | refine below_set ?_ GE379.out) | exact HB.out)) hb); clear BK373; clear BK374; clear BK379; clear HB; have BK373 := n0_; have BK374 := n1_; have BK379 := n2_; have HB := n3_; clear n0_ n1_ n2_ n3_; (try clear hb); (try clear hb2); (try clear hk); (try clear hi); have hcz66_0 : w65.cell? ⟨gb373, 0, none⟩ = some (.bool a0_0) := (blk_cell BK373.out 0).trans rfl; have hcz66_1 : w65.cell? ⟨gb373, 1, none⟩ = some (.bool a0_1) := (blk_cell BK373.out 1).trans rfl; have hcz66_2 : w65.cell? ⟨gb373, 2, none⟩ = some (.int .u64 a0_2) := (blk_cell BK373.out 2).trans rfl; have hcz66_3 : w65.cell? ⟨gb373, 3, none⟩ = some (.int .i64 a0_3) := (blk_cell BK373.out 3).trans rfl; have hfz66_0 := blk_frozen BK373.out 0; have hfz66_1 := blk_frozen BK373.out 1; have hfz66_2 := blk_frozen BK373.out 2; have hfz66_3 := blk_frozen BK373.out 3; have hcz67_0 : w65.cell? ⟨gb379, 0, none⟩ = some (.int .i64 t375) := (blk_cell BK379.out 0).trans rfl; have hcz67_1 : w65.cell? ⟨gb379, 1, none⟩ = some (.int .i64 t376) := (blk_cell BK379.out 1).trans rfl; have hcz67_2 : w65.cell? ⟨gb379, 2, none⟩ = some (.int .i64 t377) := (blk_cell BK379.out 2).trans rfl; have hfz67_0 := blk_frozen BK379.out 0; have hfz67_1 := blk_frozen BK379.out 1; have hfz67_2 := blk_frozen BK379.out 2) | ((with_reducible refine gate_callee (f := 41) rfl ?_); refine goesL_ (some 66) rfl rfl Try.func41 (by kernel_rfl) rfl #[.int .i64 a0_3, .int .i64 (wrap64 ((wrap64 (t375 * (wrap64 (IntKind.u64.wrap (t382 - a0_2))))) + t376))] rfl (by (try simp only [List.map_toArray, List.map_cons, List.map_nil]); first | done | rfl | (simp only [List.length_drop, List.length_take]; rfl)) ?_; (with_reducible refine (pico_Add.calls kj5 a0_3 (wrap64 ((wrap64 (t375 * (wrap64 (IntKind.u64.wrap (t382 - a0_2))))) + t376)) t384 t385 _ A41.out).mono ?_); rintro e w68 ⟨rfl, hb⟩; refine ⟨_, rfl, ?_⟩; have n0_ := Aside0.mk (blk_below (g := gb373) (o := .cells #[.bool a0_0, .bool a0_1, .int .u64 a0_2, .int .i64 a0_3] 55 (0, 0)) (by (with_reducible repeat (first | refine blk_drewN ?_ _ | refine blk_drew ?_ | refine blk_alloc ?_ _)); exact BK373.out) hb); have n1_ := Aside0.mk (blk_below (g := gb374) (o := .cells #[.int .i64 a1_0, .int .i64 a1_1, .int .i64 a1_2, .int .i64 a1_3, .int .i64 a1_4] 23 (0, 0)) (by (with_reducible repeat (first | refine blk_drewN ?_ _ | refine blk_drew ?_ | refine blk_alloc ?_ _)); exact BK374.out) hb); have n2_ := Aside0.mk (blk_below (g := gb379) (o := .cells #[.int .i64 t375, .int .i64 t376, .int .i64 t377] 69 (0, 0)) (by (with_reducible repeat (first | refine blk_drewN ?_ _ | refine blk_drew ?_ | refine blk_alloc ?_ _)); exact BK379.out) hb); have n3_ := Aside0.mk (below_step (by repeat (first | (with_reducible first | exact HB.out | apply below_alloc | apply pw_below_drewN | apply below_drew1 | refine below_set ?_ GE373.out | refine below_set ?_ GE374.out | refine below_set ?_ GE379.out) | exact HB.out)) hb); clear BK373; clear BK374; clear BK379; clear HB; have BK373 := n0_; have BK374 := n1_; have BK379 := n2_; have HB := n3_; clear n0_ n1_ n2_ n3_; (try clear hb); (try clear hb2); (try clear hk); (try clear hi); have hcz69_0 : w68.cell? ⟨gb379, 0, none⟩ = some (.int .i64 t375) := (blk_cell BK379.out 0).trans rfl; have hcz69_1 : w68.cell? ⟨gb379, 1, none⟩ = some (.int .i64 t376) := (blk_cell BK379.out 1).trans rfl; have hcz69_2 : w68.cell? ⟨gb379, 2, none⟩ = some (.int .i64 t377) := (blk_cell BK379.out 2).trans rfl; have hfz69_0 := blk_frozen BK379.out 0; have hfz69_1 := blk_frozen BK379.out 1; have hfz69_2 := blk_frozen BK379.out 2) | ((with_reducible refine gate_callee (f := 42) rfl ?_); refine goesL_ (some 76) rfl rfl Try.func42 (by kernel_rfl) rfl #[.int .i64 t384, .int .i64 t377] rfl (by (try simp only [List.map_toArray, List.map_cons, List.map_nil]); first | done | rfl | (simp only [List.length_drop, List.length_take]; rfl)) ?_; (with_reducible refine (pico_Sub.calls kj5 t384 t377 t386 t387 _ A43.out).mono ?_); rintro e w70 ⟨rfl, hb⟩; refine ⟨_, rfl, ?_⟩; have n0_ := Aside0.mk (blk_below (g := gb373) (o := .cells #[.bool a0_0, .bool a0_1, .int .u64 a0_2, .int .i64 a0_3] 55 (0, 0)) (by (with_reducible repeat (first | refine blk_drewN ?_ _ | refine blk_drew ?_ | refine blk_alloc ?_ _)); exact BK373.out) hb); have n1_ := Aside0.mk (blk_below (g := gb374) (o := .cells #[.int .i64 a1_0, .int .i64 a1_1, .int .i64 a1_2, .int .i64 a1_3, .int .i64 a1_4] 23 (0, 0)) (by (with_reducible repeat (first | refine blk_drewN ?_ _ | refine blk_drew ?_ | refine blk_alloc ?_ _)); exact BK374.out) hb); have n2_ := Aside0.mk (blk_below (g := gb379) (o := .cells #[.int .i64 t375, .int .i64 t376, .int .i64 t377] 69 (0, 0)) (by (with_reducible repeat (first | refine blk_drewN ?_ _ | refine blk_drew ?_ | refine blk_alloc ?_ _)); exact BK379.out) hb); have n3_ := Aside0.mk (below_step (by repeat (first | (with_reducible first | exact HB.out | apply below_alloc | apply pw_below_drewN | apply below_drew1 | refine below_set ?_ GE373.out | refine below_set ?_ GE374.out | refine below_set ?_ GE379.out) | exact HB.out)) hb); clear BK373; clear BK374; clear BK379; clear HB; have BK373 := n0_; have BK374 := n1_; have BK379 := n2_; have HB := n3_; clear n0_ n1_ n2_ n3_; (try clear hb); (try clear hb2); (try clear hk); (try clear hi); have hcz71_0 : w70.cell? ⟨gb379, 0, none⟩ = some (.int .i64 t375) := (blk_cell BK379.out 0).trans rfl; have hcz71_1 : w70.cell? ⟨gb379, 1, none⟩ = some (.int .i64 t376) := (blk_cell BK379.out 1).trans rfl; have hcz71_2 : w70.cell? ⟨gb379, 2, none⟩ = some (.int .i64 t377) := (blk_cell BK379.out 2).trans rfl; have hfz71_0 := blk_frozen BK379.out 0; have hfz71_1 := blk_frozen BK379.out 1; have hfz71_2 := blk_frozen BK379.out 2) | ((with_reducible refine gate_callee (f := 41) rfl ?_); refine goesL_ (some 86) rfl rfl Try.func41 (by kernel_rfl) rfl #[.int .i64 t384, .int .i64 t377] rfl (by (try simp only [List.map_toArray, List.map_cons, List.map_nil]); first | done | rfl | (simp only [List.length_drop, List.length_take]; rfl)) ?_; (with_reducible refine (pico_Add.calls kj5 t384 t377 t388 t389 _ A45.out).mono ?_); rintro e w72 ⟨rfl, hb⟩; refine ⟨_, rfl, ?_⟩; have n0_ := Aside0.mk (blk_below (g := gb373) (o := .cells #[.bool a0_0, .bool a0_1, .int .u64 a0_2, .int .i64 a0_3] 55 (0, 0)) (by (with_reducible repeat (first | refine blk_drewN ?_ _ | refine blk_drew ?_ | refine blk_alloc ?_ _)); exact BK373.out) hb); have n1_ := Aside0.mk (blk_below (g := gb374) (o := .cells #[.int .i64 a1_0, .int .i64 a1_1, .int .i64 a1_2, .int .i64 a1_3, .int .i64 a1_4] 23 (0, 0)) (by (with_reducible repeat (first | refine blk_drewN ?_ _ | refine blk_drew ?_ | refine blk_alloc ?_ _)); exact BK374.out) hb); have n2_ := Aside0.mk (blk_below (g := gb379) (o := .cells #[.int .i64 t375, .int .i64 t376, .int .i64 t377] 69 (0, 0)) (by (with_reducible repeat (first | refine blk_drewN ?_ _ | refine blk_drew ?_ | refine blk_alloc ?_ _)); exact BK379.out) hb); have n3_ := Aside0.mk (below_step (by repeat (first | (with_reducible first | exact HB.out | apply below_alloc | apply pw_below_drewN | apply below_drew1 | refine below_set ?_ GE373.out | refine below_set ?_ GE374.out | refine below_set ?_ GE379.out) | exact HB.out)) hb); clear BK373; clear BK374; clear BK379; clear HB; have BK373 := n0_; have BK374 := n1_; have BK379 := n2_; have HB := n3_; clear n0_ n1_ n2_ n3_; (try clear hb); (try clear hb2); (try clear hk); (try clear hi)))
        go_ret3
        exact ⟨by first | rfl | (simp [errW_none, errW_some] <;> rfl) | (simp [*, errW_none, errW_some] <;> rfl), by repeat (first | (with_reducible first | exact HB.out | apply below_alloc | apply pw_below_drewN | apply below_drew1 | refine below_set ?_ GE373.out | refine below_set ?_ GE374.out | refine below_set ?_ GE379.out) | exact HB.out)⟩
      ·rw [if_neg c44] at H
       have c44b0 : (t387 == 0) = false := beq_eq_false_iff_ne.mpr c44
       have c44b1 : (t387 != 0) = true := bne_iff_ne.mpr c44
       simp only [Option.some.injEq, Prod.mk.injEq] at H
       obtain ⟨rfl, rfl, rfl⟩ := H
       have hnb73 := NB374_373.out
       have hnc73 := NB373_374.out
       have hnb74 := NB374_379.out
       have hnc74 := NB379_374.out
       have hcz75_0 : wc.cell? ⟨gb374, 0, none⟩ = some (.int .i64 a1_0) := (blk_cell BK374.out 0).trans rfl
       have hcz75_1 : wc.cell? ⟨gb374, 1, none⟩ = some (.int .i64 a1_1) := (blk_cell BK374.out 1).trans rfl
       have hcz75_2 : wc.cell? ⟨gb374, 2, none⟩ = some (.int .i64 a1_2) := (blk_cell BK374.out 2).trans rfl
       have hcz75_3 : wc.cell? ⟨gb374, 3, none⟩ = some (.int .i64 a1_3) := (blk_cell BK374.out 3).trans rfl
       have hcz75_4 : wc.cell? ⟨gb374, 4, none⟩ = some (.int .i64 a1_4) := (blk_cell BK374.out 4).trans rfl
       have hfz75_0 := blk_frozen BK374.out 0
       have hfz75_1 := blk_frozen BK374.out 1
       have hfz75_2 := blk_frozen BK374.out 2
       have hfz75_3 := blk_frozen BK374.out 3
       have hfz75_4 := blk_frozen BK374.out 4
       have hnb76 := NB373_379.out
       have hnc76 := NB379_373.out
       have hcz77_0 : wc.cell? ⟨gb373, 0, none⟩ = some (.bool a0_0) := (blk_cell BK373.out 0).trans rfl
       have hcz77_1 : wc.cell? ⟨gb373, 1, none⟩ = some (.bool a0_1) := (blk_cell BK373.out 1).trans rfl
       have hcz77_2 : wc.cell? ⟨gb373, 2, none⟩ = some (.int .u64 a0_2) := (blk_cell BK373.out 2).trans rfl
       have hcz77_3 : wc.cell? ⟨gb373, 3, none⟩ = some (.int .i64 a0_3) := (blk_cell BK373.out 3).trans rfl
       have hfz77_0 := blk_frozen BK373.out 0
       have hfz77_1 := blk_frozen BK373.out 1
       have hfz77_2 := blk_frozen BK373.out 2
       have hfz77_3 := blk_frozen BK373.out 3
       go_wp2_with (first | ((with_reducible refine gate_callee (f := 18) rfl ?_); refine goesL_ (some 46) rfl rfl Try.func18 (by kernel_rfl) rfl #[.agg #[.int .i64 a1_0, .int .i64 a1_1, .int .i64 a1_2, .int .i64 a1_3, .int .i64 a1_4], .int .u64 a0_2, .int .i64 a3] rfl (by (try simp only [List.map_toArray, List.map_cons, List.map_nil]); first | done | rfl | (simp only [List.length_drop, List.length_take]; rfl)) ?_; (with_reducible refine (medl_Next.calls kj5 a1_0 a1_1 a1_2 a1_3 a1_4 a0_2 a3 t382 t383 _ A39.out).mono ?_); rintro e w78 ⟨rfl, hb⟩; refine ⟨_, rfl, ?_⟩; have n0_ := Aside0.mk (blk_below (g := gb373) (o := .cells #[.bool a0_0, .bool a0_1, .int .u64 a0_2, .int .i64 a0_3] 55 (0, 0)) (by (with_reducible repeat (first | refine blk_drewN ?_ _ | refine blk_drew ?_ | refine blk_alloc ?_ _)); exact BK373.out) hb); have n1_ := Aside0.mk (blk_below (g := gb374) (o := .cells #[.int .i64 a1_0, .int .i64 a1_1, .int .i64 a1_2, .int .i64 a1_3, .int .i64 a1_4] 23 (0, 0)) (by (with_reducible repeat (first | refine blk_drewN ?_ _ | refine blk_drew ?_ | refine blk_alloc ?_ _)); exact BK374.out) hb); have n2_ := Aside0.mk (blk_below (g := gb379) (o := .cells #[.int .i64 t375, .int .i64 t376, .int .i64 t377] 69 (0, 0)) (by (with_reducible repeat (first | refine blk_drewN ?_ _ | refine blk_drew ?_ | refine blk_alloc ?_ _)); exact BK379.out) hb); have n3_ := Aside0.mk (below_step (by repeat (first | (with_reducible first | exact HB.out | apply below_alloc | apply pw_below_drewN | apply below_drew1 | refine below_set ?_ GE373.out | refine below_set ?_ GE374.out | refine below_set ?_ GE379.out) | exact HB.out)) hb); clear BK373; clear BK374; clear BK379; clear HB; have BK373 := n0_; have BK374 := n1_; have BK379 := n2_; have HB := n3_; clear n0_ n1_ n2_ n3_; (try clear hb); (try clear hb2); (try clear hk); (try clear hi); have hcz79_0 : w78.cell? ⟨gb373, 0, none⟩ = some (.bool a0_0) := (blk_cell BK373.out 0).trans rfl; have hcz79_1 : w78.cell? ⟨gb373, 1, none⟩ = some (.bool a0_1) := (blk_cell BK373.out 1).trans rfl; have hcz79_2 : w78.cell? ⟨gb373, 2, none⟩ = some (.int .u64 a0_2) := (blk_cell BK373.out 2).trans rfl; have hcz79_3 : w78.cell? ⟨gb373, 3, none⟩ = some (.int .i64 a0_3) := (blk_cell BK373.out 3).trans rfl; have hfz79_0 := blk_frozen BK373.out 0; have hfz79_1 := blk_frozen BK373.out 1; have hfz79_2 := blk_frozen BK373.out 2; have hfz79_3 := blk_frozen BK373.out 3; have hcz80_0 : w78.cell? ⟨gb379, 0, none⟩ = some (.int .i64 t375) := (blk_cell BK379.out 0).trans rfl; have hcz80_1 : w78.cell? ⟨gb379, 1, none⟩ = some (.int .i64 t376) := (blk_cell BK379.out 1).trans rfl; have hcz80_2 : w78.cell? ⟨gb379, 2, none⟩ = some (.int .i64 t377) := (blk_cell BK379.out 2).trans rfl; have hfz80_0 := blk_frozen BK379.out 0; have hfz80_1 := blk_frozen BK379.out 1; have hfz80_2 := blk_frozen BK379.out 2) | ((with_reducible refine gate_callee (f := 41) rfl ?_); refine goesL_ (some 66) rfl rfl Try.func41 (by kernel_rfl) rfl #[.int .i64 a0_3, .int .i64 (wrap64 ((wrap64 (t375 * (wrap64 (IntKind.u64.wrap (t382 - a0_2))))) + t376))] rfl (by (try simp only [List.map_toArray, List.map_cons, List.map_nil]); first | done | rfl | (simp only [List.length_drop, List.length_take]; rfl)) ?_; (with_reducible refine (pico_Add.calls kj5 a0_3 (wrap64 ((wrap64 (t375 * (wrap64 (IntKind.u64.wrap (t382 - a0_2))))) + t376)) t384 t385 _ A41.out).mono ?_); rintro e w81 ⟨rfl, hb⟩; refine ⟨_, rfl, ?_⟩; have n0_ := Aside0.mk (blk_below (g := gb373) (o := .cells #[.bool a0_0, .bool a0_1, .int .u64 a0_2, .int .i64 a0_3] 55 (0, 0)) (by (with_reducible repeat (first | refine blk_drewN ?_ _ | refine blk_drew ?_ | refine blk_alloc ?_ _)); exact BK373.out) hb); have n1_ := Aside0.mk (blk_below (g := gb374) (o := .cells #[.int .i64 a1_0, .int .i64 a1_1, .int .i64 a1_2, .int .i64 a1_3, .int .i64 a1_4] 23 (0, 0)) (by (with_reducible repeat (first | refine blk_drewN ?_ _ | refine blk_drew ?_ | refine blk_alloc ?_ _)); exact BK374.out) hb); have n2_ := Aside0.mk (blk_below (g := gb379) (o := .cells #[.int .i64 t375, .int .i64 t376, .int .i64 t377] 69 (0, 0)) (by (with_reducible repeat (first | refine blk_drewN ?_ _ | refine blk_drew ?_ | refine blk_alloc ?_ _)); exact BK379.out) hb); have n3_ := Aside0.mk (below_step (by repeat (first | (with_reducible first | exact HB.out | apply below_alloc | apply pw_below_drewN | apply below_drew1 | refine below_set ?_ GE373.out | refine below_set ?_ GE374.out | refine below_set ?_ GE379.out) | exact HB.out)) hb); clear BK373; clear BK374; clear BK379; clear HB; have BK373 := n0_; have BK374 := n1_; have BK379 := n2_; have HB := n3_; clear n0_ n1_ n2_ n3_; (try clear hb); (try clear hb2); (try clear hk); (try clear hi); have hcz82_0 : w81.cell? ⟨gb379, 0, none⟩ = some (.int .i64 t375) := (blk_cell BK379.out 0).trans rfl; have hcz82_1 : w81.cell? ⟨gb379, 1, none⟩ = some (.int .i64 t376) := (blk_cell BK379.out 1).trans rfl; have hcz82_2 : w81.cell? ⟨gb379, 2, none⟩ = some (.int .i64 t377) := (blk_cell BK379.out 2).trans rfl; have hfz82_0 := blk_frozen BK379.out 0; have hfz82_1 := blk_frozen BK379.out 1; have hfz82_2 := blk_frozen BK379.out 2) | ((with_reducible refine gate_callee (f := 42) rfl ?_); refine goesL_ (some 76) rfl rfl Try.func42 (by kernel_rfl) rfl #[.int .i64 t384, .int .i64 t377] rfl (by (try simp only [List.map_toArray, List.map_cons, List.map_nil]); first | done | rfl | (simp only [List.length_drop, List.length_take]; rfl)) ?_; (with_reducible refine (pico_Sub.calls kj5 t384 t377 t386 t387 _ A43.out).mono ?_); rintro e w83 ⟨rfl, hb⟩; refine ⟨_, rfl, ?_⟩; have n0_ := Aside0.mk (blk_below (g := gb373) (o := .cells #[.bool a0_0, .bool a0_1, .int .u64 a0_2, .int .i64 a0_3] 55 (0, 0)) (by (with_reducible repeat (first | refine blk_drewN ?_ _ | refine blk_drew ?_ | refine blk_alloc ?_ _)); exact BK373.out) hb); have n1_ := Aside0.mk (blk_below (g := gb374) (o := .cells #[.int .i64 a1_0, .int .i64 a1_1, .int .i64 a1_2, .int .i64 a1_3, .int .i64 a1_4] 23 (0, 0)) (by (with_reducible repeat (first | refine blk_drewN ?_ _ | refine blk_drew ?_ | refine blk_alloc ?_ _)); exact BK374.out) hb); have n2_ := Aside0.mk (blk_below (g := gb379) (o := .cells #[.int .i64 t375, .int .i64 t376, .int .i64 t377] 69 (0, 0)) (by (with_reducible repeat (first | refine blk_drewN ?_ _ | refine blk_drew ?_ | refine blk_alloc ?_ _)); exact BK379.out) hb); have n3_ := Aside0.mk (below_step (by repeat (first | (with_reducible first | exact HB.out | apply below_alloc | apply pw_below_drewN | apply below_drew1 | refine below_set ?_ GE373.out | refine below_set ?_ GE374.out | refine below_set ?_ GE379.out) | exact HB.out)) hb); clear BK373; clear BK374; clear BK379; clear HB; have BK373 := n0_; have BK374 := n1_; have BK379 := n2_; have HB := n3_; clear n0_ n1_ n2_ n3_; (try clear hb); (try clear hb2); (try clear hk); (try clear hi)))
       go_ret3
       exact ⟨by first | rfl | (simp [errW_none, errW_some] <;> rfl) | (simp [*, errW_none, errW_some] <;> rfl), by repeat (first | (with_reducible first | exact HB.out | apply below_alloc | apply pw_below_drewN | apply below_drew1 | refine below_set ?_ GE373.out | refine below_set ?_ GE374.out | refine below_set ?_ GE379.out) | exact HB.out)⟩
     ·rw [if_neg c42] at H
      have c42b0 : (t385 == 0) = false := beq_eq_false_iff_ne.mpr c42
      have c42b1 : (t385 != 0) = true := bne_iff_ne.mpr c42
      simp only [Option.some.injEq, Prod.mk.injEq] at H
      obtain ⟨rfl, rfl, rfl⟩ := H
      have hnb84 := NB374_373.out
      have hnc84 := NB373_374.out
      have hnb85 := NB374_379.out
      have hnc85 := NB379_374.out
      have hcz86_0 : wc.cell? ⟨gb374, 0, none⟩ = some (.int .i64 a1_0) := (blk_cell BK374.out 0).trans rfl
      have hcz86_1 : wc.cell? ⟨gb374, 1, none⟩ = some (.int .i64 a1_1) := (blk_cell BK374.out 1).trans rfl
      have hcz86_2 : wc.cell? ⟨gb374, 2, none⟩ = some (.int .i64 a1_2) := (blk_cell BK374.out 2).trans rfl
      have hcz86_3 : wc.cell? ⟨gb374, 3, none⟩ = some (.int .i64 a1_3) := (blk_cell BK374.out 3).trans rfl
      have hcz86_4 : wc.cell? ⟨gb374, 4, none⟩ = some (.int .i64 a1_4) := (blk_cell BK374.out 4).trans rfl
      have hfz86_0 := blk_frozen BK374.out 0
      have hfz86_1 := blk_frozen BK374.out 1
      have hfz86_2 := blk_frozen BK374.out 2
      have hfz86_3 := blk_frozen BK374.out 3
      have hfz86_4 := blk_frozen BK374.out 4
      have hnb87 := NB373_379.out
      have hnc87 := NB379_373.out
      have hcz88_0 : wc.cell? ⟨gb373, 0, none⟩ = some (.bool a0_0) := (blk_cell BK373.out 0).trans rfl
      have hcz88_1 : wc.cell? ⟨gb373, 1, none⟩ = some (.bool a0_1) := (blk_cell BK373.out 1).trans rfl
      have hcz88_2 : wc.cell? ⟨gb373, 2, none⟩ = some (.int .u64 a0_2) := (blk_cell BK373.out 2).trans rfl
      have hcz88_3 : wc.cell? ⟨gb373, 3, none⟩ = some (.int .i64 a0_3) := (blk_cell BK373.out 3).trans rfl
      have hfz88_0 := blk_frozen BK373.out 0
      have hfz88_1 := blk_frozen BK373.out 1
      have hfz88_2 := blk_frozen BK373.out 2
      have hfz88_3 := blk_frozen BK373.out 3
      go_wp2_with (first | ((with_reducible refine gate_callee (f := 18) rfl ?_); refine goesL_ (some 46) rfl rfl Try.func18 (by kernel_rfl) rfl #[.agg #[.int .i64 a1_0, .int .i64 a1_1, .int .i64 a1_2, .int .i64 a1_3, .int .i64 a1_4], .int .u64 a0_2, .int .i64 a3] rfl (by (try simp only [List.map_toArray, List.map_cons, List.map_nil]); first | done | rfl | (simp only [List.length_drop, List.length_take]; rfl)) ?_; (with_reducible refine (medl_Next.calls kj5 a1_0 a1_1 a1_2 a1_3 a1_4 a0_2 a3 t382 t383 _ A39.out).mono ?_); rintro e w89 ⟨rfl, hb⟩; refine ⟨_, rfl, ?_⟩; have n0_ := Aside0.mk (blk_below (g := gb373) (o := .cells #[.bool a0_0, .bool a0_1, .int .u64 a0_2, .int .i64 a0_3] 55 (0, 0)) (by (with_reducible repeat (first | refine blk_drewN ?_ _ | refine blk_drew ?_ | refine blk_alloc ?_ _)); exact BK373.out) hb); have n1_ := Aside0.mk (blk_below (g := gb374) (o := .cells #[.int .i64 a1_0, .int .i64 a1_1, .int .i64 a1_2, .int .i64 a1_3, .int .i64 a1_4] 23 (0, 0)) (by (with_reducible repeat (first | refine blk_drewN ?_ _ | refine blk_drew ?_ | refine blk_alloc ?_ _)); exact BK374.out) hb); have n2_ := Aside0.mk (blk_below (g := gb379) (o := .cells #[.int .i64 t375, .int .i64 t376, .int .i64 t377] 69 (0, 0)) (by (with_reducible repeat (first | refine blk_drewN ?_ _ | refine blk_drew ?_ | refine blk_alloc ?_ _)); exact BK379.out) hb); have n3_ := Aside0.mk (below_step (by repeat (first | (with_reducible first | exact HB.out | apply below_alloc | apply pw_below_drewN | apply below_drew1 | refine below_set ?_ GE373.out | refine below_set ?_ GE374.out | refine below_set ?_ GE379.out) | exact HB.out)) hb); clear BK373; clear BK374; clear BK379; clear HB; have BK373 := n0_; have BK374 := n1_; have BK379 := n2_; have HB := n3_; clear n0_ n1_ n2_ n3_; (try clear hb); (try clear hb2); (try clear hk); (try clear hi); have hcz90_0 : w89.cell? ⟨gb373, 0, none⟩ = some (.bool a0_0) := (blk_cell BK373.out 0).trans rfl; have hcz90_1 : w89.cell? ⟨gb373, 1, none⟩ = some (.bool a0_1) := (blk_cell BK373.out 1).trans rfl; have hcz90_2 : w89.cell? ⟨gb373, 2, none⟩ = some (.int .u64 a0_2) := (blk_cell BK373.out 2).trans rfl; have hcz90_3 : w89.cell? ⟨gb373, 3, none⟩ = some (.int .i64 a0_3) := (blk_cell BK373.out 3).trans rfl; have hfz90_0 := blk_frozen BK373.out 0; have hfz90_1 := blk_frozen BK373.out 1; have hfz90_2 := blk_frozen BK373.out 2; have hfz90_3 := blk_frozen BK373.out 3; have hcz91_0 : w89.cell? ⟨gb379, 0, none⟩ = some (.int .i64 t375) := (blk_cell BK379.out 0).trans rfl; have hcz91_1 : w89.cell? ⟨gb379, 1, none⟩ = some (.int .i64 t376) := (blk_cell BK379.out 1).trans rfl; have hcz91_2 : w89.cell? ⟨gb379, 2, none⟩ = some (.int .i64 t377) := (blk_cell BK379.out 2).trans rfl; have hfz91_0 := blk_frozen BK379.out 0; have hfz91_1 := blk_frozen BK379.out 1; have hfz91_2 := blk_frozen BK379.out 2) | ((with_reducible refine gate_callee (f := 41) rfl ?_); refine goesL_ (some 66) rfl rfl Try.func41 (by kernel_rfl) rfl #[.int .i64 a0_3, .int .i64 (wrap64 ((wrap64 (t375 * (wrap64 (IntKind.u64.wrap (t382 - a0_2))))) + t376))] rfl (by (try simp only [List.map_toArray, List.map_cons, List.map_nil]); first | done | rfl | (simp only [List.length_drop, List.length_take]; rfl)) ?_; (with_reducible refine (pico_Add.calls kj5 a0_3 (wrap64 ((wrap64 (t375 * (wrap64 (IntKind.u64.wrap (t382 - a0_2))))) + t376)) t384 t385 _ A41.out).mono ?_); rintro e w92 ⟨rfl, hb⟩; refine ⟨_, rfl, ?_⟩; have n0_ := Aside0.mk (blk_below (g := gb373) (o := .cells #[.bool a0_0, .bool a0_1, .int .u64 a0_2, .int .i64 a0_3] 55 (0, 0)) (by (with_reducible repeat (first | refine blk_drewN ?_ _ | refine blk_drew ?_ | refine blk_alloc ?_ _)); exact BK373.out) hb); have n1_ := Aside0.mk (blk_below (g := gb374) (o := .cells #[.int .i64 a1_0, .int .i64 a1_1, .int .i64 a1_2, .int .i64 a1_3, .int .i64 a1_4] 23 (0, 0)) (by (with_reducible repeat (first | refine blk_drewN ?_ _ | refine blk_drew ?_ | refine blk_alloc ?_ _)); exact BK374.out) hb); have n2_ := Aside0.mk (blk_below (g := gb379) (o := .cells #[.int .i64 t375, .int .i64 t376, .int .i64 t377] 69 (0, 0)) (by (with_reducible repeat (first | refine blk_drewN ?_ _ | refine blk_drew ?_ | refine blk_alloc ?_ _)); exact BK379.out) hb); have n3_ := Aside0.mk (below_step (by repeat (first | (with_reducible first | exact HB.out | apply below_alloc | apply pw_below_drewN | apply below_drew1 | refine below_set ?_ GE373.out | refine below_set ?_ GE374.out | refine below_set ?_ GE379.out) | exact HB.out)) hb); clear BK373; clear BK374; clear BK379; clear HB; have BK373 := n0_; have BK374 := n1_; have BK379 := n2_; have HB := n3_; clear n0_ n1_ n2_ n3_; (try clear hb); (try clear hb2); (try clear hk); (try clear hi)))
      go_ret3
      exact ⟨by first | rfl | (simp [errW_none, errW_some] <;> rfl) | (simp [*, errW_none, errW_some] <;> rfl), by repeat (first | (with_reducible first | exact HB.out | apply below_alloc | apply pw_below_drewN | apply below_drew1 | refine below_set ?_ GE373.out | refine below_set ?_ GE374.out | refine below_set ?_ GE379.out) | exact HB.out)⟩
    ·rw [if_neg c40] at H
     have c40b0 : (t383 == 0) = false := beq_eq_false_iff_ne.mpr c40
     have c40b1 : (t383 != 0) = true := bne_iff_ne.mpr c40
     simp only [Option.some.injEq, Prod.mk.injEq] at H
     obtain ⟨rfl, rfl, rfl⟩ := H
     have hnb93 := NB374_373.out
     have hnc93 := NB373_374.out
     have hnb94 := NB374_379.out
     have hnc94 := NB379_374.out
     have hcz95_0 : wc.cell? ⟨gb374, 0, none⟩ = some (.int .i64 a1_0) := (blk_cell BK374.out 0).trans rfl
     have hcz95_1 : wc.cell? ⟨gb374, 1, none⟩ = some (.int .i64 a1_1) := (blk_cell BK374.out 1).trans rfl
     have hcz95_2 : wc.cell? ⟨gb374, 2, none⟩ = some (.int .i64 a1_2) := (blk_cell BK374.out 2).trans rfl
     have hcz95_3 : wc.cell? ⟨gb374, 3, none⟩ = some (.int .i64 a1_3) := (blk_cell BK374.out 3).trans rfl
     have hcz95_4 : wc.cell? ⟨gb374, 4, none⟩ = some (.int .i64 a1_4) := (blk_cell BK374.out 4).trans rfl
     have hfz95_0 := blk_frozen BK374.out 0
     have hfz95_1 := blk_frozen BK374.out 1
     have hfz95_2 := blk_frozen BK374.out 2
     have hfz95_3 := blk_frozen BK374.out 3
     have hfz95_4 := blk_frozen BK374.out 4
     have hnb96 := NB373_379.out
     have hnc96 := NB379_373.out
     have hcz97_0 : wc.cell? ⟨gb373, 0, none⟩ = some (.bool a0_0) := (blk_cell BK373.out 0).trans rfl
     have hcz97_1 : wc.cell? ⟨gb373, 1, none⟩ = some (.bool a0_1) := (blk_cell BK373.out 1).trans rfl
     have hcz97_2 : wc.cell? ⟨gb373, 2, none⟩ = some (.int .u64 a0_2) := (blk_cell BK373.out 2).trans rfl
     have hcz97_3 : wc.cell? ⟨gb373, 3, none⟩ = some (.int .i64 a0_3) := (blk_cell BK373.out 3).trans rfl
     have hfz97_0 := blk_frozen BK373.out 0
     have hfz97_1 := blk_frozen BK373.out 1
     have hfz97_2 := blk_frozen BK373.out 2
     have hfz97_3 := blk_frozen BK373.out 3
     go_wp2_with (first | ((with_reducible refine gate_callee (f := 18) rfl ?_); refine goesL_ (some 46) rfl rfl Try.func18 (by kernel_rfl) rfl #[.agg #[.int .i64 a1_0, .int .i64 a1_1, .int .i64 a1_2, .int .i64 a1_3, .int .i64 a1_4], .int .u64 a0_2, .int .i64 a3] rfl (by (try simp only [List.map_toArray, List.map_cons, List.map_nil]); first | done | rfl | (simp only [List.length_drop, List.length_take]; rfl)) ?_; (with_reducible refine (medl_Next.calls kj5 a1_0 a1_1 a1_2 a1_3 a1_4 a0_2 a3 t382 t383 _ A39.out).mono ?_); rintro e w98 ⟨rfl, hb⟩; refine ⟨_, rfl, ?_⟩; have n0_ := Aside0.mk (blk_below (g := gb373) (o := .cells #[.bool a0_0, .bool a0_1, .int .u64 a0_2, .int .i64 a0_3] 55 (0, 0)) (by (with_reducible repeat (first | refine blk_drewN ?_ _ | refine blk_drew ?_ | refine blk_alloc ?_ _)); exact BK373.out) hb); have n1_ := Aside0.mk (blk_below (g := gb374) (o := .cells #[.int .i64 a1_0, .int .i64 a1_1, .int .i64 a1_2, .int .i64 a1_3, .int .i64 a1_4] 23 (0, 0)) (by (with_reducible repeat (first | refine blk_drewN ?_ _ | refine blk_drew ?_ | refine blk_alloc ?_ _)); exact BK374.out) hb); have n2_ := Aside0.mk (blk_below (g := gb379) (o := .cells #[.int .i64 t375, .int .i64 t376, .int .i64 t377] 69 (0, 0)) (by (with_reducible repeat (first | refine blk_drewN ?_ _ | refine blk_drew ?_ | refine blk_alloc ?_ _)); exact BK379.out) hb); have n3_ := Aside0.mk (below_step (by repeat (first | (with_reducible first | exact HB.out | apply below_alloc | apply pw_below_drewN | apply below_drew1 | refine below_set ?_ GE373.out | refine below_set ?_ GE374.out | refine below_set ?_ GE379.out) | exact HB.out)) hb); clear BK373; clear BK374; clear BK379; clear HB; have BK373 := n0_; have BK374 := n1_; have BK379 := n2_; have HB := n3_; clear n0_ n1_ n2_ n3_; (try clear hb); (try clear hb2); (try clear hk); (try clear hi)))
     go_ret3
     exact ⟨by first | rfl | (simp [errW_none, errW_some] <;> rfl) | (simp [*, errW_none, errW_some] <;> rfl), by repeat (first | (with_reducible first | exact HB.out | apply below_alloc | apply pw_below_drewN | apply below_drew1 | refine below_set ?_ GE373.out | refine below_set ?_ GE374.out | refine below_set ?_ GE379.out) | exact HB.out)⟩

end Go.Proofs.Ytpfkiljakiiieaa.Print
