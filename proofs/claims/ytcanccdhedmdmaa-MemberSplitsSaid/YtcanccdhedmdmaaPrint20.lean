-- PRINTED by print.py (a twelfth state) out of the translation. Not trusted: Lean checks it.
import Derived.Test.YtcanccdhedmdmaaPrint0
import Derived.Test.YtcanccdhedmdmaaPrint4
import Derived.Test.YtcanccdhedmdmaaPrint7
import Derived.Test.YtcanccdhedmdmaaPrint9
namespace Go.Proofs.Ytcanccdhedmdmaa.Print
open Go.RowKit Go.Proofs.YtcanccdhedmdmaaW.PrintWords Go.Proofs.YtcanccdhedmdmaaW.PrintLast Go.Proofs.YtcanccdhedmdmaaW.PrintMore Go.Proofs.YtcanccdhedmdmaaX
attribute [local go_sem] max2_int min2_int max_two min_two max_three min_three max_four min_four   -- for this text's walks alone
set_option linter.unusedVariables false
set_option linter.unusedSimpArgs false

/-! ### member_Round: function 23 -/
mutual
def member_Round.j0 : Nat → Int → Int → Int → List Int → Bool → Int → Int → Int → Int → Int → Option (Int × Int × Int × Int)
 | 0, _, _, _, _, _, _, _, _, _, _ => none
 | k + 1, x1, x2, x3, x4, x33, x245000, x245001, x245002, x245003, x245004 => if x33 = true then (some (0, 0, 0, 1)) else (member_Round.l0 k x1 x2 x3 x4 (x4.length : Int) 0 x245000 x245001 x245002 x245003 x245004 0 0)
def member_Round.l0 : Nat → Int → Int → Int → List Int → Int → Int → Int → Int → Int → Int → Int → Int → Int → Option (Int × Int × Int × Int)
 | 0, _, _, _, _, _, _, _, _, _, _, _, _, _ => none
 | k + 1, x1, x2, x3, x35, x36, x37, x245000, x245001, x245002, x245003, x245004, x251000, x251001 => if x37 < x36 then (if 0 ≤ x37 then (if x37 < (x35.length : Int) then ((member_After.f x245000 x245001 x245002 x245003 x245004 x1 x2 (IntKind.u64.wrap (x3 + (IntKind.u64.wrap (x37)))) (rd x35 x37)).bind fun bt252 => (if bt252.2 = 0 then ((member_Count.f k x251000 x251001 (rd x35 x37)).bind fun bt254 => (if bt254.2.2 = 0 then (member_Round.l0 k x1 bt252.1 x3 x35 x36 (wrap64 (x37 + 1)) x245000 x245001 x245002 x245003 x245004 bt254.1 bt254.2.1) else (some (0, 0, 0, bt254.2.2)))) else (some (0, 0, 0, bt252.2)))) else (none)) else (none)) else (some (x2, x251000, x251001, 0))
end
def member_Round.f (k : Nat) (a0_0 : Int) (a0_1 : Int) (a0_2 : Int) (a0_3 : Int) (a0_4 : Int) (a1 : Int) (a2 : Int) (a3 : Int) (l4 : List Int) : Option (Int × Int × Int × Int) := (member_sit.f a0_0 a0_1 a0_2 a0_3 a0_4 a1 a3).bind fun bt246 => (if bt246.2.2 = 0 then (member_Round.j0 k a1 a2 a3 l4 (decide ((l4.length : Int) > a0_0)) a0_0 a0_1 a0_2 a0_3 a0_4) else (member_Round.j0 k a1 a2 a3 l4 true a0_0 a0_1 a0_2 a0_3 a0_4))
theorem member_Round.mono_l : ∀ k, (∀ y0 y1 y2 y3 y4 y5 y6 y7 y8 y9, LeO (member_Round.j0 k y0 y1 y2 y3 y4 y5 y6 y7 y8 y9) (member_Round.j0 (k + 1) y0 y1 y2 y3 y4 y5 y6 y7 y8 y9)) ∧ (∀ y0 y1 y2 y3 y4 y5 y6 y7 y8 y9 y10 y11 y12, LeO (member_Round.l0 k y0 y1 y2 y3 y4 y5 y6 y7 y8 y9 y10 y11 y12) (member_Round.l0 (k + 1) y0 y1 y2 y3 y4 y5 y6 y7 y8 y9 y10 y11 y12))
 | 0 => ⟨fun _ _ _ _ _ _ _ _ _ _ r h => by simp [member_Round.j0] at h, fun _ _ _ _ _ _ _ _ _ _ _ _ _ r h => by simp [member_Round.l0] at h⟩
 | k + 1 => by
  obtain ⟨ih0, ih1⟩ := member_Round.mono_l k
  refine ⟨?_, ?_⟩
  ·intro y0 y1 y2 y3 y4 y5 y6 y7 y8 y9
   unfold member_Round.j0
   repeat' first
   | (with_reducible exact ih0 _ _ _ _ _ _ _ _ _ _)
   | (with_reducible exact ih1 _ _ _ _ _ _ _ _ _ _ _ _ _)
   | (with_reducible exact member_Count.mono _ _ _ _)
   | (with_reducible exact LeO.refl _)
   | (with_reducible exact LeO.none _)
   | (with_reducible refine LeO.ite ?_ ?_)
   | (with_reducible refine LeO.bind ?_ (fun _ => ?_))
   | exact ih0 _ _ _ _ _ _ _ _ _ _
   | exact ih1 _ _ _ _ _ _ _ _ _ _ _ _ _
   | exact member_Count.mono _ _ _ _
   | exact LeO.none _
   | refine LeO.ite ?_ ?_
   | refine LeO.bind ?_ (fun _ => ?_)
  ·intro y0 y1 y2 y3 y4 y5 y6 y7 y8 y9 y10 y11 y12
   unfold member_Round.l0
   repeat' first
   | (with_reducible exact ih0 _ _ _ _ _ _ _ _ _ _)
   | (with_reducible exact ih1 _ _ _ _ _ _ _ _ _ _ _ _ _)
   | (with_reducible exact member_Count.mono _ _ _ _)
   | (with_reducible exact LeO.refl _)
   | (with_reducible exact LeO.none _)
   | (with_reducible refine LeO.ite ?_ ?_)
   | (with_reducible refine LeO.bind ?_ (fun _ => ?_))
   | exact ih0 _ _ _ _ _ _ _ _ _ _
   | exact ih1 _ _ _ _ _ _ _ _ _ _ _ _ _
   | exact member_Count.mono _ _ _ _
   | exact LeO.none _
   | refine LeO.ite ?_ ?_
   | refine LeO.bind ?_ (fun _ => ?_)
theorem member_Round.mono : ∀ a0 a1 a2 a3 a4 a5 a6 a7 a8 k, LeO (member_Round.f k a0 a1 a2 a3 a4 a5 a6 a7 a8) (member_Round.f (k + 1) a0 a1 a2 a3 a4 a5 a6 a7 a8) := by
 intro a0 a1 a2 a3 a4 a5 a6 a7 a8 k
 obtain ⟨ih0, ih1⟩ := member_Round.mono_l k
 unfold member_Round.f
 repeat' first
   | (with_reducible exact ih0 _ _ _ _ _ _ _ _ _ _)
   | (with_reducible exact ih1 _ _ _ _ _ _ _ _ _ _ _ _ _)
   | (with_reducible exact member_Count.mono _ _ _ _)
   | (with_reducible exact LeO.refl _)
   | (with_reducible exact LeO.none _)
   | (with_reducible refine LeO.ite ?_ ?_)
   | (with_reducible refine LeO.bind ?_ (fun _ => ?_))
   | exact ih0 _ _ _ _ _ _ _ _ _ _
   | exact ih1 _ _ _ _ _ _ _ _ _ _ _ _ _
   | exact member_Count.mono _ _ _ _
   | exact LeO.none _
   | refine LeO.ite ?_ ?_
   | refine LeO.bind ?_ (fun _ => ?_)
set_option maxHeartbeats 8000000 in
set_option maxRecDepth 100000 in
theorem member_Round.calls (k : Nat) (a0_0 : Int) (a0_1 : Int) (a0_2 : Int) (a0_3 : Int) (a0_4 : Int) (a1 : Int) (a2 : Int) (a3 : Int) (A4 : Option Addr) (c4 : Nat) (l4 : List Int) (r1 : Int) (r2 : Int) (r3 : Int) (r4 : Int) (w : World) (hr4 : Kd.C (Kd.int .i64) w A4 l4.length l4) (hc4 : l4.length ≤ c4) (h : member_Round.f k a0_0 a0_1 a0_2 a0_3 a0_4 a1 a2 a3 l4 = some (r1, r2, r3, r4)) :
  Calls Try.prog 23 #[.agg #[.int .i64 a0_0, .int .i64 a0_1, .int .i64 a0_2, .int .i64 a0_3, .int .i64 a0_4], .int .i64 a1, .int .u16 a2, .int .u64 a3, .slice A4 l4.length c4] w fun e w' => e = .returned (.tuple #[.int .u16 r1, .agg #[.int .i64 r2, .int .i64 r3], .int .i64 r4]) ∧ Below w.heap.size w w' := by
 have hu32 := Try.underlying32
 have hu25 := Try.underlying25
 have hu57 := Try.underlying57
 have HR4 := Aside0.mk hr4
 have HC4 := Aside0.mk hc4
 clear hr4 hc4
 have HB := Aside0.mk (Below.refl w.heap.size w)
 have H : ((member_sit.f a0_0 a0_1 a0_2 a0_3 a0_4 a1 a3).bind fun bt246 => (if bt246.2.2 = 0 then (member_Round.j0 k a1 a2 a3 l4 (decide ((l4.length : Int) > a0_0)) a0_0 a0_1 a0_2 a0_3 a0_4) else (member_Round.j0 k a1 a2 a3 l4 true a0_0 a0_1 a0_2 a0_3 a0_4))) = some (r1, r2, r3, r4) := h
 clear h
 replace H := Option.bind_eq_some_iff.mp H
 obtain ⟨⟨t246, t247, t248⟩, A60, H⟩ := H
 replace H : (if t248 = 0 then (member_Round.j0 k a1 a2 a3 l4 (decide ((l4.length : Int) > a0_0)) a0_0 a0_1 a0_2 a0_3 a0_4) else (member_Round.j0 k a1 a2 a3 l4 true a0_0 a0_1 a0_2 a0_3 a0_4)) = some (r1, r2, r3, r4) := H
 have A6 := Aside0.mk A60
 clear A60
 have HC7 := Aside0.mk H
 clear H
 go_enter Try.func23, Try.ntmps23
 go_upto_region 2 with (first | ((with_reducible refine gate_dst (N := 5) rfl ?_); (try (refine gate_guard (by rfl) ?_; dsimp only)); refine box_event ?hg (N := 5) ?hd (cs := #[.int .i64 a0_0, .int .i64 a0_1, .int .i64 a0_2, .int .i64 a0_3, .int .i64 a0_4]) (t := 32) ?hr ?_; (case hd => rfl); (case hg => rfl); (case hr => first | (go_simp; done) | (go_simp; rfl)); intro gb244 hg w8 hbox hb; have n0_ := Aside0.mk (below_step (by repeat (first | (with_reducible first | exact HB.out | apply below_alloc | apply pw_below_drewN | apply below_drew1) | exact HB.out)) hb); have n1_ := Aside0.mk (hbox); have n2_ := Aside0.mk ((by rw [hg]; exact (below_size (by repeat (first | (with_reducible first | exact HB.out | apply below_alloc | apply pw_below_drewN | apply below_drew1) | exact HB.out))) : w.heap.size ≤ gb244)); have n3_ := Aside0.mk ((by rw [hg]; exact (below_size (by repeat (first | (with_reducible first | exact HB.out | apply below_alloc | apply pw_below_drewN | apply below_drew1) | exact HB.out))) : w.heap.size ≤ gb244)); clear HB; have HB := n0_; have BK244 := n1_; have GW244 := n2_; have GE244 := n3_; clear n0_ n1_ n2_ n3_; clear hb hbox hg) | ((with_reducible refine gate_dst (N := 11) rfl ?_); (try (refine gate_guard (by rfl) ?_; dsimp only)); refine box_event ?hg (N := 11) ?hd (cs := #[.int .i64 0, .int .i64 0]) (t := 25) ?hr ?_; (case hd => rfl); (case hg => rfl); (case hr => first | (go_simp; done) | (go_simp; rfl)); intro gb245 hg w9 hbox hb; have n0_ := Aside0.mk (blk_below (g := gb244) (o := .cells #[.int .i64 a0_0, .int .i64 a0_1, .int .i64 a0_2, .int .i64 a0_3, .int .i64 a0_4] 32 (0, 0)) (by (with_reducible repeat (first | refine blk_drewN ?_ _ | refine blk_drew ?_ | refine blk_alloc ?_ _)); exact BK244.out) hb); have n1_ := Aside0.mk (below_step (by repeat (first | (with_reducible first | exact HB.out | apply below_alloc | apply pw_below_drewN | apply below_drew1 | refine below_set ?_ GE244.out) | exact HB.out)) hb); have n2_ := Aside0.mk (hbox); have n3_ := Aside0.mk ((by rw [hg]; exact (below_size (by repeat (first | (with_reducible first | exact HB.out | apply below_alloc | apply pw_below_drewN | apply below_drew1 | refine below_set ?_ GE244.out) | exact HB.out))) : w.heap.size ≤ gb245)); have n4_ := Aside0.mk ((by rw [hg]; exact (below_size (by repeat (first | (with_reducible first | exact HB.out | apply below_alloc | apply pw_below_drewN | apply below_drew1 | refine below_set ?_ GE244.out) | exact HB.out))) : w.heap.size ≤ gb245)); have n5_ := Aside0.mk ((by rw [hg]; exact Nat.ne_of_lt (blk_lt (g := gb244) (o := .cells #[.int .i64 a0_0, .int .i64 a0_1, .int .i64 a0_2, .int .i64 a0_3, .int .i64 a0_4] 32 (0, 0)) (by (with_reducible repeat (first | refine blk_drewN ?_ _ | refine blk_drew ?_ | refine blk_alloc ?_ _)); exact BK244.out)) : gb244 ≠ gb245)); have n6_ := Aside0.mk ((by rw [hg]; exact Nat.ne_of_gt (blk_lt (g := gb244) (o := .cells #[.int .i64 a0_0, .int .i64 a0_1, .int .i64 a0_2, .int .i64 a0_3, .int .i64 a0_4] 32 (0, 0)) (by (with_reducible repeat (first | refine blk_drewN ?_ _ | refine blk_drew ?_ | refine blk_alloc ?_ _)); exact BK244.out)) : gb245 ≠ gb244)); clear BK244; clear HB; have BK244 := n0_; have HB := n1_; have BK245 := n2_; have GW245 := n3_; have GE245 := n4_; have NB244_245 := n5_; have NB245_244 := n6_; clear n0_ n1_ n2_ n3_ n4_ n5_ n6_; clear hb hbox hg; have hnb10 := NB244_245.out; have hnc10 := NB245_244.out; have hcz11_0 : w9.cell? ⟨gb244, 0, none⟩ = some (.int .i64 a0_0) := (blk_cell BK244.out 0).trans rfl; have hcz11_1 : w9.cell? ⟨gb244, 1, none⟩ = some (.int .i64 a0_1) := (blk_cell BK244.out 1).trans rfl; have hcz11_2 : w9.cell? ⟨gb244, 2, none⟩ = some (.int .i64 a0_2) := (blk_cell BK244.out 2).trans rfl; have hcz11_3 : w9.cell? ⟨gb244, 3, none⟩ = some (.int .i64 a0_3) := (blk_cell BK244.out 3).trans rfl; have hcz11_4 : w9.cell? ⟨gb244, 4, none⟩ = some (.int .i64 a0_4) := (blk_cell BK244.out 4).trans rfl; have hfz11_0 := blk_frozen BK244.out 0; have hfz11_1 := blk_frozen BK244.out 1; have hfz11_2 := blk_frozen BK244.out 2; have hfz11_3 := blk_frozen BK244.out 3; have hfz11_4 := blk_frozen BK244.out 4) | ((with_reducible refine gate_callee (f := 28) rfl ?_); refine goesL_ (some 22) rfl rfl Try.func28 (by kernel_rfl) rfl #[.agg #[.int .i64 a0_0, .int .i64 a0_1, .int .i64 a0_2, .int .i64 a0_3, .int .i64 a0_4], .int .i64 a1, .int .u64 a3] rfl (by (try simp only [List.map_toArray, List.map_cons, List.map_nil]); first | done | rfl | (simp only [List.length_drop, List.length_take]; rfl)) ?_; (with_reducible refine (member_sit.calls a0_0 a0_1 a0_2 a0_3 a0_4 a1 a3 t246 t247 t248 _ A6.out).mono ?_); rintro e w12 ⟨rfl, hb⟩; refine ⟨_, rfl, ?_⟩; have n0_ := Aside0.mk (blk_below (g := gb244) (o := .cells #[.int .i64 a0_0, .int .i64 a0_1, .int .i64 a0_2, .int .i64 a0_3, .int .i64 a0_4] 32 (0, 0)) (by (with_reducible repeat (first | refine blk_drewN ?_ _ | refine blk_drew ?_ | refine blk_alloc ?_ _)); exact BK244.out) hb); have n1_ := Aside0.mk (blk_below (g := gb245) (o := .cells #[.int .i64 0, .int .i64 0] 25 (0, 0)) (by (with_reducible repeat (first | refine blk_drewN ?_ _ | refine blk_drew ?_ | refine blk_alloc ?_ _)); exact BK245.out) hb); have n2_ := Aside0.mk (below_step (by repeat (first | (with_reducible first | exact HB.out | apply below_alloc | apply pw_below_drewN | apply below_drew1 | refine below_set ?_ GE244.out | refine below_set ?_ GE245.out) | exact HB.out)) hb); clear BK244; clear BK245; clear HB; have BK244 := n0_; have BK245 := n1_; have HB := n2_; clear n0_ n1_ n2_; (try clear hb); (try clear hb2); (try clear hk); (try clear hi)) | ((with_reducible refine gate_dst (N := 13) rfl ?_); (try (refine gate_guard (by rfl) ?_; dsimp only)); refine box_event ?hg (N := 13) ?hd (cs := #[.int .i64 0, .int .i64 0]) (t := 57) ?hr ?_; (case hd => rfl); (case hg => rfl); (case hr => first | (go_simp; done) | (go_simp; rfl)); intro gb249 hg w13 hbox hb; have n0_ := Aside0.mk (blk_below (g := gb244) (o := .cells #[.int .i64 a0_0, .int .i64 a0_1, .int .i64 a0_2, .int .i64 a0_3, .int .i64 a0_4] 32 (0, 0)) (by (with_reducible repeat (first | refine blk_drewN ?_ _ | refine blk_drew ?_ | refine blk_alloc ?_ _)); exact BK244.out) hb); have n1_ := Aside0.mk (blk_below (g := gb245) (o := .cells #[.int .i64 0, .int .i64 0] 25 (0, 0)) (by (with_reducible repeat (first | refine blk_drewN ?_ _ | refine blk_drew ?_ | refine blk_alloc ?_ _)); exact BK245.out) hb); have n2_ := Aside0.mk (below_step (by repeat (first | (with_reducible first | exact HB.out | apply below_alloc | apply pw_below_drewN | apply below_drew1 | refine below_set ?_ GE244.out | refine below_set ?_ GE245.out) | exact HB.out)) hb); have n3_ := Aside0.mk (hbox); have n4_ := Aside0.mk ((by rw [hg]; exact (below_size (by repeat (first | (with_reducible first | exact HB.out | apply below_alloc | apply pw_below_drewN | apply below_drew1 | refine below_set ?_ GE244.out | refine below_set ?_ GE245.out) | exact HB.out))) : w.heap.size ≤ gb249)); have n5_ := Aside0.mk ((by rw [hg]; exact (below_size (by repeat (first | (with_reducible first | exact HB.out | apply below_alloc | apply pw_below_drewN | apply below_drew1 | refine below_set ?_ GE244.out | refine below_set ?_ GE245.out) | exact HB.out))) : w.heap.size ≤ gb249)); have n6_ := Aside0.mk ((by rw [hg]; exact Nat.ne_of_lt (blk_lt (g := gb244) (o := .cells #[.int .i64 a0_0, .int .i64 a0_1, .int .i64 a0_2, .int .i64 a0_3, .int .i64 a0_4] 32 (0, 0)) (by (with_reducible repeat (first | refine blk_drewN ?_ _ | refine blk_drew ?_ | refine blk_alloc ?_ _)); exact BK244.out)) : gb244 ≠ gb249)); have n7_ := Aside0.mk ((by rw [hg]; exact Nat.ne_of_gt (blk_lt (g := gb244) (o := .cells #[.int .i64 a0_0, .int .i64 a0_1, .int .i64 a0_2, .int .i64 a0_3, .int .i64 a0_4] 32 (0, 0)) (by (with_reducible repeat (first | refine blk_drewN ?_ _ | refine blk_drew ?_ | refine blk_alloc ?_ _)); exact BK244.out)) : gb249 ≠ gb244)); have n8_ := Aside0.mk ((by rw [hg]; exact Nat.ne_of_lt (blk_lt (g := gb245) (o := .cells #[.int .i64 0, .int .i64 0] 25 (0, 0)) (by (with_reducible repeat (first | refine blk_drewN ?_ _ | refine blk_drew ?_ | refine blk_alloc ?_ _)); exact BK245.out)) : gb245 ≠ gb249)); have n9_ := Aside0.mk ((by rw [hg]; exact Nat.ne_of_gt (blk_lt (g := gb245) (o := .cells #[.int .i64 0, .int .i64 0] 25 (0, 0)) (by (with_reducible repeat (first | refine blk_drewN ?_ _ | refine blk_drew ?_ | refine blk_alloc ?_ _)); exact BK245.out)) : gb249 ≠ gb245)); clear BK244; clear BK245; clear HB; have BK244 := n0_; have BK245 := n1_; have HB := n2_; have BK249 := n3_; have GW249 := n4_; have GE249 := n5_; have NB244_249 := n6_; have NB249_244 := n7_; have NB245_249 := n8_; have NB249_245 := n9_; clear n0_ n1_ n2_ n3_ n4_ n5_ n6_ n7_ n8_ n9_; clear hb hbox hg; have hnb14 := NB249_244.out; have hnc14 := NB244_249.out; have hnb15 := NB249_245.out; have hnc15 := NB245_249.out; have hcz16_0 : w13.cell? ⟨gb249, 0, none⟩ = some (.int .i64 0) := (blk_cell BK249.out 0).trans rfl; have hcz16_1 : w13.cell? ⟨gb249, 1, none⟩ = some (.int .i64 0) := (blk_cell BK249.out 1).trans rfl; have hfz16_0 := blk_frozen BK249.out 0; have hfz16_1 := blk_frozen BK249.out 1))
 (try simp only [Act.put, List.setIfInBounds_toArray, List.set_cons_zero, List.set_cons_succ])
 go_cut [33] (fun v33 wc => ∃ (kq : Nat) (x33_6 : Bool), v33 = .bool x33_6 ∧ Aside0 (member_Round.j0 kq a1 a2 a3 l4 x33_6 a0_0 a0_1 a0_2 a0_3 a0_4 = some (r1, r2, r3, r4)) ∧ Aside0 (kq ≤ k) ∧ Aside0 (wc.heap[gb244]? = some (.cells #[.int .i64 a0_0, .int .i64 a0_1, .int .i64 a0_2, .int .i64 a0_3, .int .i64 a0_4] 32 (0, 0))) ∧ Aside0 (wc.heap[gb245]? = some (.cells #[.int .i64 0, .int .i64 0] 25 (0, 0))) ∧ Aside0 (wc.heap[gb249]? = some (.cells #[.int .i64 t246, .int .i64 t247] 57 (0, 0))) ∧ Aside0 (Below w.heap.size w wc))
 case first =>
  have H := HC7.out
  clear HC7
  by_cases c17 : t248 = 0
  ·rw [if_pos c17] at H
   have c17b0 : (t248 == 0) = true := beq_iff_eq.mpr c17
   have c17b1 : (t248 != 0) = false := bne_eq_false_iff_eq.mpr c17
   clear c17
   (first | rw [c17b0] | (simp only [i64_w, i32_w]; rw [c17b0]) | skip)
   have H' := Aside0.mk H
   clear H
   have hnb18 := NB244_245.out
   have hnc18 := NB245_244.out
   have hnb19 := NB244_249.out
   have hnc19 := NB249_244.out
   have hcz20_0 : w13.cell? ⟨gb244, 0, none⟩ = some (.int .i64 a0_0) := (blk_cell BK244.out 0).trans rfl
   have hcz20_1 : w13.cell? ⟨gb244, 1, none⟩ = some (.int .i64 a0_1) := (blk_cell BK244.out 1).trans rfl
   have hcz20_2 : w13.cell? ⟨gb244, 2, none⟩ = some (.int .i64 a0_2) := (blk_cell BK244.out 2).trans rfl
   have hcz20_3 : w13.cell? ⟨gb244, 3, none⟩ = some (.int .i64 a0_3) := (blk_cell BK244.out 3).trans rfl
   have hcz20_4 : w13.cell? ⟨gb244, 4, none⟩ = some (.int .i64 a0_4) := (blk_cell BK244.out 4).trans rfl
   have hfz20_0 := blk_frozen BK244.out 0
   have hfz20_1 := blk_frozen BK244.out 1
   have hfz20_2 := blk_frozen BK244.out 2
   have hfz20_3 := blk_frozen BK244.out 3
   have hfz20_4 := blk_frozen BK244.out 4
   go_wp2
   go_meet
   case rel => exact ⟨_, (decide ((l4.length : Int) > a0_0)), (by first | rfl | (simp; done) | (simp [*]; done)), H', ⟨by first | omega | exact Nat.le_refl _⟩, ⟨by (with_reducible repeat (first | refine blk_drewN ?_ _ | refine blk_drew ?_ | refine blk_alloc ?_ _)); refine blk_far ?_ NB244_249.out _; (with_reducible repeat (first | refine blk_drewN ?_ _ | refine blk_drew ?_ | refine blk_alloc ?_ _)); refine blk_far ?_ NB244_249.out _; (with_reducible repeat (first | refine blk_drewN ?_ _ | refine blk_drew ?_ | refine blk_alloc ?_ _)); exact BK244.out⟩, ⟨by (with_reducible repeat (first | refine blk_drewN ?_ _ | refine blk_drew ?_ | refine blk_alloc ?_ _)); refine blk_far ?_ NB245_249.out _; (with_reducible repeat (first | refine blk_drewN ?_ _ | refine blk_drew ?_ | refine blk_alloc ?_ _)); refine blk_far ?_ NB245_249.out _; (with_reducible repeat (first | refine blk_drewN ?_ _ | refine blk_drew ?_ | refine blk_alloc ?_ _)); exact BK245.out⟩, ⟨by (with_reducible repeat (first | refine blk_drewN ?_ _ | refine blk_drew ?_ | refine blk_alloc ?_ _)); refine blk_put (cs := #[.int .i64 t246, .int .i64 0]) ?_ 1 _ rfl; (with_reducible repeat (first | refine blk_drewN ?_ _ | refine blk_drew ?_ | refine blk_alloc ?_ _)); refine blk_put (cs := #[.int .i64 0, .int .i64 0]) ?_ 0 _ rfl; (with_reducible repeat (first | refine blk_drewN ?_ _ | refine blk_drew ?_ | refine blk_alloc ?_ _)); exact BK249.out⟩, ⟨by repeat (first | (with_reducible first | exact HB.out | apply below_alloc | apply pw_below_drewN | apply below_drew1 | refine below_set ?_ GE244.out | refine below_set ?_ GE245.out | refine below_set ?_ GE249.out) | exact HB.out)⟩⟩
  ·rw [if_neg c17] at H
   have c17b0 : (t248 == 0) = false := beq_eq_false_iff_ne.mpr c17
   have c17b1 : (t248 != 0) = true := bne_iff_ne.mpr c17
   (first | rw [c17b0] | (simp only [i64_w, i32_w]; rw [c17b0]) | skip)
   have H' := Aside0.mk H
   clear H
   go_wp2
   go_meet
   case rel => exact ⟨_, (true), (by first | rfl | (simp; done) | (simp [*]; done)), H', ⟨by first | omega | exact Nat.le_refl _⟩, ⟨by (with_reducible repeat (first | refine blk_drewN ?_ _ | refine blk_drew ?_ | refine blk_alloc ?_ _)); refine blk_far ?_ NB244_249.out _; (with_reducible repeat (first | refine blk_drewN ?_ _ | refine blk_drew ?_ | refine blk_alloc ?_ _)); refine blk_far ?_ NB244_249.out _; (with_reducible repeat (first | refine blk_drewN ?_ _ | refine blk_drew ?_ | refine blk_alloc ?_ _)); exact BK244.out⟩, ⟨by (with_reducible repeat (first | refine blk_drewN ?_ _ | refine blk_drew ?_ | refine blk_alloc ?_ _)); refine blk_far ?_ NB245_249.out _; (with_reducible repeat (first | refine blk_drewN ?_ _ | refine blk_drew ?_ | refine blk_alloc ?_ _)); refine blk_far ?_ NB245_249.out _; (with_reducible repeat (first | refine blk_drewN ?_ _ | refine blk_drew ?_ | refine blk_alloc ?_ _)); exact BK245.out⟩, ⟨by (with_reducible repeat (first | refine blk_drewN ?_ _ | refine blk_drew ?_ | refine blk_alloc ?_ _)); refine blk_put (cs := #[.int .i64 t246, .int .i64 0]) ?_ 1 _ rfl; (with_reducible repeat (first | refine blk_drewN ?_ _ | refine blk_drew ?_ | refine blk_alloc ?_ _)); refine blk_put (cs := #[.int .i64 0, .int .i64 0]) ?_ 0 _ rfl; (with_reducible repeat (first | refine blk_drewN ?_ _ | refine blk_drew ?_ | refine blk_alloc ?_ _)); exact BK249.out⟩, ⟨by repeat (first | (with_reducible first | exact HB.out | apply below_alloc | apply pw_below_drewN | apply below_drew1 | refine below_set ?_ GE244.out | refine below_set ?_ GE245.out | refine below_set ?_ GE249.out) | exact HB.out)⟩⟩
 case rest =>
  clear HC7
  try clear c1
  try clear c2
  try clear p2
  try clear c4
  try clear c10
  try clear c14
  try clear c15
  try clear c17
  try clear c17b0
  try clear c17b1
  try clear c18
  try clear c19
  try clear hcz11_0
  try clear hcz11_1
  try clear hcz11_2
  try clear hcz11_3
  try clear hcz11_4
  try clear hcz16_0
  try clear hcz16_1
  try clear hcz20_0
  try clear hcz20_1
  try clear hcz20_2
  try clear hcz20_3
  try clear hcz20_4
  try clear hfz11_0
  try clear hfz11_1
  try clear hfz11_2
  try clear hfz11_3
  try clear hfz11_4
  try clear hfz16_0
  try clear hfz16_1
  try clear hfz20_0
  try clear hfz20_1
  try clear hfz20_2
  try clear hfz20_3
  try clear hfz20_4
  obtain ⟨kq, x33_6, rfl, HA, HJ6, BK244, BK245, BK249, HB⟩ := hcut
  cases kq with
  | zero => exact absurd HA.out (by simp [member_Round.j0])
  | succ kj6 =>
   have H := HA.out
   clear HA
   simp only [member_Round.j0] at H
   by_cases c21 : x33_6 = true
   ·subst c21
    have H1 : (some (0, 0, 0, 1)) = some (r1, r2, r3, r4) := by rw [if_pos rfl] at H; exact H
    clear H
    have H := H1
    clear H1
    simp only [Option.some.injEq, Prod.mk.injEq] at H
    obtain ⟨rfl, rfl, rfl, rfl⟩ := H
    have hnb22 := NB245_244.out
    have hnc22 := NB244_245.out
    have hnb23 := NB245_249.out
    have hnc23 := NB249_245.out
    have hcz24_0 : wc.cell? ⟨gb245, 0, none⟩ = some (.int .i64 0) := (blk_cell BK245.out 0).trans rfl
    have hcz24_1 : wc.cell? ⟨gb245, 1, none⟩ = some (.int .i64 0) := (blk_cell BK245.out 1).trans rfl
    have hfz24_0 := blk_frozen BK245.out 0
    have hfz24_1 := blk_frozen BK245.out 1
    go_wp2
    refine bodyPost_ret (results_list (rs := [.tmp 10, .cell 11 25, .tmp 12]) rfl (by simp) (.tmp (.cell gb245 25 #[.int .i64 0, .int .i64 0] (0, 0) _ rfl (by (with_reducible repeat (first | refine blk_drewN ?_ _ | refine blk_drew ?_ | refine blk_alloc ?_ _)); refine blk_put (cs := #[.int .i64 0, .int .i64 0]) ?_ 1 _ rfl; (with_reducible repeat (first | refine blk_drewN ?_ _ | refine blk_drew ?_ | refine blk_alloc ?_ _)); refine blk_put (cs := #[.int .i64 0, .int .i64 0]) ?_ 0 _ rfl; (with_reducible repeat (first | refine blk_drewN ?_ _ | refine blk_drew ?_ | refine blk_alloc ?_ _)); exact BK245.out) Try.underlying25 rfl (by kernel_rfl) (.tmp .nil)))) rfl ?_
    exact ⟨by first | rfl | (simp [errW_none, errW_some] <;> rfl) | (simp [*, errW_none, errW_some] <;> rfl), by repeat (first | (with_reducible first | exact HB.out | apply below_alloc | apply pw_below_drewN | apply below_drew1 | refine below_set ?_ GE244.out | refine below_set ?_ GE245.out | refine below_set ?_ GE249.out) | exact HB.out)⟩
   ·replace c21 := Bool.eq_false_iff.mpr c21
    subst c21
    have H1 : (member_Round.l0 kj6 a1 a2 a3 l4 (l4.length : Int) 0 a0_0 a0_1 a0_2 a0_3 a0_4 0 0) = some (r1, r2, r3, r4) := by rw [if_neg (show ¬ (false = true) by decide)] at H; exact H
    clear H
    have H := H1
    clear H1
    have H' := Aside0.mk H
    clear H
    go_wp2_with (first | ((with_reducible refine gate_dst (N := 15) rfl ?_); (try (refine gate_guard (by rfl) ?_; dsimp only)); refine box_event ?hg (N := 15) ?hd (cs := #[.int .i64 0, .int .i64 0]) (t := 25) ?hr ?_; (case hd => rfl); (case hg => rfl); (case hr => first | (go_simp; done) | (go_simp; rfl)); intro gb250 hg w25 hbox hb; have n0_ := Aside0.mk (blk_below (g := gb244) (o := .cells #[.int .i64 a0_0, .int .i64 a0_1, .int .i64 a0_2, .int .i64 a0_3, .int .i64 a0_4] 32 (0, 0)) (by (with_reducible repeat (first | refine blk_drewN ?_ _ | refine blk_drew ?_ | refine blk_alloc ?_ _)); exact BK244.out) hb); have n1_ := Aside0.mk (blk_below (g := gb245) (o := .cells #[.int .i64 0, .int .i64 0] 25 (0, 0)) (by (with_reducible repeat (first | refine blk_drewN ?_ _ | refine blk_drew ?_ | refine blk_alloc ?_ _)); exact BK245.out) hb); have n2_ := Aside0.mk (blk_below (g := gb249) (o := .cells #[.int .i64 t246, .int .i64 t247] 57 (0, 0)) (by (with_reducible repeat (first | refine blk_drewN ?_ _ | refine blk_drew ?_ | refine blk_alloc ?_ _)); exact BK249.out) hb); have n3_ := Aside0.mk (below_step (by repeat (first | (with_reducible first | exact HB.out | apply below_alloc | apply pw_below_drewN | apply below_drew1 | refine below_set ?_ GE244.out | refine below_set ?_ GE245.out | refine below_set ?_ GE249.out) | exact HB.out)) hb); have n4_ := Aside0.mk (hbox); have n5_ := Aside0.mk ((by rw [hg]; exact (below_size (by repeat (first | (with_reducible first | exact HB.out | apply below_alloc | apply pw_below_drewN | apply below_drew1 | refine below_set ?_ GE244.out | refine below_set ?_ GE245.out | refine below_set ?_ GE249.out) | exact HB.out))) : w.heap.size ≤ gb250)); have n6_ := Aside0.mk ((by rw [hg]; exact (below_size (by repeat (first | (with_reducible first | exact HB.out | apply below_alloc | apply pw_below_drewN | apply below_drew1 | refine below_set ?_ GE244.out | refine below_set ?_ GE245.out | refine below_set ?_ GE249.out) | exact HB.out))) : w.heap.size ≤ gb250)); have n7_ := Aside0.mk ((by rw [hg]; exact Nat.ne_of_lt (blk_lt (g := gb244) (o := .cells #[.int .i64 a0_0, .int .i64 a0_1, .int .i64 a0_2, .int .i64 a0_3, .int .i64 a0_4] 32 (0, 0)) (by (with_reducible repeat (first | refine blk_drewN ?_ _ | refine blk_drew ?_ | refine blk_alloc ?_ _)); exact BK244.out)) : gb244 ≠ gb250)); have n8_ := Aside0.mk ((by rw [hg]; exact Nat.ne_of_gt (blk_lt (g := gb244) (o := .cells #[.int .i64 a0_0, .int .i64 a0_1, .int .i64 a0_2, .int .i64 a0_3, .int .i64 a0_4] 32 (0, 0)) (by (with_reducible repeat (first | refine blk_drewN ?_ _ | refine blk_drew ?_ | refine blk_alloc ?_ _)); exact BK244.out)) : gb250 ≠ gb244)); have n9_ := Aside0.mk ((by rw [hg]; exact Nat.ne_of_lt (blk_lt (g := gb245) (o := .cells #[.int .i64 0, .int .i64 0] 25 (0, 0)) (by (with_reducible repeat (first | refine blk_drewN ?_ _ | refine blk_drew ?_ | refine blk_alloc ?_ _)); exact BK245.out)) : gb245 ≠ gb250)); have n10_ := Aside0.mk ((by rw [hg]; exact Nat.ne_of_gt (blk_lt (g := gb245) (o := .cells #[.int .i64 0, .int .i64 0] 25 (0, 0)) (by (with_reducible repeat (first | refine blk_drewN ?_ _ | refine blk_drew ?_ | refine blk_alloc ?_ _)); exact BK245.out)) : gb250 ≠ gb245)); have n11_ := Aside0.mk ((by rw [hg]; exact Nat.ne_of_lt (blk_lt (g := gb249) (o := .cells #[.int .i64 t246, .int .i64 t247] 57 (0, 0)) (by (with_reducible repeat (first | refine blk_drewN ?_ _ | refine blk_drew ?_ | refine blk_alloc ?_ _)); exact BK249.out)) : gb249 ≠ gb250)); have n12_ := Aside0.mk ((by rw [hg]; exact Nat.ne_of_gt (blk_lt (g := gb249) (o := .cells #[.int .i64 t246, .int .i64 t247] 57 (0, 0)) (by (with_reducible repeat (first | refine blk_drewN ?_ _ | refine blk_drew ?_ | refine blk_alloc ?_ _)); exact BK249.out)) : gb250 ≠ gb249)); clear BK244; clear BK245; clear BK249; clear HB; have BK244 := n0_; have BK245 := n1_; have BK249 := n2_; have HB := n3_; have BK250 := n4_; have GW250 := n5_; have GE250 := n6_; have NB244_250 := n7_; have NB250_244 := n8_; have NB245_250 := n9_; have NB250_245 := n10_; have NB249_250 := n11_; have NB250_249 := n12_; clear n0_ n1_ n2_ n3_ n4_ n5_ n6_ n7_ n8_ n9_ n10_ n11_ n12_; clear hb hbox hg))
    go_loopg [2, 37] kj6 (fun kq v2 v37 w' => ∃ (x2_2 : Int) (x37_2 : Int) (x246000_2 : Int) (x246001_2 : Int) (x251000_2 : Int) (x251001_2 : Int), v2 = .int .u16 x2_2 ∧ v37 = .int .i64 x37_2 ∧ Aside0 (member_Round.l0 kq a1 x2_2 a3 l4 (l4.length : Int) x37_2 a0_0 a0_1 a0_2 a0_3 a0_4 x251000_2 x251001_2 = some (r1, r2, r3, r4)) ∧ Aside0 (kq ≤ kj6) ∧ Aside0 (w'.heap[gb244]? = some (.cells #[.int .i64 a0_0, .int .i64 a0_1, .int .i64 a0_2, .int .i64 a0_3, .int .i64 a0_4] 32 (0, 0))) ∧ Aside0 (w'.heap[gb245]? = some (.cells #[.int .i64 x246000_2, .int .i64 x246001_2] 25 (0, 0))) ∧ Aside0 (w'.heap[gb249]? = some (.cells #[.int .i64 t246, .int .i64 t247] 57 (0, 0))) ∧ Aside0 (w'.heap[gb250]? = some (.cells #[.int .i64 x251000_2, .int .i64 x251001_2] 25 (0, 0))) ∧ Aside0 (Below w.heap.size w w'))
    case atStart => exact ⟨(a2), (0), (0), (0), (0), (0), (by first | rfl | (simp; done) | (simp [*]; done)), (by first | rfl | (simp; done) | (simp [*]; done)), H', ⟨Nat.le_refl _⟩, ⟨by (with_reducible repeat (first | refine blk_drewN ?_ _ | refine blk_drew ?_ | refine blk_alloc ?_ _)); exact BK244.out⟩, ⟨by (with_reducible repeat (first | refine blk_drewN ?_ _ | refine blk_drew ?_ | refine blk_alloc ?_ _)); exact BK245.out⟩, ⟨by (with_reducible repeat (first | refine blk_drewN ?_ _ | refine blk_drew ?_ | refine blk_alloc ?_ _)); exact BK249.out⟩, ⟨by (with_reducible repeat (first | refine blk_drewN ?_ _ | refine blk_drew ?_ | refine blk_alloc ?_ _)); exact BK250.out⟩, ⟨by repeat (first | (with_reducible first | exact HB.out | apply below_alloc | apply pw_below_drewN | apply below_drew1 | refine below_set ?_ GE244.out | refine below_set ?_ GE245.out | refine below_set ?_ GE249.out | refine below_set ?_ GE250.out) | exact HB.out)⟩⟩
    case round =>
     clear H'
     try clear c1
     try clear c2
     try clear p2
     try clear c4
     try clear c10
     try clear c14
     try clear c15
     try clear c17
     try clear c17b0
     try clear c17b1
     try clear c18
     try clear c19
     try clear c21
     try clear c22
     try clear c23
     try clear hcz11_0
     try clear hcz11_1
     try clear hcz11_2
     try clear hcz11_3
     try clear hcz11_4
     try clear hcz16_0
     try clear hcz16_1
     try clear hcz20_0
     try clear hcz20_1
     try clear hcz20_2
     try clear hcz20_3
     try clear hcz20_4
     try clear hcz24_0
     try clear hcz24_1
     try clear hfz11_0
     try clear hfz11_1
     try clear hfz11_2
     try clear hfz11_3
     try clear hfz11_4
     try clear hfz16_0
     try clear hfz16_1
     try clear hfz20_0
     try clear hfz20_1
     try clear hfz20_2
     try clear hfz20_3
     try clear hfz20_4
     try clear hfz24_0
     try clear hfz24_1
     try clear p2
     obtain ⟨x2_2, x37_2, x246000_2, x246001_2, x251000_2, x251001_2, rfl, rfl, HA, HK2, BK244, BK245, BK249, BK250, HB⟩ := hrel
     cases gk with
     | zero => exact absurd HA.out (by simp [member_Round.l0])
     | succ k2 =>
      have H := HA.out
      clear HA
      simp only [member_Round.l0] at H
      by_cases c26 : x37_2 < (l4.length : Int)
      ·rw [if_pos c26] at H
       have c26b0 : decide (x37_2 < (l4.length : Int)) = true := decide_eq_true c26
       clear c26
       by_cases c27 : 0 ≤ x37_2
       ·rw [if_pos c27] at H
        have c27b0 : decide (0 ≤ x37_2) = true := decide_eq_true c27
        clear c27
        by_cases c28 : x37_2 < (l4.length : Int)
        ·rw [if_pos c28] at H
         have c28b0 : decide (x37_2 < (l4.length : Int)) = true := decide_eq_true c28
         clear c28
         replace H := Option.bind_eq_some_iff.mp H
         obtain ⟨⟨t252, t253⟩, A290, H⟩ := H
         replace H : (if t253 = 0 then ((member_Count.f k2 x251000_2 x251001_2 (rd l4 x37_2)).bind fun bt254 => (if bt254.2.2 = 0 then (member_Round.l0 k2 a1 t252 a3 l4 (l4.length : Int) (wrap64 (x37_2 + 1)) a0_0 a0_1 a0_2 a0_3 a0_4 bt254.1 bt254.2.1) else (some (0, 0, 0, bt254.2.2)))) else (some (0, 0, 0, t253))) = some (r1, r2, r3, r4) := H
         have A29 := Aside0.mk A290
         clear A290
         by_cases c30 : t253 = 0
         ·rw [if_pos c30] at H
          have c30b0 : (t253 == 0) = true := beq_iff_eq.mpr c30
          have c30b1 : (t253 != 0) = false := bne_eq_false_iff_eq.mpr c30
          clear c30
          replace H := Option.bind_eq_some_iff.mp H
          obtain ⟨⟨t254, t255, t256⟩, A310, H⟩ := H
          replace H : (if t256 = 0 then (member_Round.l0 k2 a1 t252 a3 l4 (l4.length : Int) (wrap64 (x37_2 + 1)) a0_0 a0_1 a0_2 a0_3 a0_4 t254 t255) else (some (0, 0, 0, t256))) = some (r1, r2, r3, r4) := H
          have A31 := Aside0.mk A310
          clear A310
          by_cases c32 : t256 = 0
          ·rw [if_pos c32] at H
           have c32b0 : (t256 == 0) = true := beq_iff_eq.mpr c32
           have c32b1 : (t256 != 0) = false := bne_eq_false_iff_eq.mpr c32
           clear c32
           have H' := Aside0.mk H
           clear H
           have p251 : 0 ≤ (x37_2 : Int) := of_decide_eq_true (by first | (with_reducible assumption) | assumption)
           have q251 : x37_2 < (l4.length : Int) := of_decide_eq_true (by first | (with_reducible assumption) | assumption)
           obtain ⟨ad251, e251, hx251_0⟩ := Kd.at_int HR4.out x37_2 p251 q251
           cases e251
           replace hx251_0 := (HB.out.cell (World.block_lt_of_cell? w _ hx251_0)).trans hx251_0
           replace p251 := eq_true p251
           replace q251 := eq_true q251
           have hnb33 := NB244_245.out
           have hnc33 := NB245_244.out
           have hnb34 := NB244_249.out
           have hnc34 := NB249_244.out
           have hnb35 := NB244_250.out
           have hnc35 := NB250_244.out
           have hcz36_0 : wr.cell? ⟨gb244, 0, none⟩ = some (.int .i64 a0_0) := (blk_cell BK244.out 0).trans rfl
           have hcz36_1 : wr.cell? ⟨gb244, 1, none⟩ = some (.int .i64 a0_1) := (blk_cell BK244.out 1).trans rfl
           have hcz36_2 : wr.cell? ⟨gb244, 2, none⟩ = some (.int .i64 a0_2) := (blk_cell BK244.out 2).trans rfl
           have hcz36_3 : wr.cell? ⟨gb244, 3, none⟩ = some (.int .i64 a0_3) := (blk_cell BK244.out 3).trans rfl
           have hcz36_4 : wr.cell? ⟨gb244, 4, none⟩ = some (.int .i64 a0_4) := (blk_cell BK244.out 4).trans rfl
           have hfz36_0 := blk_frozen BK244.out 0
           have hfz36_1 := blk_frozen BK244.out 1
           have hfz36_2 := blk_frozen BK244.out 2
           have hfz36_3 := blk_frozen BK244.out 3
           have hfz36_4 := blk_frozen BK244.out 4
           go_wp2_with (first | ((with_reducible refine gate_callee (f := 16) rfl ?_); refine goesL_ (some 51) rfl rfl Try.func16 (by kernel_rfl) rfl #[.agg #[.int .i64 a0_0, .int .i64 a0_1, .int .i64 a0_2, .int .i64 a0_3, .int .i64 a0_4], .int .i64 a1, .int .u16 x2_2, .int .u64 (IntKind.u64.wrap (a3 + (IntKind.u64.wrap (x37_2)))), .int .i64 (rd l4 x37_2)] rfl (by (try simp only [List.map_toArray, List.map_cons, List.map_nil]); first | done | rfl | (simp only [List.length_drop, List.length_take]; rfl)) ?_; (with_reducible refine (member_After.calls a0_0 a0_1 a0_2 a0_3 a0_4 a1 x2_2 (IntKind.u64.wrap (a3 + (IntKind.u64.wrap (x37_2)))) (rd l4 x37_2) t252 t253 _ A29.out).mono ?_); rintro e w37 ⟨rfl, hb⟩; refine ⟨_, rfl, ?_⟩; have n0_ := Aside0.mk (blk_below (g := gb244) (o := .cells #[.int .i64 a0_0, .int .i64 a0_1, .int .i64 a0_2, .int .i64 a0_3, .int .i64 a0_4] 32 (0, 0)) (by (with_reducible repeat (first | refine blk_drewN ?_ _ | refine blk_drew ?_ | refine blk_alloc ?_ _)); exact BK244.out) hb); have n1_ := Aside0.mk (blk_below (g := gb245) (o := .cells #[.int .i64 x246000_2, .int .i64 x246001_2] 25 (0, 0)) (by (with_reducible repeat (first | refine blk_drewN ?_ _ | refine blk_drew ?_ | refine blk_alloc ?_ _)); exact BK245.out) hb); have n2_ := Aside0.mk (blk_below (g := gb249) (o := .cells #[.int .i64 t246, .int .i64 t247] 57 (0, 0)) (by (with_reducible repeat (first | refine blk_drewN ?_ _ | refine blk_drew ?_ | refine blk_alloc ?_ _)); exact BK249.out) hb); have n3_ := Aside0.mk (blk_below (g := gb250) (o := .cells #[.int .i64 x251000_2, .int .i64 x251001_2] 25 (0, 0)) (by (with_reducible repeat (first | refine blk_drewN ?_ _ | refine blk_drew ?_ | refine blk_alloc ?_ _)); exact BK250.out) hb); have n4_ := Aside0.mk (below_step (by repeat (first | (with_reducible first | exact HB.out | apply below_alloc | apply pw_below_drewN | apply below_drew1 | refine below_set ?_ GE244.out | refine below_set ?_ GE245.out | refine below_set ?_ GE249.out | refine below_set ?_ GE250.out) | exact HB.out)) hb); clear BK244; clear BK245; clear BK249; clear BK250; clear HB; have BK244 := n0_; have BK245 := n1_; have BK249 := n2_; have BK250 := n3_; have HB := n4_; clear n0_ n1_ n2_ n3_ n4_; (try clear hb); (try clear hb2); (try clear hk); (try clear hi); have hnb38 := NB250_245.out; have hnc38 := NB245_250.out; have hnb39 := NB250_249.out; have hnc39 := NB249_250.out; have hcz40_0 : w37.cell? ⟨gb250, 0, none⟩ = some (.int .i64 x251000_2) := (blk_cell BK250.out 0).trans rfl; have hcz40_1 : w37.cell? ⟨gb250, 1, none⟩ = some (.int .i64 x251001_2) := (blk_cell BK250.out 1).trans rfl; have hfz40_0 := blk_frozen BK250.out 0; have hfz40_1 := blk_frozen BK250.out 1) | ((with_reducible refine gate_callee (f := 11) rfl ?_); refine goesL_ (some 59) rfl rfl Try.func11 (by kernel_rfl) rfl #[.agg #[.int .i64 x251000_2, .int .i64 x251001_2], .int .i64 (rd l4 x37_2)] rfl (by (try simp only [List.map_toArray, List.map_cons, List.map_nil]); first | done | rfl | (simp only [List.length_drop, List.length_take]; rfl)) ?_; (with_reducible refine (member_Count.calls k2 x251000_2 x251001_2 (rd l4 x37_2) t254 t255 t256 _ A31.out).mono ?_); rintro e w41 ⟨rfl, hb⟩; refine ⟨_, rfl, ?_⟩; have n0_ := Aside0.mk (blk_below (g := gb244) (o := .cells #[.int .i64 a0_0, .int .i64 a0_1, .int .i64 a0_2, .int .i64 a0_3, .int .i64 a0_4] 32 (0, 0)) (by (with_reducible repeat (first | refine blk_drewN ?_ _ | refine blk_drew ?_ | refine blk_alloc ?_ _)); exact BK244.out) hb); have n1_ := Aside0.mk (blk_below (g := gb245) (o := .cells #[.int .i64 x246000_2, .int .i64 x246001_2] 25 (0, 0)) (by (with_reducible repeat (first | refine blk_drewN ?_ _ | refine blk_drew ?_ | refine blk_alloc ?_ _)); exact BK245.out) hb); have n2_ := Aside0.mk (blk_below (g := gb249) (o := .cells #[.int .i64 t246, .int .i64 t247] 57 (0, 0)) (by (with_reducible repeat (first | refine blk_drewN ?_ _ | refine blk_drew ?_ | refine blk_alloc ?_ _)); exact BK249.out) hb); have n3_ := Aside0.mk (blk_below (g := gb250) (o := .cells #[.int .i64 x251000_2, .int .i64 x251001_2] 25 (0, 0)) (by (with_reducible repeat (first | refine blk_drewN ?_ _ | refine blk_drew ?_ | refine blk_alloc ?_ _)); exact BK250.out) hb); have n4_ := Aside0.mk (below_step (by repeat (first | (with_reducible first | exact HB.out | apply below_alloc | apply pw_below_drewN | apply below_drew1 | refine below_set ?_ GE244.out | refine below_set ?_ GE245.out | refine below_set ?_ GE249.out | refine below_set ?_ GE250.out) | exact HB.out)) hb); clear BK244; clear BK245; clear BK249; clear BK250; clear HB; have BK244 := n0_; have BK245 := n1_; have BK249 := n2_; have BK250 := n3_; have HB := n4_; clear n0_ n1_ n2_ n3_ n4_; (try clear hb); (try clear hb2); (try clear hk); (try clear hi); have hcz42_0 : w41.cell? ⟨gb250, 0, none⟩ = some (.int .i64 x251000_2) := (blk_cell BK250.out 0).trans rfl; have hcz42_1 : w41.cell? ⟨gb250, 1, none⟩ = some (.int .i64 x251001_2) := (blk_cell BK250.out 1).trans rfl; have hfz42_0 := blk_frozen BK250.out 0; have hfz42_1 := blk_frozen BK250.out 1))
           go_roundg k2
           case measure => have := HJ6.out; have := HK2.out; omega
           case rel => exact ⟨(t252), (wrap64 (x37_2 + 1)), (x246000_2), (x246001_2), (t254), (t255), (by first | rfl | (simp; done) | (simp [*]; done)), (by first | rfl | (simp; done) | (simp [*]; done)), H', ⟨by have := HJ6.out; have := HK2.out; omega⟩, ⟨by (with_reducible repeat (first | refine blk_drewN ?_ _ | refine blk_drew ?_ | refine blk_alloc ?_ _)); refine blk_far ?_ NB244_250.out _; (with_reducible repeat (first | refine blk_drewN ?_ _ | refine blk_drew ?_ | refine blk_alloc ?_ _)); refine blk_far ?_ NB244_250.out _; (with_reducible repeat (first | refine blk_drewN ?_ _ | refine blk_drew ?_ | refine blk_alloc ?_ _)); exact BK244.out⟩, ⟨by (with_reducible repeat (first | refine blk_drewN ?_ _ | refine blk_drew ?_ | refine blk_alloc ?_ _)); refine blk_far ?_ NB245_250.out _; (with_reducible repeat (first | refine blk_drewN ?_ _ | refine blk_drew ?_ | refine blk_alloc ?_ _)); refine blk_far ?_ NB245_250.out _; (with_reducible repeat (first | refine blk_drewN ?_ _ | refine blk_drew ?_ | refine blk_alloc ?_ _)); exact BK245.out⟩, ⟨by (with_reducible repeat (first | refine blk_drewN ?_ _ | refine blk_drew ?_ | refine blk_alloc ?_ _)); refine blk_far ?_ NB249_250.out _; (with_reducible repeat (first | refine blk_drewN ?_ _ | refine blk_drew ?_ | refine blk_alloc ?_ _)); refine blk_far ?_ NB249_250.out _; (with_reducible repeat (first | refine blk_drewN ?_ _ | refine blk_drew ?_ | refine blk_alloc ?_ _)); exact BK249.out⟩, ⟨by (with_reducible repeat (first | refine blk_drewN ?_ _ | refine blk_drew ?_ | refine blk_alloc ?_ _)); refine blk_put (cs := #[.int .i64 t254, .int .i64 x251001_2]) ?_ 1 _ rfl; (with_reducible repeat (first | refine blk_drewN ?_ _ | refine blk_drew ?_ | refine blk_alloc ?_ _)); refine blk_put (cs := #[.int .i64 x251000_2, .int .i64 x251001_2]) ?_ 0 _ rfl; (with_reducible repeat (first | refine blk_drewN ?_ _ | refine blk_drew ?_ | refine blk_alloc ?_ _)); exact BK250.out⟩, ⟨by repeat (first | (with_reducible first | exact HB.out | apply below_alloc | apply pw_below_drewN | apply below_drew1 | refine below_set ?_ GE244.out | refine below_set ?_ GE245.out | refine below_set ?_ GE249.out | refine below_set ?_ GE250.out) | exact HB.out)⟩⟩
          ·rw [if_neg c32] at H
           have c32b0 : (t256 == 0) = false := beq_eq_false_iff_ne.mpr c32
           have c32b1 : (t256 != 0) = true := bne_iff_ne.mpr c32
           simp only [Option.some.injEq, Prod.mk.injEq] at H
           obtain ⟨rfl, rfl, rfl, rfl⟩ := H
           have p251 : 0 ≤ (x37_2 : Int) := of_decide_eq_true (by first | (with_reducible assumption) | assumption)
           have q251 : x37_2 < (l4.length : Int) := of_decide_eq_true (by first | (with_reducible assumption) | assumption)
           obtain ⟨ad251, e251, hx251_0⟩ := Kd.at_int HR4.out x37_2 p251 q251
           cases e251
           replace hx251_0 := (HB.out.cell (World.block_lt_of_cell? w _ hx251_0)).trans hx251_0
           replace p251 := eq_true p251
           replace q251 := eq_true q251
           have hnb43 := NB244_245.out
           have hnc43 := NB245_244.out
           have hnb44 := NB244_249.out
           have hnc44 := NB249_244.out
           have hnb45 := NB244_250.out
           have hnc45 := NB250_244.out
           have hcz46_0 : wr.cell? ⟨gb244, 0, none⟩ = some (.int .i64 a0_0) := (blk_cell BK244.out 0).trans rfl
           have hcz46_1 : wr.cell? ⟨gb244, 1, none⟩ = some (.int .i64 a0_1) := (blk_cell BK244.out 1).trans rfl
           have hcz46_2 : wr.cell? ⟨gb244, 2, none⟩ = some (.int .i64 a0_2) := (blk_cell BK244.out 2).trans rfl
           have hcz46_3 : wr.cell? ⟨gb244, 3, none⟩ = some (.int .i64 a0_3) := (blk_cell BK244.out 3).trans rfl
           have hcz46_4 : wr.cell? ⟨gb244, 4, none⟩ = some (.int .i64 a0_4) := (blk_cell BK244.out 4).trans rfl
           have hfz46_0 := blk_frozen BK244.out 0
           have hfz46_1 := blk_frozen BK244.out 1
           have hfz46_2 := blk_frozen BK244.out 2
           have hfz46_3 := blk_frozen BK244.out 3
           have hfz46_4 := blk_frozen BK244.out 4
           go_wp2_with (first | ((with_reducible refine gate_callee (f := 16) rfl ?_); refine goesL_ (some 51) rfl rfl Try.func16 (by kernel_rfl) rfl #[.agg #[.int .i64 a0_0, .int .i64 a0_1, .int .i64 a0_2, .int .i64 a0_3, .int .i64 a0_4], .int .i64 a1, .int .u16 x2_2, .int .u64 (IntKind.u64.wrap (a3 + (IntKind.u64.wrap (x37_2)))), .int .i64 (rd l4 x37_2)] rfl (by (try simp only [List.map_toArray, List.map_cons, List.map_nil]); first | done | rfl | (simp only [List.length_drop, List.length_take]; rfl)) ?_; (with_reducible refine (member_After.calls a0_0 a0_1 a0_2 a0_3 a0_4 a1 x2_2 (IntKind.u64.wrap (a3 + (IntKind.u64.wrap (x37_2)))) (rd l4 x37_2) t252 t253 _ A29.out).mono ?_); rintro e w47 ⟨rfl, hb⟩; refine ⟨_, rfl, ?_⟩; have n0_ := Aside0.mk (blk_below (g := gb244) (o := .cells #[.int .i64 a0_0, .int .i64 a0_1, .int .i64 a0_2, .int .i64 a0_3, .int .i64 a0_4] 32 (0, 0)) (by (with_reducible repeat (first | refine blk_drewN ?_ _ | refine blk_drew ?_ | refine blk_alloc ?_ _)); exact BK244.out) hb); have n1_ := Aside0.mk (blk_below (g := gb245) (o := .cells #[.int .i64 x246000_2, .int .i64 x246001_2] 25 (0, 0)) (by (with_reducible repeat (first | refine blk_drewN ?_ _ | refine blk_drew ?_ | refine blk_alloc ?_ _)); exact BK245.out) hb); have n2_ := Aside0.mk (blk_below (g := gb249) (o := .cells #[.int .i64 t246, .int .i64 t247] 57 (0, 0)) (by (with_reducible repeat (first | refine blk_drewN ?_ _ | refine blk_drew ?_ | refine blk_alloc ?_ _)); exact BK249.out) hb); have n3_ := Aside0.mk (blk_below (g := gb250) (o := .cells #[.int .i64 x251000_2, .int .i64 x251001_2] 25 (0, 0)) (by (with_reducible repeat (first | refine blk_drewN ?_ _ | refine blk_drew ?_ | refine blk_alloc ?_ _)); exact BK250.out) hb); have n4_ := Aside0.mk (below_step (by repeat (first | (with_reducible first | exact HB.out | apply below_alloc | apply pw_below_drewN | apply below_drew1 | refine below_set ?_ GE244.out | refine below_set ?_ GE245.out | refine below_set ?_ GE249.out | refine below_set ?_ GE250.out) | exact HB.out)) hb); clear BK244; clear BK245; clear BK249; clear BK250; clear HB; have BK244 := n0_; have BK245 := n1_; have BK249 := n2_; have BK250 := n3_; have HB := n4_; clear n0_ n1_ n2_ n3_ n4_; (try clear hb); (try clear hb2); (try clear hk); (try clear hi); have hnb48 := NB250_245.out; have hnc48 := NB245_250.out; have hnb49 := NB250_249.out; have hnc49 := NB249_250.out; have hcz50_0 : w47.cell? ⟨gb250, 0, none⟩ = some (.int .i64 x251000_2) := (blk_cell BK250.out 0).trans rfl; have hcz50_1 : w47.cell? ⟨gb250, 1, none⟩ = some (.int .i64 x251001_2) := (blk_cell BK250.out 1).trans rfl; have hfz50_0 := blk_frozen BK250.out 0; have hfz50_1 := blk_frozen BK250.out 1) | ((with_reducible refine gate_callee (f := 11) rfl ?_); refine goesL_ (some 59) rfl rfl Try.func11 (by kernel_rfl) rfl #[.agg #[.int .i64 x251000_2, .int .i64 x251001_2], .int .i64 (rd l4 x37_2)] rfl (by (try simp only [List.map_toArray, List.map_cons, List.map_nil]); first | done | rfl | (simp only [List.length_drop, List.length_take]; rfl)) ?_; (with_reducible refine (member_Count.calls k2 x251000_2 x251001_2 (rd l4 x37_2) t254 t255 t256 _ A31.out).mono ?_); rintro e w51 ⟨rfl, hb⟩; refine ⟨_, rfl, ?_⟩; have n0_ := Aside0.mk (blk_below (g := gb244) (o := .cells #[.int .i64 a0_0, .int .i64 a0_1, .int .i64 a0_2, .int .i64 a0_3, .int .i64 a0_4] 32 (0, 0)) (by (with_reducible repeat (first | refine blk_drewN ?_ _ | refine blk_drew ?_ | refine blk_alloc ?_ _)); exact BK244.out) hb); have n1_ := Aside0.mk (blk_below (g := gb245) (o := .cells #[.int .i64 x246000_2, .int .i64 x246001_2] 25 (0, 0)) (by (with_reducible repeat (first | refine blk_drewN ?_ _ | refine blk_drew ?_ | refine blk_alloc ?_ _)); exact BK245.out) hb); have n2_ := Aside0.mk (blk_below (g := gb249) (o := .cells #[.int .i64 t246, .int .i64 t247] 57 (0, 0)) (by (with_reducible repeat (first | refine blk_drewN ?_ _ | refine blk_drew ?_ | refine blk_alloc ?_ _)); exact BK249.out) hb); have n3_ := Aside0.mk (blk_below (g := gb250) (o := .cells #[.int .i64 x251000_2, .int .i64 x251001_2] 25 (0, 0)) (by (with_reducible repeat (first | refine blk_drewN ?_ _ | refine blk_drew ?_ | refine blk_alloc ?_ _)); exact BK250.out) hb); have n4_ := Aside0.mk (below_step (by repeat (first | (with_reducible first | exact HB.out | apply below_alloc | apply pw_below_drewN | apply below_drew1 | refine below_set ?_ GE244.out | refine below_set ?_ GE245.out | refine below_set ?_ GE249.out | refine below_set ?_ GE250.out) | exact HB.out)) hb); clear BK244; clear BK245; clear BK249; clear BK250; clear HB; have BK244 := n0_; have BK245 := n1_; have BK249 := n2_; have BK250 := n3_; have HB := n4_; clear n0_ n1_ n2_ n3_ n4_; (try clear hb); (try clear hb2); (try clear hk); (try clear hi); have hcz52_0 : w51.cell? ⟨gb250, 0, none⟩ = some (.int .i64 x251000_2) := (blk_cell BK250.out 0).trans rfl; have hcz52_1 : w51.cell? ⟨gb250, 1, none⟩ = some (.int .i64 x251001_2) := (blk_cell BK250.out 1).trans rfl; have hfz52_0 := blk_frozen BK250.out 0; have hfz52_1 := blk_frozen BK250.out 1; have hnb53 := NB245_249.out; have hnc53 := NB249_245.out; have hcz54_0 : w51.cell? ⟨gb245, 0, none⟩ = some (.int .i64 x246000_2) := (blk_cell BK245.out 0).trans rfl; have hcz54_1 : w51.cell? ⟨gb245, 1, none⟩ = some (.int .i64 x246001_2) := (blk_cell BK245.out 1).trans rfl; have hfz54_0 := blk_frozen BK245.out 0; have hfz54_1 := blk_frozen BK245.out 1))
           refine bodyPost_ret (results_list (rs := [.tmp 10, .cell 11 25, .tmp 12]) rfl (by simp) (.tmp (.cell gb245 25 #[.int .i64 0, .int .i64 0] (0, 0) _ rfl (by (with_reducible repeat (first | refine blk_drewN ?_ _ | refine blk_drew ?_ | refine blk_alloc ?_ _)); refine blk_put (cs := #[.int .i64 0, .int .i64 x246001_2]) ?_ 1 _ rfl; (with_reducible repeat (first | refine blk_drewN ?_ _ | refine blk_drew ?_ | refine blk_alloc ?_ _)); refine blk_put (cs := #[.int .i64 x246000_2, .int .i64 x246001_2]) ?_ 0 _ rfl; (with_reducible repeat (first | refine blk_drewN ?_ _ | refine blk_drew ?_ | refine blk_alloc ?_ _)); refine blk_far ?_ NB245_250.out _; (with_reducible repeat (first | refine blk_drewN ?_ _ | refine blk_drew ?_ | refine blk_alloc ?_ _)); refine blk_far ?_ NB245_250.out _; (with_reducible repeat (first | refine blk_drewN ?_ _ | refine blk_drew ?_ | refine blk_alloc ?_ _)); exact BK245.out) Try.underlying25 rfl (by kernel_rfl) (.tmp .nil)))) rfl ?_
           exact ⟨by first | rfl | (simp [errW_none, errW_some] <;> rfl) | (simp [*, errW_none, errW_some] <;> rfl), by repeat (first | (with_reducible first | exact HB.out | apply below_alloc | apply pw_below_drewN | apply below_drew1 | refine below_set ?_ GE244.out | refine below_set ?_ GE245.out | refine below_set ?_ GE249.out | refine below_set ?_ GE250.out) | exact HB.out)⟩
         ·rw [if_neg c30] at H
          have c30b0 : (t253 == 0) = false := beq_eq_false_iff_ne.mpr c30
          have c30b1 : (t253 != 0) = true := bne_iff_ne.mpr c30
          simp only [Option.some.injEq, Prod.mk.injEq] at H
          obtain ⟨rfl, rfl, rfl, rfl⟩ := H
          have p251 : 0 ≤ (x37_2 : Int) := of_decide_eq_true (by first | (with_reducible assumption) | assumption)
          have q251 : x37_2 < (l4.length : Int) := of_decide_eq_true (by first | (with_reducible assumption) | assumption)
          obtain ⟨ad251, e251, hx251_0⟩ := Kd.at_int HR4.out x37_2 p251 q251
          cases e251
          replace hx251_0 := (HB.out.cell (World.block_lt_of_cell? w _ hx251_0)).trans hx251_0
          replace p251 := eq_true p251
          replace q251 := eq_true q251
          have hnb55 := NB244_245.out
          have hnc55 := NB245_244.out
          have hnb56 := NB244_249.out
          have hnc56 := NB249_244.out
          have hnb57 := NB244_250.out
          have hnc57 := NB250_244.out
          have hcz58_0 : wr.cell? ⟨gb244, 0, none⟩ = some (.int .i64 a0_0) := (blk_cell BK244.out 0).trans rfl
          have hcz58_1 : wr.cell? ⟨gb244, 1, none⟩ = some (.int .i64 a0_1) := (blk_cell BK244.out 1).trans rfl
          have hcz58_2 : wr.cell? ⟨gb244, 2, none⟩ = some (.int .i64 a0_2) := (blk_cell BK244.out 2).trans rfl
          have hcz58_3 : wr.cell? ⟨gb244, 3, none⟩ = some (.int .i64 a0_3) := (blk_cell BK244.out 3).trans rfl
          have hcz58_4 : wr.cell? ⟨gb244, 4, none⟩ = some (.int .i64 a0_4) := (blk_cell BK244.out 4).trans rfl
          have hfz58_0 := blk_frozen BK244.out 0
          have hfz58_1 := blk_frozen BK244.out 1
          have hfz58_2 := blk_frozen BK244.out 2
          have hfz58_3 := blk_frozen BK244.out 3
          have hfz58_4 := blk_frozen BK244.out 4
          go_wp2_with (first | ((with_reducible refine gate_callee (f := 16) rfl ?_); refine goesL_ (some 51) rfl rfl Try.func16 (by kernel_rfl) rfl #[.agg #[.int .i64 a0_0, .int .i64 a0_1, .int .i64 a0_2, .int .i64 a0_3, .int .i64 a0_4], .int .i64 a1, .int .u16 x2_2, .int .u64 (IntKind.u64.wrap (a3 + (IntKind.u64.wrap (x37_2)))), .int .i64 (rd l4 x37_2)] rfl (by (try simp only [List.map_toArray, List.map_cons, List.map_nil]); first | done | rfl | (simp only [List.length_drop, List.length_take]; rfl)) ?_; (with_reducible refine (member_After.calls a0_0 a0_1 a0_2 a0_3 a0_4 a1 x2_2 (IntKind.u64.wrap (a3 + (IntKind.u64.wrap (x37_2)))) (rd l4 x37_2) t252 t253 _ A29.out).mono ?_); rintro e w59 ⟨rfl, hb⟩; refine ⟨_, rfl, ?_⟩; have n0_ := Aside0.mk (blk_below (g := gb244) (o := .cells #[.int .i64 a0_0, .int .i64 a0_1, .int .i64 a0_2, .int .i64 a0_3, .int .i64 a0_4] 32 (0, 0)) (by (with_reducible repeat (first | refine blk_drewN ?_ _ | refine blk_drew ?_ | refine blk_alloc ?_ _)); exact BK244.out) hb); have n1_ := Aside0.mk (blk_below (g := gb245) (o := .cells #[.int .i64 x246000_2, .int .i64 x246001_2] 25 (0, 0)) (by (with_reducible repeat (first | refine blk_drewN ?_ _ | refine blk_drew ?_ | refine blk_alloc ?_ _)); exact BK245.out) hb); have n2_ := Aside0.mk (blk_below (g := gb249) (o := .cells #[.int .i64 t246, .int .i64 t247] 57 (0, 0)) (by (with_reducible repeat (first | refine blk_drewN ?_ _ | refine blk_drew ?_ | refine blk_alloc ?_ _)); exact BK249.out) hb); have n3_ := Aside0.mk (blk_below (g := gb250) (o := .cells #[.int .i64 x251000_2, .int .i64 x251001_2] 25 (0, 0)) (by (with_reducible repeat (first | refine blk_drewN ?_ _ | refine blk_drew ?_ | refine blk_alloc ?_ _)); exact BK250.out) hb); have n4_ := Aside0.mk (below_step (by repeat (first | (with_reducible first | exact HB.out | apply below_alloc | apply pw_below_drewN | apply below_drew1 | refine below_set ?_ GE244.out | refine below_set ?_ GE245.out | refine below_set ?_ GE249.out | refine below_set ?_ GE250.out) | exact HB.out)) hb); clear BK244; clear BK245; clear BK249; clear BK250; clear HB; have BK244 := n0_; have BK245 := n1_; have BK249 := n2_; have BK250 := n3_; have HB := n4_; clear n0_ n1_ n2_ n3_ n4_; (try clear hb); (try clear hb2); (try clear hk); (try clear hi); have hnb60 := NB245_249.out; have hnc60 := NB249_245.out; have hnb61 := NB245_250.out; have hnc61 := NB250_245.out; have hcz62_0 : w59.cell? ⟨gb245, 0, none⟩ = some (.int .i64 x246000_2) := (blk_cell BK245.out 0).trans rfl; have hcz62_1 : w59.cell? ⟨gb245, 1, none⟩ = some (.int .i64 x246001_2) := (blk_cell BK245.out 1).trans rfl; have hfz62_0 := blk_frozen BK245.out 0; have hfz62_1 := blk_frozen BK245.out 1))
          refine bodyPost_ret (results_list (rs := [.tmp 10, .cell 11 25, .tmp 12]) rfl (by simp) (.tmp (.cell gb245 25 #[.int .i64 0, .int .i64 0] (0, 0) _ rfl (by (with_reducible repeat (first | refine blk_drewN ?_ _ | refine blk_drew ?_ | refine blk_alloc ?_ _)); refine blk_put (cs := #[.int .i64 0, .int .i64 x246001_2]) ?_ 1 _ rfl; (with_reducible repeat (first | refine blk_drewN ?_ _ | refine blk_drew ?_ | refine blk_alloc ?_ _)); refine blk_put (cs := #[.int .i64 x246000_2, .int .i64 x246001_2]) ?_ 0 _ rfl; (with_reducible repeat (first | refine blk_drewN ?_ _ | refine blk_drew ?_ | refine blk_alloc ?_ _)); exact BK245.out) Try.underlying25 rfl (by kernel_rfl) (.tmp .nil)))) rfl ?_
          exact ⟨by first | rfl | (simp [errW_none, errW_some] <;> rfl) | (simp [*, errW_none, errW_some] <;> rfl), by repeat (first | (with_reducible first | exact HB.out | apply below_alloc | apply pw_below_drewN | apply below_drew1 | refine below_set ?_ GE244.out | refine below_set ?_ GE245.out | refine below_set ?_ GE249.out | refine below_set ?_ GE250.out) | exact HB.out)⟩
        ·rw [if_neg c28] at H
         exact absurd H (by simp)
       ·rw [if_neg c27] at H
        exact absurd H (by simp)
      ·rw [if_neg c26] at H
       have c26b0 : decide (x37_2 < (l4.length : Int)) = false := decide_eq_false c26
       clear c26
       simp only [Option.some.injEq, Prod.mk.injEq] at H
       obtain ⟨rfl, rfl, rfl, rfl⟩ := H
       try go_wp2
       have n0_ := Aside0.mk (blk_drew BK244.out)
       have n1_ := Aside0.mk (blk_drew BK245.out)
       have n2_ := Aside0.mk (blk_drew BK249.out)
       have n3_ := Aside0.mk (blk_drew BK250.out)
       have n4_ := Aside0.mk (below_drew1 HB.out)
       clear BK244
       clear BK245
       clear BK249
       clear BK250
       clear HB
       have BK244 := n0_
       have BK245 := n1_
       have BK249 := n2_
       have BK250 := n3_
       have HB := n4_
       clear n0_ n1_ n2_ n3_ n4_
       refine start_ (n := 5) (S := fun w' => w'.cell? ⟨gb250, 0, none⟩ = some (.int .i64 x251000_2) ∧ w'.cell? ⟨gb250, 1, none⟩ = some (.int .i64 x251001_2)) (ds := []) #[false, false, false, false, false] (by kernel_rfl) rfl rfl ⟨(blk_cell BK250.out 0).trans rfl, (blk_cell BK250.out 1).trans rfl⟩ (fun hHeld => ?_)
       generalize wr.drew = w63 at BK244 BK245 BK249 BK250 HB hHeld ⊢
       refine pure_ (i := 0) (N := some 67) (v := ?_) (a' := ?_) #[true, false, false, false, false] rfl rfl (by kernel_rfl) (fun _ _ _ h => h) (Or.inl ⟨by rfl, ?_⟩) ?_ ?_
       rotate_left
       ·intro w'
        go_simp
        with_reducible rfl
       rotate_left
       ·simp only [Act.put, List.setIfInBounds_toArray, List.set_cons_zero, List.set_cons_succ, i64_w, i32_w]
        rfl
       refine pure_ (i := 2) (N := some 10) (v := ?_) (a' := ?_) #[true, false, true, false, false] rfl rfl (by kernel_rfl) (fun _ _ _ h => h) (Or.inl ⟨by rfl, ?_⟩) ?_ ?_
       rotate_left
       ·intro w'
        go_simp
        with_reducible rfl
       rotate_left
       ·simp only [Act.put, List.setIfInBounds_toArray, List.set_cons_zero, List.set_cons_succ, i64_w, i32_w]
        rfl
       refine take_ (i := 1) (N := some 68) (v := ?_) (a' := ?_) #[true, true, true, false, false] rfl rfl (by kernel_rfl) (fun _ _ _ h => h) (Or.inl ⟨by rfl, ?_⟩) hHeld ?_ ?_
       rotate_left
       ·rintro w' ⟨s0, s1⟩
        go_simp
        with_reducible rfl
       rotate_left
       ·simp only [Act.put, List.setIfInBounds_toArray, List.set_cons_zero, List.set_cons_succ, i64_w, i32_w]
        rfl
       refine one_ (i := 3) (N := none) #[true, true, true, true, false] rfl rfl (by kernel_rfl) (by decide) (fun K hK => ?_)
       have hs64 : w63.cell? ⟨gb245, 0, none⟩ = some (.int .i64 x246000_2) := (blk_cell BK245.out 0).trans rfl
       have hfs64 := blk_frozen BK245.out 0
       have hns64_0 := NB244_245.out
       have hns64_2 := NB249_245.out
       have hns64_3 := NB250_245.out
       have hms64_0 := NB245_244.out
       have hms64_2 := NB245_249.out
       have hms64_3 := NB245_250.out
       have hs65 : w63.cell? ⟨gb245, 1, none⟩ = some (.int .i64 x246001_2) := (blk_cell BK245.out 1).trans rfl
       have hfs65 := blk_frozen BK245.out 1
       have hns65_0 := NB244_245.out
       have hns65_2 := NB249_245.out
       have hns65_3 := NB250_245.out
       have hms65_0 := NB245_244.out
       have hms65_2 := NB245_249.out
       have hms65_3 := NB245_250.out
       refine skip_ (w1 := ?_) (by rfl) rfl ?_ ?_
       rotate_left
       ·go_simp
        rfl
       refine hK.out _ _ ⟨((cell_far (p := ⟨gb245, _, none⟩) NB250_245.out _).trans (((cell_far (p := ⟨gb245, _, none⟩) NB250_245.out _).trans (hHeld.1)))), ((cell_far (p := ⟨gb245, _, none⟩) NB250_245.out _).trans (((cell_far (p := ⟨gb245, _, none⟩) NB250_245.out _).trans (hHeld.2))))⟩ (fun hHeld => ?_)
       clear hK K
       refine pure_ (i := 4) (N := some 12) (v := ?_) (a' := ?_) #[true, true, true, true, true] rfl rfl (by kernel_rfl) (fun _ _ _ h => h) (Or.inl ⟨by rfl, ?_⟩) ?_ ?_
       rotate_left
       ·intro w'
        go_simp
        with_reducible rfl
       rotate_left
       ·simp only [Act.put, List.setIfInBounds_toArray, List.set_cons_zero, List.set_cons_succ, i64_w, i32_w]
        rfl
       refine done_ (by kernel_rfl) ?_
       try go_wp2
       refine bodyPost_ret (results_list (rs := [.tmp 10, .cell 11 25, .tmp 12]) rfl (by simp) (.tmp (.cell gb245 25 #[.int .i64 x251000_2, .int .i64 x251001_2] (0, 0) _ rfl (by (with_reducible repeat (first | refine blk_drewN ?_ _ | refine blk_drew ?_ | refine blk_alloc ?_ _)); refine blk_put (cs := #[.int .i64 x251000_2, .int .i64 x246001_2]) ?_ 1 _ rfl; (with_reducible repeat (first | refine blk_drewN ?_ _ | refine blk_drew ?_ | refine blk_alloc ?_ _)); refine blk_put (cs := #[.int .i64 x246000_2, .int .i64 x246001_2]) ?_ 0 _ rfl; (with_reducible repeat (first | refine blk_drewN ?_ _ | refine blk_drew ?_ | refine blk_alloc ?_ _)); exact BK245.out) Try.underlying25 rfl (by kernel_rfl) (.tmp .nil)))) rfl ?_
       exact ⟨by first | rfl | (simp [errW_none, errW_some] <;> rfl) | (simp [*, errW_none, errW_some] <;> rfl), by repeat (first | (with_reducible first | exact HB.out | apply below_alloc | apply pw_below_drewN | apply below_drew1 | refine below_set ?_ GE244.out | refine below_set ?_ GE245.out | refine below_set ?_ GE249.out | refine below_set ?_ GE250.out) | exact HB.out)⟩

end Go.Proofs.Ytcanccdhedmdmaa.Print
