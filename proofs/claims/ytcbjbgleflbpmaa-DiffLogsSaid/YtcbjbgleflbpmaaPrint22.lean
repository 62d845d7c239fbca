-- PRINTED by print.py (a twelfth state) out of the translation. Not trusted: Lean checks it.
import Derived.Test.YtcbjbgleflbpmaaPrint0
import Derived.Test.YtcbjbgleflbpmaaPrint21
namespace Go.Proofs.Ytcbjbgleflbpmaa.Print
open Go.RowKit Go.Proofs.YtcbjbgleflbpmaaW.PrintWords Go.Proofs.YtcbjbgleflbpmaaW.PrintLast Go.Proofs.YtcbjbgleflbpmaaW.PrintMore Go.Proofs.YtcbjbgleflbpmaaX
attribute [local go_sem] str_lss str_geq max2_int min2_int max_two min_two max_three min_three max_four min_four   -- for this text's walks alone
set_option linter.unusedVariables false
set_option linter.unusedSimpArgs false

/-! ### palletref23_Events: function 10 -/
mutual
def palletref23_Events.j0 : Nat → List (S25) → List (S25) → Int → Int → Int → Int → Int → Int → Int → Int → Int → Int → Int → Int → Option (Int × Int × Int × Int × Int × Int × Int × Int × Int × Int × Int × Int)
 | 0, _, _, _, _, _, _, _, _, _, _, _, _, _, _ => none
 | k + 1, x0, x1, x341000, x341001, x341002, x341003, x341004, x341005, x341006, x341007, x341008, x341009, x341010, x341011 => if x341000 < (x1.length : Int) then (if 0 ≤ x341000 then (palletref23_Events.j1 k x0 x1 x341000 2 x341002 x341003 x341004 x341005 x341006 ((rd_T25 x1 x341000).f0) ((rd_T25 x1 x341000).f1) ((rd_T25 x1 x341000).f2) ((rd_T25 x1 x341000).f3) ((rd_T25 x1 x341000).f4)) else (none)) else (palletref23_Events.j1 k x0 x1 x341000 x341001 x341002 x341003 x341004 x341005 x341006 x341007 x341008 x341009 x341010 x341011)
def palletref23_Events.j1 : Nat → List (S25) → List (S25) → Int → Int → Int → Int → Int → Int → Int → Int → Int → Int → Int → Int → Option (Int × Int × Int × Int × Int × Int × Int × Int × Int × Int × Int × Int)
 | 0, _, _, _, _, _, _, _, _, _, _, _, _, _, _ => none
 | k + 1, x0, x1, x341000, x341001, x341002, x341003, x341004, x341005, x341006, x341007, x341008, x341009, x341010, x341011 => if x341000 < (x0.length : Int) then (palletref23_Events.j2 k (decide (x341000 < (x1.length : Int))) x341000 x341001 x341002 x341003 x341004 x341005 x341006 x341007 x341008 x341009 x341010 x341011) else (palletref23_Events.j2 k false x341000 x341001 x341002 x341003 x341004 x341005 x341006 x341007 x341008 x341009 x341010 x341011)
def palletref23_Events.j2 : Nat → Bool → Int → Int → Int → Int → Int → Int → Int → Int → Int → Int → Int → Int → Option (Int × Int × Int × Int × Int × Int × Int × Int × Int × Int × Int × Int)
 | 0, _, _, _, _, _, _, _, _, _, _, _, _, _ => none
 | k + 1, x45, x341000, x341001, x341002, x341003, x341004, x341005, x341006, x341007, x341008, x341009, x341010, x341011 => if x45 = true then (some (x341000, 1, x341002, x341003, x341004, x341005, x341006, x341007, x341008, x341009, x341010, x341011)) else (some (x341000, x341001, x341002, x341003, x341004, x341005, x341006, x341007, x341008, x341009, x341010, x341011))
end
def palletref23_Events.f (k : Nat) (l0 : List (S25)) (l1 : List (S25)) : Option (Int × Int × Int × Int × Int × Int × Int × Int × Int × Int × Int × Int) := (palletref23_Prefix.f k l0 l1).bind fun t339 => (if t339 < (l0.length : Int) then (if 0 ≤ t339 then (palletref23_Events.j0 k l0 l1 t339 3 ((rd_T25 l0 t339).f0) ((rd_T25 l0 t339).f1) ((rd_T25 l0 t339).f2) ((rd_T25 l0 t339).f3) ((rd_T25 l0 t339).f4) 0 0 0 0 0) else (none)) else (palletref23_Events.j0 k l0 l1 t339 0 0 0 0 0 0 0 0 0 0 0))
theorem palletref23_Events.mono_l : ∀ k, (∀ y0 y1 y2 y3 y4 y5 y6 y7 y8 y9 y10 y11 y12 y13, LeO (palletref23_Events.j0 k y0 y1 y2 y3 y4 y5 y6 y7 y8 y9 y10 y11 y12 y13) (palletref23_Events.j0 (k + 1) y0 y1 y2 y3 y4 y5 y6 y7 y8 y9 y10 y11 y12 y13)) ∧ (∀ y0 y1 y2 y3 y4 y5 y6 y7 y8 y9 y10 y11 y12 y13, LeO (palletref23_Events.j1 k y0 y1 y2 y3 y4 y5 y6 y7 y8 y9 y10 y11 y12 y13) (palletref23_Events.j1 (k + 1) y0 y1 y2 y3 y4 y5 y6 y7 y8 y9 y10 y11 y12 y13)) ∧ (∀ y0 y1 y2 y3 y4 y5 y6 y7 y8 y9 y10 y11 y12, LeO (palletref23_Events.j2 k y0 y1 y2 y3 y4 y5 y6 y7 y8 y9 y10 y11 y12) (palletref23_Events.j2 (k + 1) y0 y1 y2 y3 y4 y5 y6 y7 y8 y9 y10 y11 y12))
 | 0 => ⟨fun _ _ _ _ _ _ _ _ _ _ _ _ _ _ r h => by simp [palletref23_Events.j0] at h, fun _ _ _ _ _ _ _ _ _ _ _ _ _ _ r h => by simp [palletref23_Events.j1] at h, fun _ _ _ _ _ _ _ _ _ _ _ _ _ r h => by simp [palletref23_Events.j2] at h⟩
 | k + 1 => by
  obtain ⟨ih0, ih1, ih2⟩ := palletref23_Events.mono_l k
  refine ⟨?_, ?_, ?_⟩
  ·intro y0 y1 y2 y3 y4 y5 y6 y7 y8 y9 y10 y11 y12 y13
   unfold palletref23_Events.j0
   repeat' first
   | (with_reducible exact ih0 _ _ _ _ _ _ _ _ _ _ _ _ _ _)
   | (with_reducible exact ih1 _ _ _ _ _ _ _ _ _ _ _ _ _ _)
   | (with_reducible exact ih2 _ _ _ _ _ _ _ _ _ _ _ _ _)
   | (with_reducible exact palletref23_Prefix.mono _ _ _)
   | (with_reducible exact LeO.refl _)
   | (with_reducible exact LeO.none _)
   | (with_reducible refine LeO.ite ?_ ?_)
   | (with_reducible refine LeO.bind ?_ (fun _ => ?_))
   | exact ih0 _ _ _ _ _ _ _ _ _ _ _ _ _ _
   | exact ih1 _ _ _ _ _ _ _ _ _ _ _ _ _ _
   | exact ih2 _ _ _ _ _ _ _ _ _ _ _ _ _
   | exact palletref23_Prefix.mono _ _ _
   | exact LeO.none _
   | refine LeO.ite ?_ ?_
   | refine LeO.bind ?_ (fun _ => ?_)
  ·intro y0 y1 y2 y3 y4 y5 y6 y7 y8 y9 y10 y11 y12 y13
   unfold palletref23_Events.j1
   repeat' first
   | (with_reducible exact ih0 _ _ _ _ _ _ _ _ _ _ _ _ _ _)
   | (with_reducible exact ih1 _ _ _ _ _ _ _ _ _ _ _ _ _ _)
   | (with_reducible exact ih2 _ _ _ _ _ _ _ _ _ _ _ _ _)
   | (with_reducible exact palletref23_Prefix.mono _ _ _)
   | (with_reducible exact LeO.refl _)
   | (with_reducible exact LeO.none _)
   | (with_reducible refine LeO.ite ?_ ?_)
   | (with_reducible refine LeO.bind ?_ (fun _ => ?_))
   | exact ih0 _ _ _ _ _ _ _ _ _ _ _ _ _ _
   | exact ih1 _ _ _ _ _ _ _ _ _ _ _ _ _ _
   | exact ih2 _ _ _ _ _ _ _ _ _ _ _ _ _
   | exact palletref23_Prefix.mono _ _ _
   | exact LeO.none _
   | refine LeO.ite ?_ ?_
   | refine LeO.bind ?_ (fun _ => ?_)
  ·intro y0 y1 y2 y3 y4 y5 y6 y7 y8 y9 y10 y11 y12
   unfold palletref23_Events.j2
   repeat' first
   | (with_reducible exact ih0 _ _ _ _ _ _ _ _ _ _ _ _ _ _)
   | (with_reducible exact ih1 _ _ _ _ _ _ _ _ _ _ _ _ _ _)
   | (with_reducible exact ih2 _ _ _ _ _ _ _ _ _ _ _ _ _)
   | (with_reducible exact palletref23_Prefix.mono _ _ _)
   | (with_reducible exact LeO.refl _)
   | (with_reducible exact LeO.none _)
   | (with_reducible refine LeO.ite ?_ ?_)
   | (with_reducible refine LeO.bind ?_ (fun _ => ?_))
   | exact ih0 _ _ _ _ _ _ _ _ _ _ _ _ _ _
   | exact ih1 _ _ _ _ _ _ _ _ _ _ _ _ _ _
   | exact ih2 _ _ _ _ _ _ _ _ _ _ _ _ _
   | exact palletref23_Prefix.mono _ _ _
   | exact LeO.none _
   | refine LeO.ite ?_ ?_
   | refine LeO.bind ?_ (fun _ => ?_)
theorem palletref23_Events.mono : ∀ a0 a1 k, LeO (palletref23_Events.f k a0 a1) (palletref23_Events.f (k + 1) a0 a1) := by
 intro a0 a1 k
 obtain ⟨ih0, ih1, ih2⟩ := palletref23_Events.mono_l k
 unfold palletref23_Events.f
 repeat' first
   | (with_reducible exact ih0 _ _ _ _ _ _ _ _ _ _ _ _ _ _)
   | (with_reducible exact ih1 _ _ _ _ _ _ _ _ _ _ _ _ _ _)
   | (with_reducible exact ih2 _ _ _ _ _ _ _ _ _ _ _ _ _)
   | (with_reducible exact palletref23_Prefix.mono _ _ _)
   | (with_reducible exact LeO.refl _)
   | (with_reducible exact LeO.none _)
   | (with_reducible refine LeO.ite ?_ ?_)
   | (with_reducible refine LeO.bind ?_ (fun _ => ?_))
   | exact ih0 _ _ _ _ _ _ _ _ _ _ _ _ _ _
   | exact ih1 _ _ _ _ _ _ _ _ _ _ _ _ _ _
   | exact ih2 _ _ _ _ _ _ _ _ _ _ _ _ _
   | exact palletref23_Prefix.mono _ _ _
   | exact LeO.none _
   | refine LeO.ite ?_ ?_
   | refine LeO.bind ?_ (fun _ => ?_)
set_option maxHeartbeats 8000000 in
set_option maxRecDepth 100000 in
theorem palletref23_Events.calls (k : Nat) (A0 : Option Addr) (c0 : Nat) (l0 : List (S25)) (A1 : Option Addr) (c1 : Nat) (l1 : List (S25)) (r1 : Int) (r2 : Int) (r3 : Int) (r4 : Int) (r5 : Int) (r6 : Int) (r7 : Int) (r8 : Int) (r9 : Int) (r10 : Int) (r11 : Int) (r12 : Int) (w : World) (hr0 : Kd.C k25 w A0 l0.length l0) (hc0 : l0.length ≤ c0) (hr1 : Kd.C k25 w A1 l1.length l1) (hc1 : l1.length ≤ c1) (h : palletref23_Events.f k l0 l1 = some (r1, r2, r3, r4, r5, r6, r7, r8, r9, r10, r11, r12)) :
  Calls Try.prog 10 #[.slice A0 l0.length c0, .slice A1 l1.length c1] w fun e w' => e = .returned (.agg #[.int .i64 r1, .int .i64 r2, .int .i64 r3, .int .i64 r4, .int .i64 r5, .int .i64 r6, .int .i64 r7, .int .i64 r8, .int .i64 r9, .int .i64 r10, .int .i64 r11, .int .i64 r12]) ∧ Below w.heap.size w w' := by
 have hu27 := Try.underlying27
 have hu25 := Try.underlying25
 have HR0 := Aside0.mk hr0
 have HC0 := Aside0.mk hc0
 clear hr0 hc0
 have HR1 := Aside0.mk hr1
 have HC1 := Aside0.mk hc1
 clear hr1 hc1
 have HB := Aside0.mk (Below.refl w.heap.size w)
 have H : ((palletref23_Prefix.f k l0 l1).bind fun t339 => (if t339 < (l0.length : Int) then (if 0 ≤ t339 then (palletref23_Events.j0 k l0 l1 t339 3 ((rd_T25 l0 t339).f0) ((rd_T25 l0 t339).f1) ((rd_T25 l0 t339).f2) ((rd_T25 l0 t339).f3) ((rd_T25 l0 t339).f4) 0 0 0 0 0) else (none)) else (palletref23_Events.j0 k l0 l1 t339 0 0 0 0 0 0 0 0 0 0 0))) = some (r1, r2, r3, r4, r5, r6, r7, r8, r9, r10, r11, r12) := h
 clear h
 replace H := Option.bind_eq_some_iff.mp H
 obtain ⟨t339, A30, H⟩ := H
 replace H : (if t339 < (l0.length : Int) then (if 0 ≤ t339 then (palletref23_Events.j0 k l0 l1 t339 3 ((rd_T25 l0 t339).f0) ((rd_T25 l0 t339).f1) ((rd_T25 l0 t339).f2) ((rd_T25 l0 t339).f3) ((rd_T25 l0 t339).f4) 0 0 0 0 0) else (none)) else (palletref23_Events.j0 k l0 l1 t339 0 0 0 0 0 0 0 0 0 0 0)) = some (r1, r2, r3, r4, r5, r6, r7, r8, r9, r10, r11, r12) := H
 have A3 := Aside0.mk A30
 clear A30
 have HC4 := Aside0.mk H
 clear H
 go_enter Try.func10, Try.ntmps10
 go_upto_if 14 with (first | ((with_reducible refine gate_dst (N := 4) rfl ?_); (try (refine gate_guard (by rfl) ?_; dsimp only)); refine box_event ?hg (N := 4) ?hd (cs := #[.int .i64 0, .int .i64 0, .int .i64 0, .int .i64 0, .int .i64 0, .int .i64 0, .int .i64 0, .int .i64 0, .int .i64 0, .int .i64 0, .int .i64 0, .int .i64 0]) (t := 27) ?hr ?_; (case hd => rfl); (case hg => rfl); (case hr => first | (go_simp; done) | (go_simp; rfl)); intro gb338 hg w5 hbox hb; have n0_ := Aside0.mk (below_step (by repeat (first | (with_reducible first | exact HB.out | apply below_alloc | apply pw_below_drewN | apply below_drew1) | exact HB.out)) hb); have n1_ := Aside0.mk (hbox); have n2_ := Aside0.mk ((by rw [hg]; exact (below_size (by repeat (first | (with_reducible first | exact HB.out | apply below_alloc | apply pw_below_drewN | apply below_drew1) | exact HB.out))) : w.heap.size ≤ gb338)); have n3_ := Aside0.mk ((by rw [hg]; exact (below_size (by repeat (first | (with_reducible first | exact HB.out | apply below_alloc | apply pw_below_drewN | apply below_drew1) | exact HB.out))) : w.heap.size ≤ gb338)); clear HB; have HB := n0_; have BK338 := n1_; have GW338 := n2_; have GE338 := n3_; clear n0_ n1_ n2_ n3_; clear hb hbox hg) | ((with_reducible refine gate_callee (f := 20) rfl ?_); refine goesL_ (some 8) rfl rfl Try.func20 (by kernel_rfl) rfl #[.slice A0 l0.length c0, .slice A1 l1.length c1] rfl (by (try simp only [List.map_toArray, List.map_cons, List.map_nil]); first | done | rfl | (simp only [List.length_drop, List.length_take]; first | rfl | (rw [Nat.min_eq_left (Int.toNat_le.2 (of_decide_eq_true (by assumption)))]; rfl))) ?_; (with_reducible refine (palletref23_Prefix.calls k _ _ l0 _ _ l1 t339 _ ?side1 ?side2 ?side3 ?side4 A3.out).mono ?_); (case side1 => repeat (first | exact (Kd.C_below HR0.out HB.out) | (with_reducible refine Kd.C_alloc ?_ _) | (with_reducible refine Kd.C_drewN ?_ _) | (with_reducible refine Kd.C_drew ?_))); (case side2 => exact HC0.out); (case side3 => repeat (first | exact (Kd.C_below HR1.out HB.out) | (with_reducible refine Kd.C_alloc ?_ _) | (with_reducible refine Kd.C_drewN ?_ _) | (with_reducible refine Kd.C_drew ?_))); (case side4 => exact HC1.out); rintro e w6 ⟨rfl, hb⟩; refine ⟨_, rfl, ?_⟩; have n0_ := Aside0.mk (blk_below (g := gb338) (o := .cells #[.int .i64 0, .int .i64 0, .int .i64 0, .int .i64 0, .int .i64 0, .int .i64 0, .int .i64 0, .int .i64 0, .int .i64 0, .int .i64 0, .int .i64 0, .int .i64 0] 27 (0, 0)) (by (with_reducible repeat (first | refine blk_drewN ?_ _ | refine blk_drew ?_ | refine blk_alloc ?_ _)); exact BK338.out) hb); have n1_ := Aside0.mk (below_step (by repeat (first | (with_reducible first | exact HB.out | apply below_alloc | apply pw_below_drewN | apply below_drew1 | refine below_set ?_ GE338.out) | exact HB.out)) hb); clear BK338; clear HB; have BK338 := n0_; have HB := n1_; clear n0_ n1_; (try clear hb); (try clear hb2); (try clear hk); (try clear hi)) | ((with_reducible refine gate_dst (N := 5) rfl ?_); (try (refine gate_guard (by rfl) ?_; dsimp only)); refine box_event ?hg (N := 5) ?hd (cs := #[.int .i64 0, .int .i64 0, .int .i64 0, .int .i64 0, .int .i64 0, .int .i64 0, .int .i64 0, .int .i64 0, .int .i64 0, .int .i64 0, .int .i64 0, .int .i64 0]) (t := 27) ?hr ?_; (case hd => rfl); (case hg => rfl); (case hr => first | (go_simp; done) | (go_simp; rfl)); intro gb340 hg w7 hbox hb; have n0_ := Aside0.mk (blk_below (g := gb338) (o := .cells #[.int .i64 0, .int .i64 0, .int .i64 0, .int .i64 0, .int .i64 0, .int .i64 0, .int .i64 0, .int .i64 0, .int .i64 0, .int .i64 0, .int .i64 0, .int .i64 0] 27 (0, 0)) (by (with_reducible repeat (first | refine blk_drewN ?_ _ | refine blk_drew ?_ | refine blk_alloc ?_ _)); exact BK338.out) hb); have n1_ := Aside0.mk (below_step (by repeat (first | (with_reducible first | exact HB.out | apply below_alloc | apply pw_below_drewN | apply below_drew1 | refine below_set ?_ GE338.out) | exact HB.out)) hb); have n2_ := Aside0.mk (hbox); have n3_ := Aside0.mk ((by rw [hg]; exact (below_size (by repeat (first | (with_reducible first | exact HB.out | apply below_alloc | apply pw_below_drewN | apply below_drew1 | refine below_set ?_ GE338.out) | exact HB.out))) : w.heap.size ≤ gb340)); have n4_ := Aside0.mk ((by rw [hg]; exact (below_size (by repeat (first | (with_reducible first | exact HB.out | apply below_alloc | apply pw_below_drewN | apply below_drew1 | refine below_set ?_ GE338.out) | exact HB.out))) : w.heap.size ≤ gb340)); have n5_ := Aside0.mk ((by rw [hg]; exact Nat.ne_of_lt (blk_lt (g := gb338) (o := .cells #[.int .i64 0, .int .i64 0, .int .i64 0, .int .i64 0, .int .i64 0, .int .i64 0, .int .i64 0, .int .i64 0, .int .i64 0, .int .i64 0, .int .i64 0, .int .i64 0] 27 (0, 0)) (by (with_reducible repeat (first | refine blk_drewN ?_ _ | refine blk_drew ?_ | refine blk_alloc ?_ _)); exact BK338.out)) : gb338 ≠ gb340)); have n6_ := Aside0.mk ((by rw [hg]; exact Nat.ne_of_gt (blk_lt (g := gb338) (o := .cells #[.int .i64 0, .int .i64 0, .int .i64 0, .int .i64 0, .int .i64 0, .int .i64 0, .int .i64 0, .int .i64 0, .int .i64 0, .int .i64 0, .int .i64 0, .int .i64 0] 27 (0, 0)) (by (with_reducible repeat (first | refine blk_drewN ?_ _ | refine blk_drew ?_ | refine blk_alloc ?_ _)); exact BK338.out)) : gb340 ≠ gb338)); clear BK338; clear HB; have BK338 := n0_; have HB := n1_; have BK340 := n2_; have GW340 := n3_; have GE340 := n4_; have NB338_340 := n5_; have NB340_338 := n6_; clear n0_ n1_ n2_ n3_ n4_ n5_ n6_; clear hb hbox hg; have hnb8 := NB340_338.out; have hnc8 := NB338_340.out; have hcz9_0 : w7.cell? ⟨gb340, 0, none⟩ = some (.int .i64 0) := (blk_cell BK340.out 0).trans rfl; have hcz9_1 : w7.cell? ⟨gb340, 1, none⟩ = some (.int .i64 0) := (blk_cell BK340.out 1).trans rfl; have hcz9_2 : w7.cell? ⟨gb340, 2, none⟩ = some (.int .i64 0) := (blk_cell BK340.out 2).trans rfl; have hcz9_3 : w7.cell? ⟨gb340, 3, none⟩ = some (.int .i64 0) := (blk_cell BK340.out 3).trans rfl; have hcz9_4 : w7.cell? ⟨gb340, 4, none⟩ = some (.int .i64 0) := (blk_cell BK340.out 4).trans rfl; have hcz9_5 : w7.cell? ⟨gb340, 5, none⟩ = some (.int .i64 0) := (blk_cell BK340.out 5).trans rfl; have hcz9_6 : w7.cell? ⟨gb340, 6, none⟩ = some (.int .i64 0) := (blk_cell BK340.out 6).trans rfl; have hcz9_7 : w7.cell? ⟨gb340, 7, none⟩ = some (.int .i64 0) := (blk_cell BK340.out 7).trans rfl; have hcz9_8 : w7.cell? ⟨gb340, 8, none⟩ = some (.int .i64 0) := (blk_cell BK340.out 8).trans rfl; have hcz9_9 : w7.cell? ⟨gb340, 9, none⟩ = some (.int .i64 0) := (blk_cell BK340.out 9).trans rfl; have hcz9_10 : w7.cell? ⟨gb340, 10, none⟩ = some (.int .i64 0) := (blk_cell BK340.out 10).trans rfl; have hcz9_11 : w7.cell? ⟨gb340, 11, none⟩ = some (.int .i64 0) := (blk_cell BK340.out 11).trans rfl; have hfz9_0 := blk_frozen BK340.out 0; have hfz9_1 := blk_frozen BK340.out 1; have hfz9_2 := blk_frozen BK340.out 2; have hfz9_3 := blk_frozen BK340.out 3; have hfz9_4 := blk_frozen BK340.out 4; have hfz9_5 := blk_frozen BK340.out 5; have hfz9_6 := blk_frozen BK340.out 6; have hfz9_7 := blk_frozen BK340.out 7; have hfz9_8 := blk_frozen BK340.out 8; have hfz9_9 := blk_frozen BK340.out 9; have hfz9_10 := blk_frozen BK340.out 10; have hfz9_11 := blk_frozen BK340.out 11))
 (try simp only [Act.put, List.setIfInBounds_toArray, List.set_cons_zero, List.set_cons_succ])
 go_cut [] (fun wc => ∃ (kq : Nat) (x341001_3 : Int) (x341002_3 : Int) (x341003_3 : Int) (x341004_3 : Int) (x341005_3 : Int) (x341006_3 : Int), Aside0 (palletref23_Events.j0 kq l0 l1 t339 x341001_3 x341002_3 x341003_3 x341004_3 x341005_3 x341006_3 0 0 0 0 0 = some (r1, r2, r3, r4, r5, r6, r7, r8, r9, r10, r11, r12)) ∧ Aside0 (kq ≤ k) ∧ Aside0 (wc.heap[gb338]? = some (.cells #[.int .i64 0, .int .i64 0, .int .i64 0, .int .i64 0, .int .i64 0, .int .i64 0, .int .i64 0, .int .i64 0, .int .i64 0, .int .i64 0, .int .i64 0, .int .i64 0] 27 (0, 0))) ∧ Aside0 (wc.heap[gb340]? = some (.cells #[.int .i64 t339, .int .i64 x341001_3, .int .i64 x341002_3, .int .i64 x341003_3, .int .i64 x341004_3, .int .i64 x341005_3, .int .i64 x341006_3, .int .i64 0, .int .i64 0, .int .i64 0, .int .i64 0, .int .i64 0] 27 (0, 0))) ∧ Aside0 (Below w.heap.size w wc))
 case first =>
  have H := HC4.out
  clear HC4
  by_cases c10 : t339 < (l0.length : Int)
  ·rw [if_pos c10] at H
   have c10b0 : decide (t339 < (l0.length : Int)) = true := decide_eq_true c10
   clear c10
   (first | rw [c10b0] | (simp only [i64_w, i32_w]; rw [c10b0]) | skip)
   by_cases c11 : 0 ≤ t339
   ·rw [if_pos c11] at H
    have c11b0 : decide (0 ≤ t339) = true := decide_eq_true c11
    clear c11
    have H' := Aside0.mk H
    clear H
    have hnb12 := NB340_338.out
    have hnc12 := NB338_340.out
    have hcz13_0 : w7.cell? ⟨gb340, 0, none⟩ = some (.int .i64 0) := (blk_cell BK340.out 0).trans rfl
    have hcz13_1 : w7.cell? ⟨gb340, 1, none⟩ = some (.int .i64 0) := (blk_cell BK340.out 1).trans rfl
    have hcz13_2 : w7.cell? ⟨gb340, 2, none⟩ = some (.int .i64 0) := (blk_cell BK340.out 2).trans rfl
    have hcz13_3 : w7.cell? ⟨gb340, 3, none⟩ = some (.int .i64 0) := (blk_cell BK340.out 3).trans rfl
    have hcz13_4 : w7.cell? ⟨gb340, 4, none⟩ = some (.int .i64 0) := (blk_cell BK340.out 4).trans rfl
    have hcz13_5 : w7.cell? ⟨gb340, 5, none⟩ = some (.int .i64 0) := (blk_cell BK340.out 5).trans rfl
    have hcz13_6 : w7.cell? ⟨gb340, 6, none⟩ = some (.int .i64 0) := (blk_cell BK340.out 6).trans rfl
    have hcz13_7 : w7.cell? ⟨gb340, 7, none⟩ = some (.int .i64 0) := (blk_cell BK340.out 7).trans rfl
    have hcz13_8 : w7.cell? ⟨gb340, 8, none⟩ = some (.int .i64 0) := (blk_cell BK340.out 8).trans rfl
    have hcz13_9 : w7.cell? ⟨gb340, 9, none⟩ = some (.int .i64 0) := (blk_cell BK340.out 9).trans rfl
    have hcz13_10 : w7.cell? ⟨gb340, 10, none⟩ = some (.int .i64 0) := (blk_cell BK340.out 10).trans rfl
    have hcz13_11 : w7.cell? ⟨gb340, 11, none⟩ = some (.int .i64 0) := (blk_cell BK340.out 11).trans rfl
    have hfz13_0 := blk_frozen BK340.out 0
    have hfz13_1 := blk_frozen BK340.out 1
    have hfz13_2 := blk_frozen BK340.out 2
    have hfz13_3 := blk_frozen BK340.out 3
    have hfz13_4 := blk_frozen BK340.out 4
    have hfz13_5 := blk_frozen BK340.out 5
    have hfz13_6 := blk_frozen BK340.out 6
    have hfz13_7 := blk_frozen BK340.out 7
    have hfz13_8 := blk_frozen BK340.out 8
    have hfz13_9 := blk_frozen BK340.out 9
    have hfz13_10 := blk_frozen BK340.out 10
    have hfz13_11 := blk_frozen BK340.out 11
    have p341 : 0 ≤ (t339 : Int) := of_decide_eq_true (by first | (with_reducible assumption) | assumption)
    have q341 : t339 < (l0.length : Int) := of_decide_eq_true (by first | (with_reducible assumption) | assumption)
    obtain ⟨ad341, e341, hx341_0, hx341_1, hx341_2, hx341_3, hx341_4⟩ := at_T25 HR0.out t339 p341 q341
    cases e341
    have hn341_0 : ad341.block ≠ gb340 := Nat.ne_of_lt (Nat.lt_of_lt_of_le (by have := World.block_lt_of_cell? _ _ hx341_0; first | rwa [add_block] at this | exact this) GW340.out)
    have hn341_1 : ad341.block ≠ gb340 := Nat.ne_of_lt (Nat.lt_of_lt_of_le (by have := World.block_lt_of_cell? _ _ hx341_0; first | rwa [add_block] at this | exact this) GW340.out)
    have hn341_2 : ad341.block ≠ gb340 := Nat.ne_of_lt (Nat.lt_of_lt_of_le (by have := World.block_lt_of_cell? _ _ hx341_0; first | rwa [add_block] at this | exact this) GW340.out)
    have hn341_3 : ad341.block ≠ gb340 := Nat.ne_of_lt (Nat.lt_of_lt_of_le (by have := World.block_lt_of_cell? _ _ hx341_0; first | rwa [add_block] at this | exact this) GW340.out)
    have hn341_4 : ad341.block ≠ gb340 := Nat.ne_of_lt (Nat.lt_of_lt_of_le (by have := World.block_lt_of_cell? _ _ hx341_0; first | rwa [add_block] at this | exact this) GW340.out)
    have hn341_5 : ad341.block ≠ gb340 := Nat.ne_of_lt (Nat.lt_of_lt_of_le (by have := World.block_lt_of_cell? _ _ hx341_0; first | rwa [add_block] at this | exact this) GW340.out)
    have hn341_6 : ad341.block ≠ gb340 := Nat.ne_of_lt (Nat.lt_of_lt_of_le (by have := World.block_lt_of_cell? _ _ hx341_0; first | rwa [add_block] at this | exact this) GW340.out)
    have hn341_7 : ad341.block ≠ gb340 := Nat.ne_of_lt (Nat.lt_of_lt_of_le (by have := World.block_lt_of_cell? _ _ hx341_0; first | rwa [add_block] at this | exact this) GW340.out)
    have hn341_8 : ad341.block ≠ gb340 := Nat.ne_of_lt (Nat.lt_of_lt_of_le (by have := World.block_lt_of_cell? _ _ hx341_0; first | rwa [add_block] at this | exact this) GW340.out)
    have hn341_9 : ad341.block ≠ gb340 := Nat.ne_of_lt (Nat.lt_of_lt_of_le (by have := World.block_lt_of_cell? _ _ hx341_0; first | rwa [add_block] at this | exact this) GW340.out)
    have hn341_10 : ad341.block ≠ gb340 := Nat.ne_of_lt (Nat.lt_of_lt_of_le (by have := World.block_lt_of_cell? _ _ hx341_0; first | rwa [add_block] at this | exact this) GW340.out)
    have hn341_11 : ad341.block ≠ gb340 := Nat.ne_of_lt (Nat.lt_of_lt_of_le (by have := World.block_lt_of_cell? _ _ hx341_0; first | rwa [add_block] at this | exact this) GW340.out)
    replace hx341_0 := (HB.out.cell (World.block_lt_of_cell? w _ hx341_0)).trans hx341_0
    replace hx341_1 := (HB.out.cell (World.block_lt_of_cell? w _ hx341_1)).trans hx341_1
    replace hx341_2 := (HB.out.cell (World.block_lt_of_cell? w _ hx341_2)).trans hx341_2
    replace hx341_3 := (HB.out.cell (World.block_lt_of_cell? w _ hx341_3)).trans hx341_3
    replace hx341_4 := (HB.out.cell (World.block_lt_of_cell? w _ hx341_4)).trans hx341_4
    replace hx341_0 := (cell_far (p := ⟨gb340, 0, none⟩) (by first | (rw [add_block]; exact hn341_0) | (show (Addr.add _ _).block ≠ _; rw [add_block]; exact hn341_0) | exact hn341_0) (.int .i64 t339)).trans hx341_0
    replace hx341_1 := (cell_far (p := ⟨gb340, 0, none⟩) (by first | (rw [add_block]; exact hn341_0) | (show (Addr.add _ _).block ≠ _; rw [add_block]; exact hn341_0) | exact hn341_0) (.int .i64 t339)).trans hx341_1
    replace hx341_2 := (cell_far (p := ⟨gb340, 0, none⟩) (by first | (rw [add_block]; exact hn341_0) | (show (Addr.add _ _).block ≠ _; rw [add_block]; exact hn341_0) | exact hn341_0) (.int .i64 t339)).trans hx341_2
    replace hx341_3 := (cell_far (p := ⟨gb340, 0, none⟩) (by first | (rw [add_block]; exact hn341_0) | (show (Addr.add _ _).block ≠ _; rw [add_block]; exact hn341_0) | exact hn341_0) (.int .i64 t339)).trans hx341_3
    replace hx341_4 := (cell_far (p := ⟨gb340, 0, none⟩) (by first | (rw [add_block]; exact hn341_0) | (show (Addr.add _ _).block ≠ _; rw [add_block]; exact hn341_0) | exact hn341_0) (.int .i64 t339)).trans hx341_4
    replace hx341_0 := (cell_far (p := ⟨gb340, 1, none⟩) (by first | (rw [add_block]; exact hn341_1) | (show (Addr.add _ _).block ≠ _; rw [add_block]; exact hn341_1) | exact hn341_1) (.int .i64 0)).trans hx341_0
    replace hx341_1 := (cell_far (p := ⟨gb340, 1, none⟩) (by first | (rw [add_block]; exact hn341_1) | (show (Addr.add _ _).block ≠ _; rw [add_block]; exact hn341_1) | exact hn341_1) (.int .i64 0)).trans hx341_1
    replace hx341_2 := (cell_far (p := ⟨gb340, 1, none⟩) (by first | (rw [add_block]; exact hn341_1) | (show (Addr.add _ _).block ≠ _; rw [add_block]; exact hn341_1) | exact hn341_1) (.int .i64 0)).trans hx341_2
    replace hx341_3 := (cell_far (p := ⟨gb340, 1, none⟩) (by first | (rw [add_block]; exact hn341_1) | (show (Addr.add _ _).block ≠ _; rw [add_block]; exact hn341_1) | exact hn341_1) (.int .i64 0)).trans hx341_3
    replace hx341_4 := (cell_far (p := ⟨gb340, 1, none⟩) (by first | (rw [add_block]; exact hn341_1) | (show (Addr.add _ _).block ≠ _; rw [add_block]; exact hn341_1) | exact hn341_1) (.int .i64 0)).trans hx341_4
    replace hx341_0 := (cell_far (p := ⟨gb340, 2, none⟩) (by first | (rw [add_block]; exact hn341_2) | (show (Addr.add _ _).block ≠ _; rw [add_block]; exact hn341_2) | exact hn341_2) (.int .i64 0)).trans hx341_0
    replace hx341_1 := (cell_far (p := ⟨gb340, 2, none⟩) (by first | (rw [add_block]; exact hn341_2) | (show (Addr.add _ _).block ≠ _; rw [add_block]; exact hn341_2) | exact hn341_2) (.int .i64 0)).trans hx341_1
    replace hx341_2 := (cell_far (p := ⟨gb340, 2, none⟩) (by first | (rw [add_block]; exact hn341_2) | (show (Addr.add _ _).block ≠ _; rw [add_block]; exact hn341_2) | exact hn341_2) (.int .i64 0)).trans hx341_2
    replace hx341_3 := (cell_far (p := ⟨gb340, 2, none⟩) (by first | (rw [add_block]; exact hn341_2) | (show (Addr.add _ _).block ≠ _; rw [add_block]; exact hn341_2) | exact hn341_2) (.int .i64 0)).trans hx341_3
    replace hx341_4 := (cell_far (p := ⟨gb340, 2, none⟩) (by first | (rw [add_block]; exact hn341_2) | (show (Addr.add _ _).block ≠ _; rw [add_block]; exact hn341_2) | exact hn341_2) (.int .i64 0)).trans hx341_4
    replace hx341_0 := (cell_far (p := ⟨gb340, 3, none⟩) (by first | (rw [add_block]; exact hn341_3) | (show (Addr.add _ _).block ≠ _; rw [add_block]; exact hn341_3) | exact hn341_3) (.int .i64 0)).trans hx341_0
    replace hx341_1 := (cell_far (p := ⟨gb340, 3, none⟩) (by first | (rw [add_block]; exact hn341_3) | (show (Addr.add _ _).block ≠ _; rw [add_block]; exact hn341_3) | exact hn341_3) (.int .i64 0)).trans hx341_1
    replace hx341_2 := (cell_far (p := ⟨gb340, 3, none⟩) (by first | (rw [add_block]; exact hn341_3) | (show (Addr.add _ _).block ≠ _; rw [add_block]; exact hn341_3) | exact hn341_3) (.int .i64 0)).trans hx341_2
    replace hx341_3 := (cell_far (p := ⟨gb340, 3, none⟩) (by first | (rw [add_block]; exact hn341_3) | (show (Addr.add _ _).block ≠ _; rw [add_block]; exact hn341_3) | exact hn341_3) (.int .i64 0)).trans hx341_3
    replace hx341_4 := (cell_far (p := ⟨gb340, 3, none⟩) (by first | (rw [add_block]; exact hn341_3) | (show (Addr.add _ _).block ≠ _; rw [add_block]; exact hn341_3) | exact hn341_3) (.int .i64 0)).trans hx341_4
    replace hx341_0 := (cell_far (p := ⟨gb340, 4, none⟩) (by first | (rw [add_block]; exact hn341_4) | (show (Addr.add _ _).block ≠ _; rw [add_block]; exact hn341_4) | exact hn341_4) (.int .i64 0)).trans hx341_0
    replace hx341_1 := (cell_far (p := ⟨gb340, 4, none⟩) (by first | (rw [add_block]; exact hn341_4) | (show (Addr.add _ _).block ≠ _; rw [add_block]; exact hn341_4) | exact hn341_4) (.int .i64 0)).trans hx341_1
    replace hx341_2 := (cell_far (p := ⟨gb340, 4, none⟩) (by first | (rw [add_block]; exact hn341_4) | (show (Addr.add _ _).block ≠ _; rw [add_block]; exact hn341_4) | exact hn341_4) (.int .i64 0)).trans hx341_2
    replace hx341_3 := (cell_far (p := ⟨gb340, 4, none⟩) (by first | (rw [add_block]; exact hn341_4) | (show (Addr.add _ _).block ≠ _; rw [add_block]; exact hn341_4) | exact hn341_4) (.int .i64 0)).trans hx341_3
    replace hx341_4 := (cell_far (p := ⟨gb340, 4, none⟩) (by first | (rw [add_block]; exact hn341_4) | (show (Addr.add _ _).block ≠ _; rw [add_block]; exact hn341_4) | exact hn341_4) (.int .i64 0)).trans hx341_4
    replace hx341_0 := (cell_far (p := ⟨gb340, 5, none⟩) (by first | (rw [add_block]; exact hn341_5) | (show (Addr.add _ _).block ≠ _; rw [add_block]; exact hn341_5) | exact hn341_5) (.int .i64 0)).trans hx341_0
    replace hx341_1 := (cell_far (p := ⟨gb340, 5, none⟩) (by first | (rw [add_block]; exact hn341_5) | (show (Addr.add _ _).block ≠ _; rw [add_block]; exact hn341_5) | exact hn341_5) (.int .i64 0)).trans hx341_1
    replace hx341_2 := (cell_far (p := ⟨gb340, 5, none⟩) (by first | (rw [add_block]; exact hn341_5) | (show (Addr.add _ _).block ≠ _; rw [add_block]; exact hn341_5) | exact hn341_5) (.int .i64 0)).trans hx341_2
    replace hx341_3 := (cell_far (p := ⟨gb340, 5, none⟩) (by first | (rw [add_block]; exact hn341_5) | (show (Addr.add _ _).block ≠ _; rw [add_block]; exact hn341_5) | exact hn341_5) (.int .i64 0)).trans hx341_3
    replace hx341_4 := (cell_far (p := ⟨gb340, 5, none⟩) (by first | (rw [add_block]; exact hn341_5) | (show (Addr.add _ _).block ≠ _; rw [add_block]; exact hn341_5) | exact hn341_5) (.int .i64 0)).trans hx341_4
    replace hx341_0 := (cell_far (p := ⟨gb340, 6, none⟩) (by first | (rw [add_block]; exact hn341_6) | (show (Addr.add _ _).block ≠ _; rw [add_block]; exact hn341_6) | exact hn341_6) (.int .i64 0)).trans hx341_0
    replace hx341_1 := (cell_far (p := ⟨gb340, 6, none⟩) (by first | (rw [add_block]; exact hn341_6) | (show (Addr.add _ _).block ≠ _; rw [add_block]; exact hn341_6) | exact hn341_6) (.int .i64 0)).trans hx341_1
    replace hx341_2 := (cell_far (p := ⟨gb340, 6, none⟩) (by first | (rw [add_block]; exact hn341_6) | (show (Addr.add _ _).block ≠ _; rw [add_block]; exact hn341_6) | exact hn341_6) (.int .i64 0)).trans hx341_2
    replace hx341_3 := (cell_far (p := ⟨gb340, 6, none⟩) (by first | (rw [add_block]; exact hn341_6) | (show (Addr.add _ _).block ≠ _; rw [add_block]; exact hn341_6) | exact hn341_6) (.int .i64 0)).trans hx341_3
    replace hx341_4 := (cell_far (p := ⟨gb340, 6, none⟩) (by first | (rw [add_block]; exact hn341_6) | (show (Addr.add _ _).block ≠ _; rw [add_block]; exact hn341_6) | exact hn341_6) (.int .i64 0)).trans hx341_4
    replace hx341_0 := (cell_far (p := ⟨gb340, 7, none⟩) (by first | (rw [add_block]; exact hn341_7) | (show (Addr.add _ _).block ≠ _; rw [add_block]; exact hn341_7) | exact hn341_7) (.int .i64 0)).trans hx341_0
    replace hx341_1 := (cell_far (p := ⟨gb340, 7, none⟩) (by first | (rw [add_block]; exact hn341_7) | (show (Addr.add _ _).block ≠ _; rw [add_block]; exact hn341_7) | exact hn341_7) (.int .i64 0)).trans hx341_1
    replace hx341_2 := (cell_far (p := ⟨gb340, 7, none⟩) (by first | (rw [add_block]; exact hn341_7) | (show (Addr.add _ _).block ≠ _; rw [add_block]; exact hn341_7) | exact hn341_7) (.int .i64 0)).trans hx341_2
    replace hx341_3 := (cell_far (p := ⟨gb340, 7, none⟩) (by first | (rw [add_block]; exact hn341_7) | (show (Addr.add _ _).block ≠ _; rw [add_block]; exact hn341_7) | exact hn341_7) (.int .i64 0)).trans hx341_3
    replace hx341_4 := (cell_far (p := ⟨gb340, 7, none⟩) (by first | (rw [add_block]; exact hn341_7) | (show (Addr.add _ _).block ≠ _; rw [add_block]; exact hn341_7) | exact hn341_7) (.int .i64 0)).trans hx341_4
    replace hx341_0 := (cell_far (p := ⟨gb340, 8, none⟩) (by first | (rw [add_block]; exact hn341_8) | (show (Addr.add _ _).block ≠ _; rw [add_block]; exact hn341_8) | exact hn341_8) (.int .i64 0)).trans hx341_0
    replace hx341_1 := (cell_far (p := ⟨gb340, 8, none⟩) (by first | (rw [add_block]; exact hn341_8) | (show (Addr.add _ _).block ≠ _; rw [add_block]; exact hn341_8) | exact hn341_8) (.int .i64 0)).trans hx341_1
    replace hx341_2 := (cell_far (p := ⟨gb340, 8, none⟩) (by first | (rw [add_block]; exact hn341_8) | (show (Addr.add _ _).block ≠ _; rw [add_block]; exact hn341_8) | exact hn341_8) (.int .i64 0)).trans hx341_2
    replace hx341_3 := (cell_far (p := ⟨gb340, 8, none⟩) (by first | (rw [add_block]; exact hn341_8) | (show (Addr.add _ _).block ≠ _; rw [add_block]; exact hn341_8) | exact hn341_8) (.int .i64 0)).trans hx341_3
    replace hx341_4 := (cell_far (p := ⟨gb340, 8, none⟩) (by first | (rw [add_block]; exact hn341_8) | (show (Addr.add _ _).block ≠ _; rw [add_block]; exact hn341_8) | exact hn341_8) (.int .i64 0)).trans hx341_4
    replace hx341_0 := (cell_far (p := ⟨gb340, 9, none⟩) (by first | (rw [add_block]; exact hn341_9) | (show (Addr.add _ _).block ≠ _; rw [add_block]; exact hn341_9) | exact hn341_9) (.int .i64 0)).trans hx341_0
    replace hx341_1 := (cell_far (p := ⟨gb340, 9, none⟩) (by first | (rw [add_block]; exact hn341_9) | (show (Addr.add _ _).block ≠ _; rw [add_block]; exact hn341_9) | exact hn341_9) (.int .i64 0)).trans hx341_1
    replace hx341_2 := (cell_far (p := ⟨gb340, 9, none⟩) (by first | (rw [add_block]; exact hn341_9) | (show (Addr.add _ _).block ≠ _; rw [add_block]; exact hn341_9) | exact hn341_9) (.int .i64 0)).trans hx341_2
    replace hx341_3 := (cell_far (p := ⟨gb340, 9, none⟩) (by first | (rw [add_block]; exact hn341_9) | (show (Addr.add _ _).block ≠ _; rw [add_block]; exact hn341_9) | exact hn341_9) (.int .i64 0)).trans hx341_3
    replace hx341_4 := (cell_far (p := ⟨gb340, 9, none⟩) (by first | (rw [add_block]; exact hn341_9) | (show (Addr.add _ _).block ≠ _; rw [add_block]; exact hn341_9) | exact hn341_9) (.int .i64 0)).trans hx341_4
    replace hx341_0 := (cell_far (p := ⟨gb340, 10, none⟩) (by first | (rw [add_block]; exact hn341_10) | (show (Addr.add _ _).block ≠ _; rw [add_block]; exact hn341_10) | exact hn341_10) (.int .i64 0)).trans hx341_0
    replace hx341_1 := (cell_far (p := ⟨gb340, 10, none⟩) (by first | (rw [add_block]; exact hn341_10) | (show (Addr.add _ _).block ≠ _; rw [add_block]; exact hn341_10) | exact hn341_10) (.int .i64 0)).trans hx341_1
    replace hx341_2 := (cell_far (p := ⟨gb340, 10, none⟩) (by first | (rw [add_block]; exact hn341_10) | (show (Addr.add _ _).block ≠ _; rw [add_block]; exact hn341_10) | exact hn341_10) (.int .i64 0)).trans hx341_2
    replace hx341_3 := (cell_far (p := ⟨gb340, 10, none⟩) (by first | (rw [add_block]; exact hn341_10) | (show (Addr.add _ _).block ≠ _; rw [add_block]; exact hn341_10) | exact hn341_10) (.int .i64 0)).trans hx341_3
    replace hx341_4 := (cell_far (p := ⟨gb340, 10, none⟩) (by first | (rw [add_block]; exact hn341_10) | (show (Addr.add _ _).block ≠ _; rw [add_block]; exact hn341_10) | exact hn341_10) (.int .i64 0)).trans hx341_4
    replace hx341_0 := (cell_far (p := ⟨gb340, 11, none⟩) (by first | (rw [add_block]; exact hn341_11) | (show (Addr.add _ _).block ≠ _; rw [add_block]; exact hn341_11) | exact hn341_11) (.int .i64 0)).trans hx341_0
    replace hx341_1 := (cell_far (p := ⟨gb340, 11, none⟩) (by first | (rw [add_block]; exact hn341_11) | (show (Addr.add _ _).block ≠ _; rw [add_block]; exact hn341_11) | exact hn341_11) (.int .i64 0)).trans hx341_1
    replace hx341_2 := (cell_far (p := ⟨gb340, 11, none⟩) (by first | (rw [add_block]; exact hn341_11) | (show (Addr.add _ _).block ≠ _; rw [add_block]; exact hn341_11) | exact hn341_11) (.int .i64 0)).trans hx341_2
    replace hx341_3 := (cell_far (p := ⟨gb340, 11, none⟩) (by first | (rw [add_block]; exact hn341_11) | (show (Addr.add _ _).block ≠ _; rw [add_block]; exact hn341_11) | exact hn341_11) (.int .i64 0)).trans hx341_3
    replace hx341_4 := (cell_far (p := ⟨gb340, 11, none⟩) (by first | (rw [add_block]; exact hn341_11) | (show (Addr.add _ _).block ≠ _; rw [add_block]; exact hn341_11) | exact hn341_11) (.int .i64 0)).trans hx341_4
    clear hn341_0
    clear hn341_1
    clear hn341_2
    clear hn341_3
    clear hn341_4
    clear hn341_5
    clear hn341_6
    clear hn341_7
    clear hn341_8
    clear hn341_9
    clear hn341_10
    clear hn341_11
    replace p341 := eq_true p341
    replace q341 := eq_true q341
    go_wp2
    go_meet
    case rel => exact ⟨_, (3), ((rd_T25 l0 t339).f0), ((rd_T25 l0 t339).f1), ((rd_T25 l0 t339).f2), ((rd_T25 l0 t339).f3), ((rd_T25 l0 t339).f4), H', ⟨by first | omega | exact Nat.le_refl _⟩, ⟨by (with_reducible repeat (first | refine blk_drewN ?_ _ | refine blk_drew ?_ | refine blk_alloc ?_ _)); refine blk_far ?_ NB338_340.out _; (with_reducible repeat (first | refine blk_drewN ?_ _ | refine blk_drew ?_ | refine blk_alloc ?_ _)); refine blk_far ?_ NB338_340.out _; (with_reducible repeat (first | refine blk_drewN ?_ _ | refine blk_drew ?_ | refine blk_alloc ?_ _)); refine blk_far ?_ NB338_340.out _; (with_reducible repeat (first | refine blk_drewN ?_ _ | refine blk_drew ?_ | refine blk_alloc ?_ _)); refine blk_far ?_ NB338_340.out _; (with_reducible repeat (first | refine blk_drewN ?_ _ | refine blk_drew ?_ | refine blk_alloc ?_ _)); refine blk_far ?_ NB338_340.out _; (with_reducible repeat (first | refine blk_drewN ?_ _ | refine blk_drew ?_ | refine blk_alloc ?_ _)); refine blk_far ?_ NB338_340.out _; (with_reducible repeat (first | refine blk_drewN ?_ _ | refine blk_drew ?_ | refine blk_alloc ?_ _)); refine blk_far ?_ NB338_340.out _; (with_reducible repeat (first | refine blk_drewN ?_ _ | refine blk_drew ?_ | refine blk_alloc ?_ _)); refine blk_far ?_ NB338_340.out _; (with_reducible repeat (first | refine blk_drewN ?_ _ | refine blk_drew ?_ | refine blk_alloc ?_ _)); refine blk_far ?_ NB338_340.out _; (with_reducible repeat (first | refine blk_drewN ?_ _ | refine blk_drew ?_ | refine blk_alloc ?_ _)); refine blk_far ?_ NB338_340.out _; (with_reducible repeat (first | refine blk_drewN ?_ _ | refine blk_drew ?_ | refine blk_alloc ?_ _)); refine blk_far ?_ NB338_340.out _; (with_reducible repeat (first | refine blk_drewN ?_ _ | refine blk_drew ?_ | refine blk_alloc ?_ _)); refine blk_far ?_ NB338_340.out _; (with_reducible repeat (first | refine blk_drewN ?_ _ | refine blk_drew ?_ | refine blk_alloc ?_ _)); refine blk_far ?_ NB338_340.out _; (with_reducible repeat (first | refine blk_drewN ?_ _ | refine blk_drew ?_ | refine blk_alloc ?_ _)); refine blk_far ?_ NB338_340.out _; (with_reducible repeat (first | refine blk_drewN ?_ _ | refine blk_drew ?_ | refine blk_alloc ?_ _)); refine blk_far ?_ NB338_340.out _; (with_reducible repeat (first | refine blk_drewN ?_ _ | refine blk_drew ?_ | refine blk_alloc ?_ _)); refine blk_far ?_ NB338_340.out _; (with_reducible repeat (first | refine blk_drewN ?_ _ | refine blk_drew ?_ | refine blk_alloc ?_ _)); refine blk_far ?_ NB338_340.out _; (with_reducible repeat (first | refine blk_drewN ?_ _ | refine blk_drew ?_ | refine blk_alloc ?_ _)); refine blk_far ?_ NB338_340.out _; (with_reducible repeat (first | refine blk_drewN ?_ _ | refine blk_drew ?_ | refine blk_alloc ?_ _)); exact BK338.out⟩, ⟨by (with_reducible repeat (first | refine blk_drewN ?_ _ | refine blk_drew ?_ | refine blk_alloc ?_ _)); refine blk_put (cs := #[.int .i64 t339, .int .i64 0, .int .i64 ((rd_T25 l0 t339).f0), .int .i64 ((rd_T25 l0 t339).f1), .int .i64 ((rd_T25 l0 t339).f2), .int .i64 ((rd_T25 l0 t339).f3), .int .i64 ((rd_T25 l0 t339).f4), .int .i64 0, .int .i64 0, .int .i64 0, .int .i64 0, .int .i64 0]) ?_ 1 _ rfl; (with_reducible repeat (first | refine blk_drewN ?_ _ | refine blk_drew ?_ | refine blk_alloc ?_ _)); refine blk_put (cs := #[.int .i64 t339, .int .i64 0, .int .i64 ((rd_T25 l0 t339).f0), .int .i64 ((rd_T25 l0 t339).f1), .int .i64 ((rd_T25 l0 t339).f2), .int .i64 ((rd_T25 l0 t339).f3), .int .i64 0, .int .i64 0, .int .i64 0, .int .i64 0, .int .i64 0, .int .i64 0]) ?_ 6 _ rfl; (with_reducible repeat (first | refine blk_drewN ?_ _ | refine blk_drew ?_ | refine blk_alloc ?_ _)); refine blk_put (cs := #[.int .i64 t339, .int .i64 0, .int .i64 ((rd_T25 l0 t339).f0), .int .i64 ((rd_T25 l0 t339).f1), .int .i64 ((rd_T25 l0 t339).f2), .int .i64 0, .int .i64 0, .int .i64 0, .int .i64 0, .int .i64 0, .int .i64 0, .int .i64 0]) ?_ 5 _ rfl; (with_reducible repeat (first | refine blk_drewN ?_ _ | refine blk_drew ?_ | refine blk_alloc ?_ _)); refine blk_put (cs := #[.int .i64 t339, .int .i64 0, .int .i64 ((rd_T25 l0 t339).f0), .int .i64 ((rd_T25 l0 t339).f1), .int .i64 0, .int .i64 0, .int .i64 0, .int .i64 0, .int .i64 0, .int .i64 0, .int .i64 0, .int .i64 0]) ?_ 4 _ rfl; (with_reducible repeat (first | refine blk_drewN ?_ _ | refine blk_drew ?_ | refine blk_alloc ?_ _)); refine blk_put (cs := #[.int .i64 t339, .int .i64 0, .int .i64 ((rd_T25 l0 t339).f0), .int .i64 0, .int .i64 0, .int .i64 0, .int .i64 0, .int .i64 0, .int .i64 0, .int .i64 0, .int .i64 0, .int .i64 0]) ?_ 3 _ rfl; (with_reducible repeat (first | refine blk_drewN ?_ _ | refine blk_drew ?_ | refine blk_alloc ?_ _)); refine blk_put (cs := #[.int .i64 t339, .int .i64 0, .int .i64 0, .int .i64 0, .int .i64 0, .int .i64 0, .int .i64 0, .int .i64 0, .int .i64 0, .int .i64 0, .int .i64 0, .int .i64 0]) ?_ 2 _ rfl; (with_reducible repeat (first | refine blk_drewN ?_ _ | refine blk_drew ?_ | refine blk_alloc ?_ _)); refine blk_put (cs := #[.int .i64 t339, .int .i64 0, .int .i64 0, .int .i64 0, .int .i64 0, .int .i64 0, .int .i64 0, .int .i64 0, .int .i64 0, .int .i64 0, .int .i64 0, .int .i64 0]) ?_ 11 _ rfl; (with_reducible repeat (first | refine blk_drewN ?_ _ | refine blk_drew ?_ | refine blk_alloc ?_ _)); refine blk_put (cs := #[.int .i64 t339, .int .i64 0, .int .i64 0, .int .i64 0, .int .i64 0, .int .i64 0, .int .i64 0, .int .i64 0, .int .i64 0, .int .i64 0, .int .i64 0, .int .i64 0]) ?_ 10 _ rfl; (with_reducible repeat (first | refine blk_drewN ?_ _ | refine blk_drew ?_ | refine blk_alloc ?_ _)); refine blk_put (cs := #[.int .i64 t339, .int .i64 0, .int .i64 0, .int .i64 0, .int .i64 0, .int .i64 0, .int .i64 0, .int .i64 0, .int .i64 0, .int .i64 0, .int .i64 0, .int .i64 0]) ?_ 9 _ rfl; (with_reducible repeat (first | refine blk_drewN ?_ _ | refine blk_drew ?_ | refine blk_alloc ?_ _)); refine blk_put (cs := #[.int .i64 t339, .int .i64 0, .int .i64 0, .int .i64 0, .int .i64 0, .int .i64 0, .int .i64 0, .int .i64 0, .int .i64 0, .int .i64 0, .int .i64 0, .int .i64 0]) ?_ 8 _ rfl; (with_reducible repeat (first | refine blk_drewN ?_ _ | refine blk_drew ?_ | refine blk_alloc ?_ _)); refine blk_put (cs := #[.int .i64 t339, .int .i64 0, .int .i64 0, .int .i64 0, .int .i64 0, .int .i64 0, .int .i64 0, .int .i64 0, .int .i64 0, .int .i64 0, .int .i64 0, .int .i64 0]) ?_ 7 _ rfl; (with_reducible repeat (first | refine blk_drewN ?_ _ | refine blk_drew ?_ | refine blk_alloc ?_ _)); refine blk_put (cs := #[.int .i64 t339, .int .i64 0, .int .i64 0, .int .i64 0, .int .i64 0, .int .i64 0, .int .i64 0, .int .i64 0, .int .i64 0, .int .i64 0, .int .i64 0, .int .i64 0]) ?_ 6 _ rfl; (with_reducible repeat (first | refine blk_drewN ?_ _ | refine blk_drew ?_ | refine blk_alloc ?_ _)); refine blk_put (cs := #[.int .i64 t339, .int .i64 0, .int .i64 0, .int .i64 0, .int .i64 0, .int .i64 0, .int .i64 0, .int .i64 0, .int .i64 0, .int .i64 0, .int .i64 0, .int .i64 0]) ?_ 5 _ rfl; (with_reducible repeat (first | refine blk_drewN ?_ _ | refine blk_drew ?_ | refine blk_alloc ?_ _)); refine blk_put (cs := #[.int .i64 t339, .int .i64 0, .int .i64 0, .int .i64 0, .int .i64 0, .int .i64 0, .int .i64 0, .int .i64 0, .int .i64 0, .int .i64 0, .int .i64 0, .int .i64 0]) ?_ 4 _ rfl; (with_reducible repeat (first | refine blk_drewN ?_ _ | refine blk_drew ?_ | refine blk_alloc ?_ _)); refine blk_put (cs := #[.int .i64 t339, .int .i64 0, .int .i64 0, .int .i64 0, .int .i64 0, .int .i64 0, .int .i64 0, .int .i64 0, .int .i64 0, .int .i64 0, .int .i64 0, .int .i64 0]) ?_ 3 _ rfl; (with_reducible repeat (first | refine blk_drewN ?_ _ | refine blk_drew ?_ | refine blk_alloc ?_ _)); refine blk_put (cs := #[.int .i64 t339, .int .i64 0, .int .i64 0, .int .i64 0, .int .i64 0, .int .i64 0, .int .i64 0, .int .i64 0, .int .i64 0, .int .i64 0, .int .i64 0, .int .i64 0]) ?_ 2 _ rfl; (with_reducible repeat (first | refine blk_drewN ?_ _ | refine blk_drew ?_ | refine blk_alloc ?_ _)); refine blk_put (cs := #[.int .i64 t339, .int .i64 0, .int .i64 0, .int .i64 0, .int .i64 0, .int .i64 0, .int .i64 0, .int .i64 0, .int .i64 0, .int .i64 0, .int .i64 0, .int .i64 0]) ?_ 1 _ rfl; (with_reducible repeat (first | refine blk_drewN ?_ _ | refine blk_drew ?_ | refine blk_alloc ?_ _)); refine blk_put (cs := #[.int .i64 0, .int .i64 0, .int .i64 0, .int .i64 0, .int .i64 0, .int .i64 0, .int .i64 0, .int .i64 0, .int .i64 0, .int .i64 0, .int .i64 0, .int .i64 0]) ?_ 0 _ rfl; (with_reducible repeat (first | refine blk_drewN ?_ _ | refine blk_drew ?_ | refine blk_alloc ?_ _)); exact BK340.out⟩, ⟨by repeat (first | (with_reducible first | exact HB.out | apply below_alloc | apply pw_below_drewN | apply below_drew1 | refine below_set ?_ GE338.out | refine below_set ?_ GE340.out) | exact HB.out)⟩⟩
   ·rw [if_neg c11] at H
    exact absurd H (by simp)
  ·rw [if_neg c10] at H
   have c10b0 : decide (t339 < (l0.length : Int)) = false := decide_eq_false c10
   clear c10
   (first | rw [c10b0] | (simp only [i64_w, i32_w]; rw [c10b0]) | skip)
   have H' := Aside0.mk H
   clear H
   go_wp2
   go_meet
   case rel => exact ⟨_, (0), (0), (0), (0), (0), (0), H', ⟨by first | omega | exact Nat.le_refl _⟩, ⟨by (with_reducible repeat (first | refine blk_drewN ?_ _ | refine blk_drew ?_ | refine blk_alloc ?_ _)); refine blk_far ?_ NB338_340.out _; (with_reducible repeat (first | refine blk_drewN ?_ _ | refine blk_drew ?_ | refine blk_alloc ?_ _)); refine blk_far ?_ NB338_340.out _; (with_reducible repeat (first | refine blk_drewN ?_ _ | refine blk_drew ?_ | refine blk_alloc ?_ _)); refine blk_far ?_ NB338_340.out _; (with_reducible repeat (first | refine blk_drewN ?_ _ | refine blk_drew ?_ | refine blk_alloc ?_ _)); refine blk_far ?_ NB338_340.out _; (with_reducible repeat (first | refine blk_drewN ?_ _ | refine blk_drew ?_ | refine blk_alloc ?_ _)); refine blk_far ?_ NB338_340.out _; (with_reducible repeat (first | refine blk_drewN ?_ _ | refine blk_drew ?_ | refine blk_alloc ?_ _)); refine blk_far ?_ NB338_340.out _; (with_reducible repeat (first | refine blk_drewN ?_ _ | refine blk_drew ?_ | refine blk_alloc ?_ _)); refine blk_far ?_ NB338_340.out _; (with_reducible repeat (first | refine blk_drewN ?_ _ | refine blk_drew ?_ | refine blk_alloc ?_ _)); refine blk_far ?_ NB338_340.out _; (with_reducible repeat (first | refine blk_drewN ?_ _ | refine blk_drew ?_ | refine blk_alloc ?_ _)); refine blk_far ?_ NB338_340.out _; (with_reducible repeat (first | refine blk_drewN ?_ _ | refine blk_drew ?_ | refine blk_alloc ?_ _)); refine blk_far ?_ NB338_340.out _; (with_reducible repeat (first | refine blk_drewN ?_ _ | refine blk_drew ?_ | refine blk_alloc ?_ _)); refine blk_far ?_ NB338_340.out _; (with_reducible repeat (first | refine blk_drewN ?_ _ | refine blk_drew ?_ | refine blk_alloc ?_ _)); refine blk_far ?_ NB338_340.out _; (with_reducible repeat (first | refine blk_drewN ?_ _ | refine blk_drew ?_ | refine blk_alloc ?_ _)); exact BK338.out⟩, ⟨by (with_reducible repeat (first | refine blk_drewN ?_ _ | refine blk_drew ?_ | refine blk_alloc ?_ _)); refine blk_put (cs := #[.int .i64 t339, .int .i64 0, .int .i64 0, .int .i64 0, .int .i64 0, .int .i64 0, .int .i64 0, .int .i64 0, .int .i64 0, .int .i64 0, .int .i64 0, .int .i64 0]) ?_ 11 _ rfl; (with_reducible repeat (first | refine blk_drewN ?_ _ | refine blk_drew ?_ | refine blk_alloc ?_ _)); refine blk_put (cs := #[.int .i64 t339, .int .i64 0, .int .i64 0, .int .i64 0, .int .i64 0, .int .i64 0, .int .i64 0, .int .i64 0, .int .i64 0, .int .i64 0, .int .i64 0, .int .i64 0]) ?_ 10 _ rfl; (with_reducible repeat (first | refine blk_drewN ?_ _ | refine blk_drew ?_ | refine blk_alloc ?_ _)); refine blk_put (cs := #[.int .i64 t339, .int .i64 0, .int .i64 0, .int .i64 0, .int .i64 0, .int .i64 0, .int .i64 0, .int .i64 0, .int .i64 0, .int .i64 0, .int .i64 0, .int .i64 0]) ?_ 9 _ rfl; (with_reducible repeat (first | refine blk_drewN ?_ _ | refine blk_drew ?_ | refine blk_alloc ?_ _)); refine blk_put (cs := #[.int .i64 t339, .int .i64 0, .int .i64 0, .int .i64 0, .int .i64 0, .int .i64 0, .int .i64 0, .int .i64 0, .int .i64 0, .int .i64 0, .int .i64 0, .int .i64 0]) ?_ 8 _ rfl; (with_reducible repeat (first | refine blk_drewN ?_ _ | refine blk_drew ?_ | refine blk_alloc ?_ _)); refine blk_put (cs := #[.int .i64 t339, .int .i64 0, .int .i64 0, .int .i64 0, .int .i64 0, .int .i64 0, .int .i64 0, .int .i64 0, .int .i64 0, .int .i64 0, .int .i64 0, .int .i64 0]) ?_ 7 _ rfl; (with_reducible repeat (first | refine blk_drewN ?_ _ | refine blk_drew ?_ | refine blk_alloc ?_ _)); refine blk_put (cs := #[.int .i64 t339, .int .i64 0, .int .i64 0, .int .i64 0, .int .i64 0, .int .i64 0, .int .i64 0, .int .i64 0, .int .i64 0, .int .i64 0, .int .i64 0, .int .i64 0]) ?_ 6 _ rfl; (with_reducible repeat (first | refine blk_drewN ?_ _ | refine blk_drew ?_ | refine blk_alloc ?_ _)); refine blk_put (cs := #[.int .i64 t339, .int .i64 0, .int .i64 0, .int .i64 0, .int .i64 0, .int .i64 0, .int .i64 0, .int .i64 0, .int .i64 0, .int .i64 0, .int .i64 0, .int .i64 0]) ?_ 5 _ rfl; (with_reducible repeat (first | refine blk_drewN ?_ _ | refine blk_drew ?_ | refine blk_alloc ?_ _)); refine blk_put (cs := #[.int .i64 t339, .int .i64 0, .int .i64 0, .int .i64 0, .int .i64 0, .int .i64 0, .int .i64 0, .int .i64 0, .int .i64 0, .int .i64 0, .int .i64 0, .int .i64 0]) ?_ 4 _ rfl; (with_reducible repeat (first | refine blk_drewN ?_ _ | refine blk_drew ?_ | refine blk_alloc ?_ _)); refine blk_put (cs := #[.int .i64 t339, .int .i64 0, .int .i64 0, .int .i64 0, .int .i64 0, .int .i64 0, .int .i64 0, .int .i64 0, .int .i64 0, .int .i64 0, .int .i64 0, .int .i64 0]) ?_ 3 _ rfl; (with_reducible repeat (first | refine blk_drewN ?_ _ | refine blk_drew ?_ | refine blk_alloc ?_ _)); refine blk_put (cs := #[.int .i64 t339, .int .i64 0, .int .i64 0, .int .i64 0, .int .i64 0, .int .i64 0, .int .i64 0, .int .i64 0, .int .i64 0, .int .i64 0, .int .i64 0, .int .i64 0]) ?_ 2 _ rfl; (with_reducible repeat (first | refine blk_drewN ?_ _ | refine blk_drew ?_ | refine blk_alloc ?_ _)); refine blk_put (cs := #[.int .i64 t339, .int .i64 0, .int .i64 0, .int .i64 0, .int .i64 0, .int .i64 0, .int .i64 0, .int .i64 0, .int .i64 0, .int .i64 0, .int .i64 0, .int .i64 0]) ?_ 1 _ rfl; (with_reducible repeat (first | refine blk_drewN ?_ _ | refine blk_drew ?_ | refine blk_alloc ?_ _)); refine blk_put (cs := #[.int .i64 0, .int .i64 0, .int .i64 0, .int .i64 0, .int .i64 0, .int .i64 0, .int .i64 0, .int .i64 0, .int .i64 0, .int .i64 0, .int .i64 0, .int .i64 0]) ?_ 0 _ rfl; (with_reducible repeat (first | refine blk_drewN ?_ _ | refine blk_drew ?_ | refine blk_alloc ?_ _)); exact BK340.out⟩, ⟨by repeat (first | (with_reducible first | exact HB.out | apply below_alloc | apply pw_below_drewN | apply below_drew1 | refine below_set ?_ GE338.out | refine below_set ?_ GE340.out) | exact HB.out)⟩⟩
 case rest =>
  clear HC4
  try clear c1
  try clear c2
  try clear p2
  try clear p3
  try clear q3
  try clear hx3
  try clear c8
  try clear c10
  try clear c10b0
  try clear c11
  try clear c11b0
  try clear c12
  try clear hcz13_0
  try clear hcz13_1
  try clear hcz13_10
  try clear hcz13_11
  try clear hcz13_2
  try clear hcz13_3
  try clear hcz13_4
  try clear hcz13_5
  try clear hcz13_6
  try clear hcz13_7
  try clear hcz13_8
  try clear hcz13_9
  try clear hcz9_0
  try clear hcz9_1
  try clear hcz9_10
  try clear hcz9_11
  try clear hcz9_2
  try clear hcz9_3
  try clear hcz9_4
  try clear hcz9_5
  try clear hcz9_6
  try clear hcz9_7
  try clear hcz9_8
  try clear hcz9_9
  try clear hfz13_0
  try clear hfz13_1
  try clear hfz13_10
  try clear hfz13_11
  try clear hfz13_2
  try clear hfz13_3
  try clear hfz13_4
  try clear hfz13_5
  try clear hfz13_6
  try clear hfz13_7
  try clear hfz13_8
  try clear hfz13_9
  try clear hfz9_0
  try clear hfz9_1
  try clear hfz9_10
  try clear hfz9_11
  try clear hfz9_2
  try clear hfz9_3
  try clear hfz9_4
  try clear hfz9_5
  try clear hfz9_6
  try clear hfz9_7
  try clear hfz9_8
  try clear hfz9_9
  try clear hx341_0
  try clear hx341_1
  try clear hx341_2
  try clear hx341_3
  try clear hx341_4
  try clear p341
  try clear q341
  obtain ⟨kq, x341001_3, x341002_3, x341003_3, x341004_3, x341005_3, x341006_3, HA, HJ3, BK338, BK340, HB⟩ := hcut
  cases kq with
  | zero => exact absurd HA.out (by simp [palletref23_Events.j0])
  | succ kj3 =>
   have H := HA.out
   clear HA
   simp only [palletref23_Events.j0] at H
   have HC14 := Aside0.mk H
   clear H
   have hnb15 := NB340_338.out
   have hnc15 := NB338_340.out
   have hcz16_0 : wc.cell? ⟨gb340, 0, none⟩ = some (.int .i64 t339) := (blk_cell BK340.out 0).trans rfl
   have hcz16_1 : wc.cell? ⟨gb340, 1, none⟩ = some (.int .i64 x341001_3) := (blk_cell BK340.out 1).trans rfl
   have hcz16_2 : wc.cell? ⟨gb340, 2, none⟩ = some (.int .i64 x341002_3) := (blk_cell BK340.out 2).trans rfl
   have hcz16_3 : wc.cell? ⟨gb340, 3, none⟩ = some (.int .i64 x341003_3) := (blk_cell BK340.out 3).trans rfl
   have hcz16_4 : wc.cell? ⟨gb340, 4, none⟩ = some (.int .i64 x341004_3) := (blk_cell BK340.out 4).trans rfl
   have hcz16_5 : wc.cell? ⟨gb340, 5, none⟩ = some (.int .i64 x341005_3) := (blk_cell BK340.out 5).trans rfl
   have hcz16_6 : wc.cell? ⟨gb340, 6, none⟩ = some (.int .i64 x341006_3) := (blk_cell BK340.out 6).trans rfl
   have hcz16_7 : wc.cell? ⟨gb340, 7, none⟩ = some (.int .i64 0) := (blk_cell BK340.out 7).trans rfl
   have hcz16_8 : wc.cell? ⟨gb340, 8, none⟩ = some (.int .i64 0) := (blk_cell BK340.out 8).trans rfl
   have hcz16_9 : wc.cell? ⟨gb340, 9, none⟩ = some (.int .i64 0) := (blk_cell BK340.out 9).trans rfl
   have hcz16_10 : wc.cell? ⟨gb340, 10, none⟩ = some (.int .i64 0) := (blk_cell BK340.out 10).trans rfl
   have hcz16_11 : wc.cell? ⟨gb340, 11, none⟩ = some (.int .i64 0) := (blk_cell BK340.out 11).trans rfl
   have hfz16_0 := blk_frozen BK340.out 0
   have hfz16_1 := blk_frozen BK340.out 1
   have hfz16_2 := blk_frozen BK340.out 2
   have hfz16_3 := blk_frozen BK340.out 3
   have hfz16_4 := blk_frozen BK340.out 4
   have hfz16_5 := blk_frozen BK340.out 5
   have hfz16_6 := blk_frozen BK340.out 6
   have hfz16_7 := blk_frozen BK340.out 7
   have hfz16_8 := blk_frozen BK340.out 8
   have hfz16_9 := blk_frozen BK340.out 9
   have hfz16_10 := blk_frozen BK340.out 10
   have hfz16_11 := blk_frozen BK340.out 11
   go_upto_if 26 with (fail)
   go_cut [] (fun wc => ∃ (kq : Nat) (x341001_13 : Int) (x341007_13 : Int) (x341008_13 : Int) (x341009_13 : Int) (x341010_13 : Int) (x341011_13 : Int), Aside0 (palletref23_Events.j1 kq l0 l1 t339 x341001_13 x341002_3 x341003_3 x341004_3 x341005_3 x341006_3 x341007_13 x341008_13 x341009_13 x341010_13 x341011_13 = some (r1, r2, r3, r4, r5, r6, r7, r8, r9, r10, r11, r12)) ∧ Aside0 (kq ≤ kj3) ∧ Aside0 (wc.heap[gb338]? = some (.cells #[.int .i64 0, .int .i64 0, .int .i64 0, .int .i64 0, .int .i64 0, .int .i64 0, .int .i64 0, .int .i64 0, .int .i64 0, .int .i64 0, .int .i64 0, .int .i64 0] 27 (0, 0))) ∧ Aside0 (wc.heap[gb340]? = some (.cells #[.int .i64 t339, .int .i64 x341001_13, .int .i64 x341002_3, .int .i64 x341003_3, .int .i64 x341004_3, .int .i64 x341005_3, .int .i64 x341006_3, .int .i64 x341007_13, .int .i64 x341008_13, .int .i64 x341009_13, .int .i64 x341010_13, .int .i64 x341011_13] 27 (0, 0))) ∧ Aside0 (Below w.heap.size w wc))
   case first =>
    have H := HC14.out
    clear HC14
    by_cases c17 : t339 < (l1.length : Int)
    ·rw [if_pos c17] at H
     have c17b0 : decide (t339 < (l1.length : Int)) = true := decide_eq_true c17
     clear c17
     (first | rw [c17b0] | (simp only [i64_w, i32_w]; rw [c17b0]) | skip)
     by_cases c18 : 0 ≤ t339
     ·rw [if_pos c18] at H
      have c18b0 : decide (0 ≤ t339) = true := decide_eq_true c18
      clear c18
      have H' := Aside0.mk H
      clear H
      have hnb19 := NB340_338.out
      have hnc19 := NB338_340.out
      have hcz20_0 : wc.cell? ⟨gb340, 0, none⟩ = some (.int .i64 t339) := (blk_cell BK340.out 0).trans rfl
      have hcz20_1 : wc.cell? ⟨gb340, 1, none⟩ = some (.int .i64 x341001_3) := (blk_cell BK340.out 1).trans rfl
      have hcz20_2 : wc.cell? ⟨gb340, 2, none⟩ = some (.int .i64 x341002_3) := (blk_cell BK340.out 2).trans rfl
      have hcz20_3 : wc.cell? ⟨gb340, 3, none⟩ = some (.int .i64 x341003_3) := (blk_cell BK340.out 3).trans rfl
      have hcz20_4 : wc.cell? ⟨gb340, 4, none⟩ = some (.int .i64 x341004_3) := (blk_cell BK340.out 4).trans rfl
      have hcz20_5 : wc.cell? ⟨gb340, 5, none⟩ = some (.int .i64 x341005_3) := (blk_cell BK340.out 5).trans rfl
      have hcz20_6 : wc.cell? ⟨gb340, 6, none⟩ = some (.int .i64 x341006_3) := (blk_cell BK340.out 6).trans rfl
      have hcz20_7 : wc.cell? ⟨gb340, 7, none⟩ = some (.int .i64 0) := (blk_cell BK340.out 7).trans rfl
      have hcz20_8 : wc.cell? ⟨gb340, 8, none⟩ = some (.int .i64 0) := (blk_cell BK340.out 8).trans rfl
      have hcz20_9 : wc.cell? ⟨gb340, 9, none⟩ = some (.int .i64 0) := (blk_cell BK340.out 9).trans rfl
      have hcz20_10 : wc.cell? ⟨gb340, 10, none⟩ = some (.int .i64 0) := (blk_cell BK340.out 10).trans rfl
      have hcz20_11 : wc.cell? ⟨gb340, 11, none⟩ = some (.int .i64 0) := (blk_cell BK340.out 11).trans rfl
      have hfz20_0 := blk_frozen BK340.out 0
      have hfz20_1 := blk_frozen BK340.out 1
      have hfz20_2 := blk_frozen BK340.out 2
      have hfz20_3 := blk_frozen BK340.out 3
      have hfz20_4 := blk_frozen BK340.out 4
      have hfz20_5 := blk_frozen BK340.out 5
      have hfz20_6 := blk_frozen BK340.out 6
      have hfz20_7 := blk_frozen BK340.out 7
      have hfz20_8 := blk_frozen BK340.out 8
      have hfz20_9 := blk_frozen BK340.out 9
      have hfz20_10 := blk_frozen BK340.out 10
      have hfz20_11 := blk_frozen BK340.out 11
      have p342 : 0 ≤ (t339 : Int) := of_decide_eq_true (by first | (with_reducible assumption) | assumption)
      have q342 : t339 < (l1.length : Int) := of_decide_eq_true (by first | (with_reducible assumption) | assumption)
      obtain ⟨ad342, e342, hx342_0, hx342_1, hx342_2, hx342_3, hx342_4⟩ := at_T25 HR1.out t339 p342 q342
      cases e342
      replace hx342_0 := (HB.out.cell (World.block_lt_of_cell? w _ hx342_0)).trans hx342_0
      replace hx342_1 := (HB.out.cell (World.block_lt_of_cell? w _ hx342_1)).trans hx342_1
      replace hx342_2 := (HB.out.cell (World.block_lt_of_cell? w _ hx342_2)).trans hx342_2
      replace hx342_3 := (HB.out.cell (World.block_lt_of_cell? w _ hx342_3)).trans hx342_3
      replace hx342_4 := (HB.out.cell (World.block_lt_of_cell? w _ hx342_4)).trans hx342_4
      replace p342 := eq_true p342
      replace q342 := eq_true q342
      go_wp2
      go_meet
      case rel => exact ⟨_, (2), ((rd_T25 l1 t339).f0), ((rd_T25 l1 t339).f1), ((rd_T25 l1 t339).f2), ((rd_T25 l1 t339).f3), ((rd_T25 l1 t339).f4), H', ⟨by have := HJ3.out; first | omega | exact Nat.le_refl _⟩, ⟨by (with_reducible repeat (first | refine blk_drewN ?_ _ | refine blk_drew ?_ | refine blk_alloc ?_ _)); refine blk_far ?_ NB338_340.out _; (with_reducible repeat (first | refine blk_drewN ?_ _ | refine blk_drew ?_ | refine blk_alloc ?_ _)); refine blk_far ?_ NB338_340.out _; (with_reducible repeat (first | refine blk_drewN ?_ _ | refine blk_drew ?_ | refine blk_alloc ?_ _)); refine blk_far ?_ NB338_340.out _; (with_reducible repeat (first | refine blk_drewN ?_ _ | refine blk_drew ?_ | refine blk_alloc ?_ _)); refine blk_far ?_ NB338_340.out _; (with_reducible repeat (first | refine blk_drewN ?_ _ | refine blk_drew ?_ | refine blk_alloc ?_ _)); refine blk_far ?_ NB338_340.out _; (with_reducible repeat (first | refine blk_drewN ?_ _ | refine blk_drew ?_ | refine blk_alloc ?_ _)); refine blk_far ?_ NB338_340.out _; (with_reducible repeat (first | refine blk_drewN ?_ _ | refine blk_drew ?_ | refine blk_alloc ?_ _)); exact BK338.out⟩, ⟨by (with_reducible repeat (first | refine blk_drewN ?_ _ | refine blk_drew ?_ | refine blk_alloc ?_ _)); refine blk_put (cs := #[.int .i64 t339, .int .i64 x341001_3, .int .i64 x341002_3, .int .i64 x341003_3, .int .i64 x341004_3, .int .i64 x341005_3, .int .i64 x341006_3, .int .i64 ((rd_T25 l1 t339).f0), .int .i64 ((rd_T25 l1 t339).f1), .int .i64 ((rd_T25 l1 t339).f2), .int .i64 ((rd_T25 l1 t339).f3), .int .i64 ((rd_T25 l1 t339).f4)]) ?_ 1 _ rfl; (with_reducible repeat (first | refine blk_drewN ?_ _ | refine blk_drew ?_ | refine blk_alloc ?_ _)); refine blk_put (cs := #[.int .i64 t339, .int .i64 x341001_3, .int .i64 x341002_3, .int .i64 x341003_3, .int .i64 x341004_3, .int .i64 x341005_3, .int .i64 x341006_3, .int .i64 ((rd_T25 l1 t339).f0), .int .i64 ((rd_T25 l1 t339).f1), .int .i64 ((rd_T25 l1 t339).f2), .int .i64 ((rd_T25 l1 t339).f3), .int .i64 0]) ?_ 11 _ rfl; (with_reducible repeat (first | refine blk_drewN ?_ _ | refine blk_drew ?_ | refine blk_alloc ?_ _)); refine blk_put (cs := #[.int .i64 t339, .int .i64 x341001_3, .int .i64 x341002_3, .int .i64 x341003_3, .int .i64 x341004_3, .int .i64 x341005_3, .int .i64 x341006_3, .int .i64 ((rd_T25 l1 t339).f0), .int .i64 ((rd_T25 l1 t339).f1), .int .i64 ((rd_T25 l1 t339).f2), .int .i64 0, .int .i64 0]) ?_ 10 _ rfl; (with_reducible repeat (first | refine blk_drewN ?_ _ | refine blk_drew ?_ | refine blk_alloc ?_ _)); refine blk_put (cs := #[.int .i64 t339, .int .i64 x341001_3, .int .i64 x341002_3, .int .i64 x341003_3, .int .i64 x341004_3, .int .i64 x341005_3, .int .i64 x341006_3, .int .i64 ((rd_T25 l1 t339).f0), .int .i64 ((rd_T25 l1 t339).f1), .int .i64 0, .int .i64 0, .int .i64 0]) ?_ 9 _ rfl; (with_reducible repeat (first | refine blk_drewN ?_ _ | refine blk_drew ?_ | refine blk_alloc ?_ _)); refine blk_put (cs := #[.int .i64 t339, .int .i64 x341001_3, .int .i64 x341002_3, .int .i64 x341003_3, .int .i64 x341004_3, .int .i64 x341005_3, .int .i64 x341006_3, .int .i64 ((rd_T25 l1 t339).f0), .int .i64 0, .int .i64 0, .int .i64 0, .int .i64 0]) ?_ 8 _ rfl; (with_reducible repeat (first | refine blk_drewN ?_ _ | refine blk_drew ?_ | refine blk_alloc ?_ _)); refine blk_put (cs := #[.int .i64 t339, .int .i64 x341001_3, .int .i64 x341002_3, .int .i64 x341003_3, .int .i64 x341004_3, .int .i64 x341005_3, .int .i64 x341006_3, .int .i64 0, .int .i64 0, .int .i64 0, .int .i64 0, .int .i64 0]) ?_ 7 _ rfl; (with_reducible repeat (first | refine blk_drewN ?_ _ | refine blk_drew ?_ | refine blk_alloc ?_ _)); exact BK340.out⟩, ⟨by repeat (first | (with_reducible first | exact HB.out | apply below_alloc | apply pw_below_drewN | apply below_drew1 | refine below_set ?_ GE338.out | refine below_set ?_ GE340.out) | exact HB.out)⟩⟩
     ·rw [if_neg c18] at H
      exact absurd H (by simp)
    ·rw [if_neg c17] at H
     have c17b0 : decide (t339 < (l1.length : Int)) = false := decide_eq_false c17
     clear c17
     (first | rw [c17b0] | (simp only [i64_w, i32_w]; rw [c17b0]) | skip)
     have H' := Aside0.mk H
     clear H
     go_wp2
     go_meet
     case rel => exact ⟨_, (x341001_3), (0), (0), (0), (0), (0), H', ⟨by have := HJ3.out; first | omega | exact Nat.le_refl _⟩, ⟨by (with_reducible repeat (first | refine blk_drewN ?_ _ | refine blk_drew ?_ | refine blk_alloc ?_ _)); exact BK338.out⟩, ⟨by (with_reducible repeat (first | refine blk_drewN ?_ _ | refine blk_drew ?_ | refine blk_alloc ?_ _)); exact BK340.out⟩, ⟨by repeat (first | (with_reducible first | exact HB.out | apply below_alloc | apply pw_below_drewN | apply below_drew1 | refine below_set ?_ GE338.out | refine below_set ?_ GE340.out) | exact HB.out)⟩⟩
   case rest =>
    clear HC14
    try clear c1
    try clear c2
    try clear p2
    try clear p3
    try clear q3
    try clear hx3
    try clear c8
    try clear c10
    try clear c10b0
    try clear c11
    try clear c11b0
    try clear c12
    try clear c15
    try clear c17
    try clear c17b0
    try clear c18
    try clear c18b0
    try clear c19
    try clear c20
    try clear hcz13_0
    try clear hcz13_1
    try clear hcz13_10
    try clear hcz13_11
    try clear hcz13_2
    try clear hcz13_3
    try clear hcz13_4
    try clear hcz13_5
    try clear hcz13_6
    try clear hcz13_7
    try clear hcz13_8
    try clear hcz13_9
    try clear hcz16_0
    try clear hcz16_1
    try clear hcz16_10
    try clear hcz16_11
    try clear hcz16_2
    try clear hcz16_3
    try clear hcz16_4
    try clear hcz16_5
    try clear hcz16_6
    try clear hcz16_7
    try clear hcz16_8
    try clear hcz16_9
    try clear hcz20_0
    try clear hcz20_1
    try clear hcz20_10
    try clear hcz20_11
    try clear hcz20_2
    try clear hcz20_3
    try clear hcz20_4
    try clear hcz20_5
    try clear hcz20_6
    try clear hcz20_7
    try clear hcz20_8
    try clear hcz20_9
    try clear hcz9_0
    try clear hcz9_1
    try clear hcz9_10
    try clear hcz9_11
    try clear hcz9_2
    try clear hcz9_3
    try clear hcz9_4
    try clear hcz9_5
    try clear hcz9_6
    try clear hcz9_7
    try clear hcz9_8
    try clear hcz9_9
    try clear hfz13_0
    try clear hfz13_1
    try clear hfz13_10
    try clear hfz13_11
    try clear hfz13_2
    try clear hfz13_3
    try clear hfz13_4
    try clear hfz13_5
    try clear hfz13_6
    try clear hfz13_7
    try clear hfz13_8
    try clear hfz13_9
    try clear hfz16_0
    try clear hfz16_1
    try clear hfz16_10
    try clear hfz16_11
    try clear hfz16_2
    try clear hfz16_3
    try clear hfz16_4
    try clear hfz16_5
    try clear hfz16_6
    try clear hfz16_7
    try clear hfz16_8
    try clear hfz16_9
    try clear hfz20_0
    try clear hfz20_1
    try clear hfz20_10
    try clear hfz20_11
    try clear hfz20_2
    try clear hfz20_3
    try clear hfz20_4
    try clear hfz20_5
    try clear hfz20_6
    try clear hfz20_7
    try clear hfz20_8
    try clear hfz20_9
    try clear hfz9_0
    try clear hfz9_1
    try clear hfz9_10
    try clear hfz9_11
    try clear hfz9_2
    try clear hfz9_3
    try clear hfz9_4
    try clear hfz9_5
    try clear hfz9_6
    try clear hfz9_7
    try clear hfz9_8
    try clear hfz9_9
    try clear hx341_0
    try clear hx341_1
    try clear hx341_2
    try clear hx341_3
    try clear hx341_4
    try clear hx342_0
    try clear hx342_1
    try clear hx342_2
    try clear hx342_3
    try clear hx342_4
    try clear p2
    try clear p3
    try clear p341
    try clear p342
    try clear q3
    try clear q341
    try clear q342
    obtain ⟨kq, x341001_13, x341007_13, x341008_13, x341009_13, x341010_13, x341011_13, HA, HJ13, BK338, BK340, HB⟩ := hcut
    cases kq with
    | zero => exact absurd HA.out (by simp [palletref23_Events.j1])
    | succ kj13 =>
     have H := HA.out
     clear HA
     simp only [palletref23_Events.j1] at H
     have HC21 := Aside0.mk H
     clear H
     go_upto_region 8 with (fail)
     go_cut [45] (fun v45 wc => ∃ (kq : Nat) (x45_20 : Bool), v45 = .bool x45_20 ∧ Aside0 (palletref23_Events.j2 kq x45_20 t339 x341001_13 x341002_3 x341003_3 x341004_3 x341005_3 x341006_3 x341007_13 x341008_13 x341009_13 x341010_13 x341011_13 = some (r1, r2, r3, r4, r5, r6, r7, r8, r9, r10, r11, r12)) ∧ Aside0 (kq ≤ kj13) ∧ Aside0 (wc.heap[gb338]? = some (.cells #[.int .i64 0, .int .i64 0, .int .i64 0, .int .i64 0, .int .i64 0, .int .i64 0, .int .i64 0, .int .i64 0, .int .i64 0, .int .i64 0, .int .i64 0, .int .i64 0] 27 (0, 0))) ∧ Aside0 (wc.heap[gb340]? = some (.cells #[.int .i64 t339, .int .i64 x341001_13, .int .i64 x341002_3, .int .i64 x341003_3, .int .i64 x341004_3, .int .i64 x341005_3, .int .i64 x341006_3, .int .i64 x341007_13, .int .i64 x341008_13, .int .i64 x341009_13, .int .i64 x341010_13, .int .i64 x341011_13] 27 (0, 0))) ∧ Aside0 (Below w.heap.size w wc))
     case first =>
      have H := HC21.out
      clear HC21
      by_cases c22 : t339 < (l0.length : Int)
      ·rw [if_pos c22] at H
       have c22b0 : decide (t339 < (l0.length : Int)) = true := decide_eq_true c22
       clear c22
       (first | rw [c22b0] | (simp only [i64_w, i32_w]; rw [c22b0]) | skip)
       have H' := Aside0.mk H
       clear H
       have hnb23 := NB340_338.out
       have hnc23 := NB338_340.out
       have hcz24_0 : wc.cell? ⟨gb340, 0, none⟩ = some (.int .i64 t339) := (blk_cell BK340.out 0).trans rfl
       have hcz24_1 : wc.cell? ⟨gb340, 1, none⟩ = some (.int .i64 x341001_13) := (blk_cell BK340.out 1).trans rfl
       have hcz24_2 : wc.cell? ⟨gb340, 2, none⟩ = some (.int .i64 x341002_3) := (blk_cell BK340.out 2).trans rfl
       have hcz24_3 : wc.cell? ⟨gb340, 3, none⟩ = some (.int .i64 x341003_3) := (blk_cell BK340.out 3).trans rfl
       have hcz24_4 : wc.cell? ⟨gb340, 4, none⟩ = some (.int .i64 x341004_3) := (blk_cell BK340.out 4).trans rfl
       have hcz24_5 : wc.cell? ⟨gb340, 5, none⟩ = some (.int .i64 x341005_3) := (blk_cell BK340.out 5).trans rfl
       have hcz24_6 : wc.cell? ⟨gb340, 6, none⟩ = some (.int .i64 x341006_3) := (blk_cell BK340.out 6).trans rfl
       have hcz24_7 : wc.cell? ⟨gb340, 7, none⟩ = some (.int .i64 x341007_13) := (blk_cell BK340.out 7).trans rfl
       have hcz24_8 : wc.cell? ⟨gb340, 8, none⟩ = some (.int .i64 x341008_13) := (blk_cell BK340.out 8).trans rfl
       have hcz24_9 : wc.cell? ⟨gb340, 9, none⟩ = some (.int .i64 x341009_13) := (blk_cell BK340.out 9).trans rfl
       have hcz24_10 : wc.cell? ⟨gb340, 10, none⟩ = some (.int .i64 x341010_13) := (blk_cell BK340.out 10).trans rfl
       have hcz24_11 : wc.cell? ⟨gb340, 11, none⟩ = some (.int .i64 x341011_13) := (blk_cell BK340.out 11).trans rfl
       have hfz24_0 := blk_frozen BK340.out 0
       have hfz24_1 := blk_frozen BK340.out 1
       have hfz24_2 := blk_frozen BK340.out 2
       have hfz24_3 := blk_frozen BK340.out 3
       have hfz24_4 := blk_frozen BK340.out 4
       have hfz24_5 := blk_frozen BK340.out 5
       have hfz24_6 := blk_frozen BK340.out 6
       have hfz24_7 := blk_frozen BK340.out 7
       have hfz24_8 := blk_frozen BK340.out 8
       have hfz24_9 := blk_frozen BK340.out 9
       have hfz24_10 := blk_frozen BK340.out 10
       have hfz24_11 := blk_frozen BK340.out 11
       go_wp2
       go_meet
       case rel => exact ⟨_, (decide (t339 < (l1.length : Int))), (by first | rfl | (simp; done) | (simp [*]; done)), H', ⟨by have := HJ3.out; have := HJ13.out; first | omega | exact Nat.le_refl _⟩, ⟨by (with_reducible repeat (first | refine blk_drewN ?_ _ | refine blk_drew ?_ | refine blk_alloc ?_ _)); exact BK338.out⟩, ⟨by (with_reducible repeat (first | refine blk_drewN ?_ _ | refine blk_drew ?_ | refine blk_alloc ?_ _)); exact BK340.out⟩, ⟨by repeat (first | (with_reducible first | exact HB.out | apply below_alloc | apply pw_below_drewN | apply below_drew1 | refine below_set ?_ GE338.out | refine below_set ?_ GE340.out) | exact HB.out)⟩⟩
      ·rw [if_neg c22] at H
       have c22b0 : decide (t339 < (l0.length : Int)) = false := decide_eq_false c22
       clear c22
       (first | rw [c22b0] | (simp only [i64_w, i32_w]; rw [c22b0]) | skip)
       have H' := Aside0.mk H
       clear H
       have hnb25 := NB340_338.out
       have hnc25 := NB338_340.out
       have hcz26_0 : wc.cell? ⟨gb340, 0, none⟩ = some (.int .i64 t339) := (blk_cell BK340.out 0).trans rfl
       have hcz26_1 : wc.cell? ⟨gb340, 1, none⟩ = some (.int .i64 x341001_13) := (blk_cell BK340.out 1).trans rfl
       have hcz26_2 : wc.cell? ⟨gb340, 2, none⟩ = some (.int .i64 x341002_3) := (blk_cell BK340.out 2).trans rfl
       have hcz26_3 : wc.cell? ⟨gb340, 3, none⟩ = some (.int .i64 x341003_3) := (blk_cell BK340.out 3).trans rfl
       have hcz26_4 : wc.cell? ⟨gb340, 4, none⟩ = some (.int .i64 x341004_3) := (blk_cell BK340.out 4).trans rfl
       have hcz26_5 : wc.cell? ⟨gb340, 5, none⟩ = some (.int .i64 x341005_3) := (blk_cell BK340.out 5).trans rfl
       have hcz26_6 : wc.cell? ⟨gb340, 6, none⟩ = some (.int .i64 x341006_3) := (blk_cell BK340.out 6).trans rfl
       have hcz26_7 : wc.cell? ⟨gb340, 7, none⟩ = some (.int .i64 x341007_13) := (blk_cell BK340.out 7).trans rfl
       have hcz26_8 : wc.cell? ⟨gb340, 8, none⟩ = some (.int .i64 x341008_13) := (blk_cell BK340.out 8).trans rfl
       have hcz26_9 : wc.cell? ⟨gb340, 9, none⟩ = some (.int .i64 x341009_13) := (blk_cell BK340.out 9).trans rfl
       have hcz26_10 : wc.cell? ⟨gb340, 10, none⟩ = some (.int .i64 x341010_13) := (blk_cell BK340.out 10).trans rfl
       have hcz26_11 : wc.cell? ⟨gb340, 11, none⟩ = some (.int .i64 x341011_13) := (blk_cell BK340.out 11).trans rfl
       have hfz26_0 := blk_frozen BK340.out 0
       have hfz26_1 := blk_frozen BK340.out 1
       have hfz26_2 := blk_frozen BK340.out 2
       have hfz26_3 := blk_frozen BK340.out 3
       have hfz26_4 := blk_frozen BK340.out 4
       have hfz26_5 := blk_frozen BK340.out 5
       have hfz26_6 := blk_frozen BK340.out 6
       have hfz26_7 := blk_frozen BK340.out 7
       have hfz26_8 := blk_frozen BK340.out 8
       have hfz26_9 := blk_frozen BK340.out 9
       have hfz26_10 := blk_frozen BK340.out 10
       have hfz26_11 := blk_frozen BK340.out 11
       go_wp2
       go_meet
       case rel => exact ⟨_, (false), (by first | rfl | (simp; done) | (simp [*]; done)), H', ⟨by have := HJ3.out; have := HJ13.out; first | omega | exact Nat.le_refl _⟩, ⟨by (with_reducible repeat (first | refine blk_drewN ?_ _ | refine blk_drew ?_ | refine blk_alloc ?_ _)); exact BK338.out⟩, ⟨by (with_reducible repeat (first | refine blk_drewN ?_ _ | refine blk_drew ?_ | refine blk_alloc ?_ _)); exact BK340.out⟩, ⟨by repeat (first | (with_reducible first | exact HB.out | apply below_alloc | apply pw_below_drewN | apply below_drew1 | refine below_set ?_ GE338.out | refine below_set ?_ GE340.out) | exact HB.out)⟩⟩
     case rest =>
      clear HC21
      try clear c1
      try clear c2
      try clear p2
      try clear p3
      try clear q3
      try clear hx3
      try clear c8
      try clear c10
      try clear c10b0
      try clear c11
      try clear c11b0
      try clear c12
      try clear c15
      try clear c17
      try clear c17b0
      try clear c18
      try clear c18b0
      try clear c19
      try clear c20
      try clear c22
      try clear c22b0
      try clear c23
      try clear c25
      try clear hcz13_0
      try clear hcz13_1
      try clear hcz13_10
      try clear hcz13_11
      try clear hcz13_2
      try clear hcz13_3
      try clear hcz13_4
      try clear hcz13_5
      try clear hcz13_6
      try clear hcz13_7
      try clear hcz13_8
      try clear hcz13_9
      try clear hcz16_0
      try clear hcz16_1
      try clear hcz16_10
      try clear hcz16_11
      try clear hcz16_2
      try clear hcz16_3
      try clear hcz16_4
      try clear hcz16_5
      try clear hcz16_6
      try clear hcz16_7
      try clear hcz16_8
      try clear hcz16_9
      try clear hcz20_0
      try clear hcz20_1
      try clear hcz20_10
      try clear hcz20_11
      try clear hcz20_2
      try clear hcz20_3
      try clear hcz20_4
      try clear hcz20_5
      try clear hcz20_6
      try clear hcz20_7
      try clear hcz20_8
      try clear hcz20_9
      try clear hcz24_0
      try clear hcz24_1
      try clear hcz24_10
      try clear hcz24_11
      try clear hcz24_2
      try clear hcz24_3
      try clear hcz24_4
      try clear hcz24_5
      try clear hcz24_6
      try clear hcz24_7
      try clear hcz24_8
      try clear hcz24_9
      try clear hcz26_0
      try clear hcz26_1
      try clear hcz26_10
      try clear hcz26_11
      try clear hcz26_2
      try clear hcz26_3
      try clear hcz26_4
      try clear hcz26_5
      try clear hcz26_6
      try clear hcz26_7
      try clear hcz26_8
      try clear hcz26_9
      try clear hcz9_0
      try clear hcz9_1
      try clear hcz9_10
      try clear hcz9_11
      try clear hcz9_2
      try clear hcz9_3
      try clear hcz9_4
      try clear hcz9_5
      try clear hcz9_6
      try clear hcz9_7
      try clear hcz9_8
      try clear hcz9_9
      try clear hfz13_0
      try clear hfz13_1
      try clear hfz13_10
      try clear hfz13_11
      try clear hfz13_2
      try clear hfz13_3
      try clear hfz13_4
      try clear hfz13_5
      try clear hfz13_6
      try clear hfz13_7
      try clear hfz13_8
      try clear hfz13_9
      try clear hfz16_0
      try clear hfz16_1
      try clear hfz16_10
      try clear hfz16_11
      try clear hfz16_2
      try clear hfz16_3
      try clear hfz16_4
      try clear hfz16_5
      try clear hfz16_6
      try clear hfz16_7
      try clear hfz16_8
      try clear hfz16_9
      try clear hfz20_0
      try clear hfz20_1
      try clear hfz20_10
      try clear hfz20_11
      try clear hfz20_2
      try clear hfz20_3
      try clear hfz20_4
      try clear hfz20_5
      try clear hfz20_6
      try clear hfz20_7
      try clear hfz20_8
      try clear hfz20_9
      try clear hfz24_0
      try clear hfz24_1
      try clear hfz24_10
      try clear hfz24_11
      try clear hfz24_2
      try clear hfz24_3
      try clear hfz24_4
      try clear hfz24_5
      try clear hfz24_6
      try clear hfz24_7
      try clear hfz24_8
      try clear hfz24_9
      try clear hfz26_0
      try clear hfz26_1
      try clear hfz26_10
      try clear hfz26_11
      try clear hfz26_2
      try clear hfz26_3
      try clear hfz26_4
      try clear hfz26_5
      try clear hfz26_6
      try clear hfz26_7
      try clear hfz26_8
      try clear hfz26_9
      try clear hfz9_0
      try clear hfz9_1
      try clear hfz9_10
      try clear hfz9_11
      try clear hfz9_2
      try clear hfz9_3
      try clear hfz9_4
      try clear hfz9_5
      try clear hfz9_6
      try clear hfz9_7
      try clear hfz9_8
      try clear hfz9_9
      try clear hx341_0
      try clear hx341_1
      try clear hx341_2
      try clear hx341_3
      try clear hx341_4
      try clear hx342_0
      try clear hx342_1
      try clear hx342_2
      try clear hx342_3
      try clear hx342_4
      try clear p2
      try clear p3
      try clear p341
      try clear p342
      try clear q3
      try clear q341
      try clear q342
      obtain ⟨kq, x45_20, rfl, HA, HJ20, BK338, BK340, HB⟩ := hcut
      cases kq with
      | zero => exact absurd HA.out (by simp [palletref23_Events.j2])
      | succ kj20 =>
       have H := HA.out
       clear HA
       simp only [palletref23_Events.j2] at H
       by_cases c27 : x45_20 = true
       ·subst c27
        have H1 : (some (t339, 1, x341002_3, x341003_3, x341004_3, x341005_3, x341006_3, x341007_13, x341008_13, x341009_13, x341010_13, x341011_13)) = some (r1, r2, r3, r4, r5, r6, r7, r8, r9, r10, r11, r12) := by rw [if_pos rfl] at H; exact H
        clear H
        have H := H1
        clear H1
        simp only [Option.some.injEq, Prod.mk.injEq] at H
        obtain ⟨rfl, rfl, rfl, rfl, rfl, rfl, rfl, rfl, rfl, rfl, rfl, rfl⟩ := H
        have hnb28 := NB340_338.out
        have hnc28 := NB338_340.out
        have hcz29_0 : wc.cell? ⟨gb340, 0, none⟩ = some (.int .i64 t339) := (blk_cell BK340.out 0).trans rfl
        have hcz29_1 : wc.cell? ⟨gb340, 1, none⟩ = some (.int .i64 x341001_13) := (blk_cell BK340.out 1).trans rfl
        have hcz29_2 : wc.cell? ⟨gb340, 2, none⟩ = some (.int .i64 x341002_3) := (blk_cell BK340.out 2).trans rfl
        have hcz29_3 : wc.cell? ⟨gb340, 3, none⟩ = some (.int .i64 x341003_3) := (blk_cell BK340.out 3).trans rfl
        have hcz29_4 : wc.cell? ⟨gb340, 4, none⟩ = some (.int .i64 x341004_3) := (blk_cell BK340.out 4).trans rfl
        have hcz29_5 : wc.cell? ⟨gb340, 5, none⟩ = some (.int .i64 x341005_3) := (blk_cell BK340.out 5).trans rfl
        have hcz29_6 : wc.cell? ⟨gb340, 6, none⟩ = some (.int .i64 x341006_3) := (blk_cell BK340.out 6).trans rfl
        have hcz29_7 : wc.cell? ⟨gb340, 7, none⟩ = some (.int .i64 x341007_13) := (blk_cell BK340.out 7).trans rfl
        have hcz29_8 : wc.cell? ⟨gb340, 8, none⟩ = some (.int .i64 x341008_13) := (blk_cell BK340.out 8).trans rfl
        have hcz29_9 : wc.cell? ⟨gb340, 9, none⟩ = some (.int .i64 x341009_13) := (blk_cell BK340.out 9).trans rfl
        have hcz29_10 : wc.cell? ⟨gb340, 10, none⟩ = some (.int .i64 x341010_13) := (blk_cell BK340.out 10).trans rfl
        have hcz29_11 : wc.cell? ⟨gb340, 11, none⟩ = some (.int .i64 x341011_13) := (blk_cell BK340.out 11).trans rfl
        have hfz29_0 := blk_frozen BK340.out 0
        have hfz29_1 := blk_frozen BK340.out 1
        have hfz29_2 := blk_frozen BK340.out 2
        have hfz29_3 := blk_frozen BK340.out 3
        have hfz29_4 := blk_frozen BK340.out 4
        have hfz29_5 := blk_frozen BK340.out 5
        have hfz29_6 := blk_frozen BK340.out 6
        have hfz29_7 := blk_frozen BK340.out 7
        have hfz29_8 := blk_frozen BK340.out 8
        have hfz29_9 := blk_frozen BK340.out 9
        have hfz29_10 := blk_frozen BK340.out 10
        have hfz29_11 := blk_frozen BK340.out 11
        have hcz30_0 : wc.cell? ⟨gb338, 0, none⟩ = some (.int .i64 0) := (blk_cell BK338.out 0).trans rfl
        have hcz30_1 : wc.cell? ⟨gb338, 1, none⟩ = some (.int .i64 0) := (blk_cell BK338.out 1).trans rfl
        have hcz30_2 : wc.cell? ⟨gb338, 2, none⟩ = some (.int .i64 0) := (blk_cell BK338.out 2).trans rfl
        have hcz30_3 : wc.cell? ⟨gb338, 3, none⟩ = some (.int .i64 0) := (blk_cell BK338.out 3).trans rfl
        have hcz30_4 : wc.cell? ⟨gb338, 4, none⟩ = some (.int .i64 0) := (blk_cell BK338.out 4).trans rfl
        have hcz30_5 : wc.cell? ⟨gb338, 5, none⟩ = some (.int .i64 0) := (blk_cell BK338.out 5).trans rfl
        have hcz30_6 : wc.cell? ⟨gb338, 6, none⟩ = some (.int .i64 0) := (blk_cell BK338.out 6).trans rfl
        have hcz30_7 : wc.cell? ⟨gb338, 7, none⟩ = some (.int .i64 0) := (blk_cell BK338.out 7).trans rfl
        have hcz30_8 : wc.cell? ⟨gb338, 8, none⟩ = some (.int .i64 0) := (blk_cell BK338.out 8).trans rfl
        have hcz30_9 : wc.cell? ⟨gb338, 9, none⟩ = some (.int .i64 0) := (blk_cell BK338.out 9).trans rfl
        have hcz30_10 : wc.cell? ⟨gb338, 10, none⟩ = some (.int .i64 0) := (blk_cell BK338.out 10).trans rfl
        have hcz30_11 : wc.cell? ⟨gb338, 11, none⟩ = some (.int .i64 0) := (blk_cell BK338.out 11).trans rfl
        have hfz30_0 := blk_frozen BK338.out 0
        have hfz30_1 := blk_frozen BK338.out 1
        have hfz30_2 := blk_frozen BK338.out 2
        have hfz30_3 := blk_frozen BK338.out 3
        have hfz30_4 := blk_frozen BK338.out 4
        have hfz30_5 := blk_frozen BK338.out 5
        have hfz30_6 := blk_frozen BK338.out 6
        have hfz30_7 := blk_frozen BK338.out 7
        have hfz30_8 := blk_frozen BK338.out 8
        have hfz30_9 := blk_frozen BK338.out 9
        have hfz30_10 := blk_frozen BK338.out 10
        have hfz30_11 := blk_frozen BK338.out 11
        go_wp2
        refine bodyPost_ret (results_cell_row rfl _ _ gb338 27 #[.int .i64 t339, .int .i64 1, .int .i64 x341002_3, .int .i64 x341003_3, .int .i64 x341004_3, .int .i64 x341005_3, .int .i64 x341006_3, .int .i64 x341007_13, .int .i64 x341008_13, .int .i64 x341009_13, .int .i64 x341010_13, .int .i64 x341011_13] (0, 0) _ rfl (by (with_reducible repeat (first | refine blk_drewN ?_ _ | refine blk_drew ?_ | refine blk_alloc ?_ _)); refine blk_put (cs := #[.int .i64 t339, .int .i64 1, .int .i64 x341002_3, .int .i64 x341003_3, .int .i64 x341004_3, .int .i64 x341005_3, .int .i64 x341006_3, .int .i64 x341007_13, .int .i64 x341008_13, .int .i64 x341009_13, .int .i64 x341010_13, .int .i64 0]) ?_ 11 _ rfl; (with_reducible repeat (first | refine blk_drewN ?_ _ | refine blk_drew ?_ | refine blk_alloc ?_ _)); refine blk_put (cs := #[.int .i64 t339, .int .i64 1, .int .i64 x341002_3, .int .i64 x341003_3, .int .i64 x341004_3, .int .i64 x341005_3, .int .i64 x341006_3, .int .i64 x341007_13, .int .i64 x341008_13, .int .i64 x341009_13, .int .i64 0, .int .i64 0]) ?_ 10 _ rfl; (with_reducible repeat (first | refine blk_drewN ?_ _ | refine blk_drew ?_ | refine blk_alloc ?_ _)); refine blk_put (cs := #[.int .i64 t339, .int .i64 1, .int .i64 x341002_3, .int .i64 x341003_3, .int .i64 x341004_3, .int .i64 x341005_3, .int .i64 x341006_3, .int .i64 x341007_13, .int .i64 x341008_13, .int .i64 0, .int .i64 0, .int .i64 0]) ?_ 9 _ rfl; (with_reducible repeat (first | refine blk_drewN ?_ _ | refine blk_drew ?_ | refine blk_alloc ?_ _)); refine blk_put (cs := #[.int .i64 t339, .int .i64 1, .int .i64 x341002_3, .int .i64 x341003_3, .int .i64 x341004_3, .int .i64 x341005_3, .int .i64 x341006_3, .int .i64 x341007_13, .int .i64 0, .int .i64 0, .int .i64 0, .int .i64 0]) ?_ 8 _ rfl; (with_reducible repeat (first | refine blk_drewN ?_ _ | refine blk_drew ?_ | refine blk_alloc ?_ _)); refine blk_put (cs := #[.int .i64 t339, .int .i64 1, .int .i64 x341002_3, .int .i64 x341003_3, .int .i64 x341004_3, .int .i64 x341005_3, .int .i64 x341006_3, .int .i64 0, .int .i64 0, .int .i64 0, .int .i64 0, .int .i64 0]) ?_ 7 _ rfl; (with_reducible repeat (first | refine blk_drewN ?_ _ | refine blk_drew ?_ | refine blk_alloc ?_ _)); refine blk_put (cs := #[.int .i64 t339, .int .i64 1, .int .i64 x341002_3, .int .i64 x341003_3, .int .i64 x341004_3, .int .i64 x341005_3, .int .i64 0, .int .i64 0, .int .i64 0, .int .i64 0, .int .i64 0, .int .i64 0]) ?_ 6 _ rfl; (with_reducible repeat (first | refine blk_drewN ?_ _ | refine blk_drew ?_ | refine blk_alloc ?_ _)); refine blk_put (cs := #[.int .i64 t339, .int .i64 1, .int .i64 x341002_3, .int .i64 x341003_3, .int .i64 x341004_3, .int .i64 0, .int .i64 0, .int .i64 0, .int .i64 0, .int .i64 0, .int .i64 0, .int .i64 0]) ?_ 5 _ rfl; (with_reducible repeat (first | refine blk_drewN ?_ _ | refine blk_drew ?_ | refine blk_alloc ?_ _)); refine blk_put (cs := #[.int .i64 t339, .int .i64 1, .int .i64 x341002_3, .int .i64 x341003_3, .int .i64 0, .int .i64 0, .int .i64 0, .int .i64 0, .int .i64 0, .int .i64 0, .int .i64 0, .int .i64 0]) ?_ 4 _ rfl; (with_reducible repeat (first | refine blk_drewN ?_ _ | refine blk_drew ?_ | refine blk_alloc ?_ _)); refine blk_put (cs := #[.int .i64 t339, .int .i64 1, .int .i64 x341002_3, .int .i64 0, .int .i64 0, .int .i64 0, .int .i64 0, .int .i64 0, .int .i64 0, .int .i64 0, .int .i64 0, .int .i64 0]) ?_ 3 _ rfl; (with_reducible repeat (first | refine blk_drewN ?_ _ | refine blk_drew ?_ | refine blk_alloc ?_ _)); refine blk_put (cs := #[.int .i64 t339, .int .i64 1, .int .i64 0, .int .i64 0, .int .i64 0, .int .i64 0, .int .i64 0, .int .i64 0, .int .i64 0, .int .i64 0, .int .i64 0, .int .i64 0]) ?_ 2 _ rfl; (with_reducible repeat (first | refine blk_drewN ?_ _ | refine blk_drew ?_ | refine blk_alloc ?_ _)); refine blk_put (cs := #[.int .i64 t339, .int .i64 0, .int .i64 0, .int .i64 0, .int .i64 0, .int .i64 0, .int .i64 0, .int .i64 0, .int .i64 0, .int .i64 0, .int .i64 0, .int .i64 0]) ?_ 1 _ rfl; (with_reducible repeat (first | refine blk_drewN ?_ _ | refine blk_drew ?_ | refine blk_alloc ?_ _)); refine blk_put (cs := #[.int .i64 0, .int .i64 0, .int .i64 0, .int .i64 0, .int .i64 0, .int .i64 0, .int .i64 0, .int .i64 0, .int .i64 0, .int .i64 0, .int .i64 0, .int .i64 0]) ?_ 0 _ rfl; (with_reducible repeat (first | refine blk_drewN ?_ _ | refine blk_drew ?_ | refine blk_alloc ?_ _)); refine blk_far ?_ NB338_340.out _; (with_reducible repeat (first | refine blk_drewN ?_ _ | refine blk_drew ?_ | refine blk_alloc ?_ _)); exact BK338.out) Try.underlying27 rfl (by kernel_rfl)) rfl ?_
        exact ⟨by first | rfl | (simp [errW_none, errW_some] <;> rfl) | (simp [*, errW_none, errW_some] <;> rfl), by repeat (first | (with_reducible first | exact HB.out | apply below_alloc | apply pw_below_drewN | apply below_drew1 | refine below_set ?_ GE338.out | refine below_set ?_ GE340.out) | exact HB.out)⟩
       ·replace c27 := Bool.eq_false_iff.mpr c27
        subst c27
        have H1 : (some (t339, x341001_13, x341002_3, x341003_3, x341004_3, x341005_3, x341006_3, x341007_13, x341008_13, x341009_13, x341010_13, x341011_13)) = some (r1, r2, r3, r4, r5, r6, r7, r8, r9, r10, r11, r12) := by rw [if_neg (show ¬ (false = true) by decide)] at H; exact H
        clear H
        have H := H1
        clear H1
        simp only [Option.some.injEq, Prod.mk.injEq] at H
        obtain ⟨rfl, rfl, rfl, rfl, rfl, rfl, rfl, rfl, rfl, rfl, rfl, rfl⟩ := H
        have hnb31 := NB340_338.out
        have hnc31 := NB338_340.out
        have hcz32_0 : wc.cell? ⟨gb340, 0, none⟩ = some (.int .i64 t339) := (blk_cell BK340.out 0).trans rfl
        have hcz32_1 : wc.cell? ⟨gb340, 1, none⟩ = some (.int .i64 x341001_13) := (blk_cell BK340.out 1).trans rfl
        have hcz32_2 : wc.cell? ⟨gb340, 2, none⟩ = some (.int .i64 x341002_3) := (blk_cell BK340.out 2).trans rfl
        have hcz32_3 : wc.cell? ⟨gb340, 3, none⟩ = some (.int .i64 x341003_3) := (blk_cell BK340.out 3).trans rfl
        have hcz32_4 : wc.cell? ⟨gb340, 4, none⟩ = some (.int .i64 x341004_3) := (blk_cell BK340.out 4).trans rfl
        have hcz32_5 : wc.cell? ⟨gb340, 5, none⟩ = some (.int .i64 x341005_3) := (blk_cell BK340.out 5).trans rfl
        have hcz32_6 : wc.cell? ⟨gb340, 6, none⟩ = some (.int .i64 x341006_3) := (blk_cell BK340.out 6).trans rfl
        have hcz32_7 : wc.cell? ⟨gb340, 7, none⟩ = some (.int .i64 x341007_13) := (blk_cell BK340.out 7).trans rfl
        have hcz32_8 : wc.cell? ⟨gb340, 8, none⟩ = some (.int .i64 x341008_13) := (blk_cell BK340.out 8).trans rfl
        have hcz32_9 : wc.cell? ⟨gb340, 9, none⟩ = some (.int .i64 x341009_13) := (blk_cell BK340.out 9).trans rfl
        have hcz32_10 : wc.cell? ⟨gb340, 10, none⟩ = some (.int .i64 x341010_13) := (blk_cell BK340.out 10).trans rfl
        have hcz32_11 : wc.cell? ⟨gb340, 11, none⟩ = some (.int .i64 x341011_13) := (blk_cell BK340.out 11).trans rfl
        have hfz32_0 := blk_frozen BK340.out 0
        have hfz32_1 := blk_frozen BK340.out 1
        have hfz32_2 := blk_frozen BK340.out 2
        have hfz32_3 := blk_frozen BK340.out 3
        have hfz32_4 := blk_frozen BK340.out 4
        have hfz32_5 := blk_frozen BK340.out 5
        have hfz32_6 := blk_frozen BK340.out 6
        have hfz32_7 := blk_frozen BK340.out 7
        have hfz32_8 := blk_frozen BK340.out 8
        have hfz32_9 := blk_frozen BK340.out 9
        have hfz32_10 := blk_frozen BK340.out 10
        have hfz32_11 := blk_frozen BK340.out 11
        have hcz33_0 : wc.cell? ⟨gb338, 0, none⟩ = some (.int .i64 0) := (blk_cell BK338.out 0).trans rfl
        have hcz33_1 : wc.cell? ⟨gb338, 1, none⟩ = some (.int .i64 0) := (blk_cell BK338.out 1).trans rfl
        have hcz33_2 : wc.cell? ⟨gb338, 2, none⟩ = some (.int .i64 0) := (blk_cell BK338.out 2).trans rfl
        have hcz33_3 : wc.cell? ⟨gb338, 3, none⟩ = some (.int .i64 0) := (blk_cell BK338.out 3).trans rfl
        have hcz33_4 : wc.cell? ⟨gb338, 4, none⟩ = some (.int .i64 0) := (blk_cell BK338.out 4).trans rfl
        have hcz33_5 : wc.cell? ⟨gb338, 5, none⟩ = some (.int .i64 0) := (blk_cell BK338.out 5).trans rfl
        have hcz33_6 : wc.cell? ⟨gb338, 6, none⟩ = some (.int .i64 0) := (blk_cell BK338.out 6).trans rfl
        have hcz33_7 : wc.cell? ⟨gb338, 7, none⟩ = some (.int .i64 0) := (blk_cell BK338.out 7).trans rfl
        have hcz33_8 : wc.cell? ⟨gb338, 8, none⟩ = some (.int .i64 0) := (blk_cell BK338.out 8).trans rfl
        have hcz33_9 : wc.cell? ⟨gb338, 9, none⟩ = some (.int .i64 0) := (blk_cell BK338.out 9).trans rfl
        have hcz33_10 : wc.cell? ⟨gb338, 10, none⟩ = some (.int .i64 0) := (blk_cell BK338.out 10).trans rfl
        have hcz33_11 : wc.cell? ⟨gb338, 11, none⟩ = some (.int .i64 0) := (blk_cell BK338.out 11).trans rfl
        have hfz33_0 := blk_frozen BK338.out 0
        have hfz33_1 := blk_frozen BK338.out 1
        have hfz33_2 := blk_frozen BK338.out 2
        have hfz33_3 := blk_frozen BK338.out 3
        have hfz33_4 := blk_frozen BK338.out 4
        have hfz33_5 := blk_frozen BK338.out 5
        have hfz33_6 := blk_frozen BK338.out 6
        have hfz33_7 := blk_frozen BK338.out 7
        have hfz33_8 := blk_frozen BK338.out 8
        have hfz33_9 := blk_frozen BK338.out 9
        have hfz33_10 := blk_frozen BK338.out 10
        have hfz33_11 := blk_frozen BK338.out 11
        go_wp2
        refine bodyPost_ret (results_cell_row rfl _ _ gb338 27 #[.int .i64 t339, .int .i64 x341001_13, .int .i64 x341002_3, .int .i64 x341003_3, .int .i64 x341004_3, .int .i64 x341005_3, .int .i64 x341006_3, .int .i64 x341007_13, .int .i64 x341008_13, .int .i64 x341009_13, .int .i64 x341010_13, .int .i64 x341011_13] (0, 0) _ rfl (by (with_reducible repeat (first | refine blk_drewN ?_ _ | refine blk_drew ?_ | refine blk_alloc ?_ _)); refine blk_put (cs := #[.int .i64 t339, .int .i64 x341001_13, .int .i64 x341002_3, .int .i64 x341003_3, .int .i64 x341004_3, .int .i64 x341005_3, .int .i64 x341006_3, .int .i64 x341007_13, .int .i64 x341008_13, .int .i64 x341009_13, .int .i64 x341010_13, .int .i64 0]) ?_ 11 _ rfl; (with_reducible repeat (first | refine blk_drewN ?_ _ | refine blk_drew ?_ | refine blk_alloc ?_ _)); refine blk_put (cs := #[.int .i64 t339, .int .i64 x341001_13, .int .i64 x341002_3, .int .i64 x341003_3, .int .i64 x341004_3, .int .i64 x341005_3, .int .i64 x341006_3, .int .i64 x341007_13, .int .i64 x341008_13, .int .i64 x341009_13, .int .i64 0, .int .i64 0]) ?_ 10 _ rfl; (with_reducible repeat (first | refine blk_drewN ?_ _ | refine blk_drew ?_ | refine blk_alloc ?_ _)); refine blk_put (cs := #[.int .i64 t339, .int .i64 x341001_13, .int .i64 x341002_3, .int .i64 x341003_3, .int .i64 x341004_3, .int .i64 x341005_3, .int .i64 x341006_3, .int .i64 x341007_13, .int .i64 x341008_13, .int .i64 0, .int .i64 0, .int .i64 0]) ?_ 9 _ rfl; (with_reducible repeat (first | refine blk_drewN ?_ _ | refine blk_drew ?_ | refine blk_alloc ?_ _)); refine blk_put (cs := #[.int .i64 t339, .int .i64 x341001_13, .int .i64 x341002_3, .int .i64 x341003_3, .int .i64 x341004_3, .int .i64 x341005_3, .int .i64 x341006_3, .int .i64 x341007_13, .int .i64 0, .int .i64 0, .int .i64 0, .int .i64 0]) ?_ 8 _ rfl; (with_reducible repeat (first | refine blk_drewN ?_ _ | refine blk_drew ?_ | refine blk_alloc ?_ _)); refine blk_put (cs := #[.int .i64 t339, .int .i64 x341001_13, .int .i64 x341002_3, .int .i64 x341003_3, .int .i64 x341004_3, .int .i64 x341005_3, .int .i64 x341006_3, .int .i64 0, .int .i64 0, .int .i64 0, .int .i64 0, .int .i64 0]) ?_ 7 _ rfl; (with_reducible repeat (first | refine blk_drewN ?_ _ | refine blk_drew ?_ | refine blk_alloc ?_ _)); refine blk_put (cs := #[.int .i64 t339, .int .i64 x341001_13, .int .i64 x341002_3, .int .i64 x341003_3, .int .i64 x341004_3, .int .i64 x341005_3, .int .i64 0, .int .i64 0, .int .i64 0, .int .i64 0, .int .i64 0, .int .i64 0]) ?_ 6 _ rfl; (with_reducible repeat (first | refine blk_drewN ?_ _ | refine blk_drew ?_ | refine blk_alloc ?_ _)); refine blk_put (cs := #[.int .i64 t339, .int .i64 x341001_13, .int .i64 x341002_3, .int .i64 x341003_3, .int .i64 x341004_3, .int .i64 0, .int .i64 0, .int .i64 0, .int .i64 0, .int .i64 0, .int .i64 0, .int .i64 0]) ?_ 5 _ rfl; (with_reducible repeat (first | refine blk_drewN ?_ _ | refine blk_drew ?_ | refine blk_alloc ?_ _)); refine blk_put (cs := #[.int .i64 t339, .int .i64 x341001_13, .int .i64 x341002_3, .int .i64 x341003_3, .int .i64 0, .int .i64 0, .int .i64 0, .int .i64 0, .int .i64 0, .int .i64 0, .int .i64 0, .int .i64 0]) ?_ 4 _ rfl; (with_reducible repeat (first | refine blk_drewN ?_ _ | refine blk_drew ?_ | refine blk_alloc ?_ _)); refine blk_put (cs := #[.int .i64 t339, .int .i64 x341001_13, .int .i64 x341002_3, .int .i64 0, .int .i64 0, .int .i64 0, .int .i64 0, .int .i64 0, .int .i64 0, .int .i64 0, .int .i64 0, .int .i64 0]) ?_ 3 _ rfl; (with_reducible repeat (first | refine blk_drewN ?_ _ | refine blk_drew ?_ | refine blk_alloc ?_ _)); refine blk_put (cs := #[.int .i64 t339, .int .i64 x341001_13, .int .i64 0, .int .i64 0, .int .i64 0, .int .i64 0, .int .i64 0, .int .i64 0, .int .i64 0, .int .i64 0, .int .i64 0, .int .i64 0]) ?_ 2 _ rfl; (with_reducible repeat (first | refine blk_drewN ?_ _ | refine blk_drew ?_ | refine blk_alloc ?_ _)); refine blk_put (cs := #[.int .i64 t339, .int .i64 0, .int .i64 0, .int .i64 0, .int .i64 0, .int .i64 0, .int .i64 0, .int .i64 0, .int .i64 0, .int .i64 0, .int .i64 0, .int .i64 0]) ?_ 1 _ rfl; (with_reducible repeat (first | refine blk_drewN ?_ _ | refine blk_drew ?_ | refine blk_alloc ?_ _)); refine blk_put (cs := #[.int .i64 0, .int .i64 0, .int .i64 0, .int .i64 0, .int .i64 0, .int .i64 0, .int .i64 0, .int .i64 0, .int .i64 0, .int .i64 0, .int .i64 0, .int .i64 0]) ?_ 0 _ rfl; (with_reducible repeat (first | refine blk_drewN ?_ _ | refine blk_drew ?_ | refine blk_alloc ?_ _)); exact BK338.out) Try.underlying27 rfl (by kernel_rfl)) rfl ?_
        exact ⟨by first | rfl | (simp [errW_none, errW_some] <;> rfl) | (simp [*, errW_none, errW_some] <;> rfl), by repeat (first | (with_reducible first | exact HB.out | apply below_alloc | apply pw_below_drewN | apply below_drew1 | refine below_set ?_ GE338.out | refine below_set ?_ GE340.out) | exact HB.out)⟩

end Go.Proofs.Ytcbjbgleflbpmaa.Print
