-- PRINTED by print.py (a twelfth state) out of the translation. Not trusted: Lean checks it.
import Derived.Test.YtmkjljekofondaaPrint0
import Derived.Test.YtmkjljekofondaaPrint4
import Derived.Test.YtmkjljekofondaaPrint11
namespace Go.Proofs.Ytmkjljekofondaa.Print
open Go.RowKit Go.Proofs.YtmkjljekofondaaW.PrintWords Go.Proofs.YtmkjljekofondaaW.PrintLast Go.Proofs.YtmkjljekofondaaW.PrintMore Go.Proofs.YtmkjljekofondaaX
attribute [local go_sem] max2_int min2_int max_two min_two max_three min_three max_four min_four   -- for this text's walks alone
set_option linter.unusedVariables false
set_option linter.unusedSimpArgs false

/-! ### palletlaw06_OscBack: function 6 -/
mutual
def palletlaw06_OscBack.j1 : Nat → Int → Bool → Int → Int → Int → Option (Bool)
 | 0, _, _, _, _, _ => none
 | k + 1, x1, x7, x238000, x238001, x238002 => (osc_Run.f k x238000 x238001 x238002 x1).bind fun bt253 => (if bt253.2.2.2.2 = 0 then ((osc_Ticks.f k x238000 x238001 x238002 bt253.1).bind fun bt259 => (if x7 = true then (if bt259.2 = 0 then (some (decide (bt259.1 ≥ x1))) else (some false)) else (some false))) else (some x7))
def palletlaw06_OscBack.j0 : Nat → Int → Int → Bool → Int → Bool → Int → Int → Int → Option (Bool)
 | 0, _, _, _, _, _, _, _, _ => none
 | k + 1, x1, x2, x7, x8, x53, x238000, x238001, x238002 => if x53 = true then (some false) else (if x8 < 1099511627776 then ((osc_Run.f k x238000 x238001 x238002 (wrap64 (x8 + 1))).bind fun bt247 => (if bt247.2.2.2.2 = 0 then (if bt247.1 ≤ x2 then (some false) else (palletlaw06_OscBack.j1 k x1 x7 x238000 x238001 x238002)) else (if bt247.2.2.2.2 = 2 then (palletlaw06_OscBack.j1 k x1 x7 x238000 x238001 x238002) else (some false)))) else (palletlaw06_OscBack.j1 k x1 x7 x238000 x238001 x238002))
end
def palletlaw06_OscBack.f (k : Nat) (a0_0 : Int) (a0_1 : Int) (a0_2 : Int) (a1 : Int) (a2 : Int) : Option (Bool) := (palletlaw06_live.f k).bind fun t238 => (if t238 = true then ((osc_Ticks.f k a0_0 a0_1 a0_2 a2).bind fun bt239 => (if bt239.2 = 0 then ((osc_Run.f k a0_0 a0_1 a0_2 bt239.1).bind fun bt241 => (if bt241.2.2.2.2 = 0 then (if bt241.1 > a2 then (palletlaw06_OscBack.j0 k a1 a2 t238 bt239.1 true a0_0 a0_1 a0_2) else (if bt239.1 < 0 then (palletlaw06_OscBack.j0 k a1 a2 t238 bt239.1 true a0_0 a0_1 a0_2) else (palletlaw06_OscBack.j0 k a1 a2 t238 bt239.1 (decide (bt239.1 > 1099511627776)) a0_0 a0_1 a0_2))) else (palletlaw06_OscBack.j0 k a1 a2 t238 bt239.1 true a0_0 a0_1 a0_2))) else (palletlaw06_OscBack.j1 k a1 t238 a0_0 a0_1 a0_2))) else (some false))
theorem palletlaw06_OscBack.mono_l : ∀ k, (∀ y0 y1 y2 y3 y4, LeO (palletlaw06_OscBack.j1 k y0 y1 y2 y3 y4) (palletlaw06_OscBack.j1 (k + 1) y0 y1 y2 y3 y4)) ∧ (∀ y0 y1 y2 y3 y4 y5 y6 y7, LeO (palletlaw06_OscBack.j0 k y0 y1 y2 y3 y4 y5 y6 y7) (palletlaw06_OscBack.j0 (k + 1) y0 y1 y2 y3 y4 y5 y6 y7))
 | 0 => ⟨fun _ _ _ _ _ r h => by simp [palletlaw06_OscBack.j1] at h, fun _ _ _ _ _ _ _ _ r h => by simp [palletlaw06_OscBack.j0] at h⟩
 | k + 1 => by
  obtain ⟨ih0, ih1⟩ := palletlaw06_OscBack.mono_l k
  refine ⟨?_, ?_⟩
  ·intro y0 y1 y2 y3 y4
   unfold palletlaw06_OscBack.j1
   repeat' first
   | (with_reducible exact ih0 _ _ _ _ _)
   | (with_reducible exact ih1 _ _ _ _ _ _ _ _)
   | (with_reducible exact osc_Run.mono _ _ _ _ _)
   | (with_reducible exact osc_Ticks.mono _ _ _ _ _)
   | (with_reducible exact palletlaw06_live.mono _)
   | (with_reducible exact LeO.refl _)
   | (with_reducible exact LeO.none _)
   | (with_reducible refine LeO.ite ?_ ?_)
   | (with_reducible refine LeO.bind ?_ (fun _ => ?_))
   | exact ih0 _ _ _ _ _
   | exact ih1 _ _ _ _ _ _ _ _
   | exact osc_Run.mono _ _ _ _ _
   | exact osc_Ticks.mono _ _ _ _ _
   | exact palletlaw06_live.mono _
   | exact LeO.none _
   | refine LeO.ite ?_ ?_
   | refine LeO.bind ?_ (fun _ => ?_)
  ·intro y0 y1 y2 y3 y4 y5 y6 y7
   unfold palletlaw06_OscBack.j0
   repeat' first
   | (with_reducible exact ih0 _ _ _ _ _)
   | (with_reducible exact ih1 _ _ _ _ _ _ _ _)
   | (with_reducible exact osc_Run.mono _ _ _ _ _)
   | (with_reducible exact osc_Ticks.mono _ _ _ _ _)
   | (with_reducible exact palletlaw06_live.mono _)
   | (with_reducible exact LeO.refl _)
   | (with_reducible exact LeO.none _)
   | (with_reducible refine LeO.ite ?_ ?_)
   | (with_reducible refine LeO.bind ?_ (fun _ => ?_))
   | exact ih0 _ _ _ _ _
   | exact ih1 _ _ _ _ _ _ _ _
   | exact osc_Run.mono _ _ _ _ _
   | exact osc_Ticks.mono _ _ _ _ _
   | exact palletlaw06_live.mono _
   | exact LeO.none _
   | refine LeO.ite ?_ ?_
   | refine LeO.bind ?_ (fun _ => ?_)
theorem palletlaw06_OscBack.mono : ∀ a0 a1 a2 a3 a4 k, LeO (palletlaw06_OscBack.f k a0 a1 a2 a3 a4) (palletlaw06_OscBack.f (k + 1) a0 a1 a2 a3 a4) := by
 intro a0 a1 a2 a3 a4 k
 obtain ⟨ih0, ih1⟩ := palletlaw06_OscBack.mono_l k
 unfold palletlaw06_OscBack.f
 repeat' first
   | (with_reducible exact ih0 _ _ _ _ _)
   | (with_reducible exact ih1 _ _ _ _ _ _ _ _)
   | (with_reducible exact osc_Run.mono _ _ _ _ _)
   | (with_reducible exact osc_Ticks.mono _ _ _ _ _)
   | (with_reducible exact palletlaw06_live.mono _)
   | (with_reducible exact LeO.refl _)
   | (with_reducible exact LeO.none _)
   | (with_reducible refine LeO.ite ?_ ?_)
   | (with_reducible refine LeO.bind ?_ (fun _ => ?_))
   | exact ih0 _ _ _ _ _
   | exact ih1 _ _ _ _ _ _ _ _
   | exact osc_Run.mono _ _ _ _ _
   | exact osc_Ticks.mono _ _ _ _ _
   | exact palletlaw06_live.mono _
   | exact LeO.none _
   | refine LeO.ite ?_ ?_
   | refine LeO.bind ?_ (fun _ => ?_)
set_option maxHeartbeats 8000000 in
set_option maxRecDepth 100000 in
theorem palletlaw06_OscBack.calls (k : Nat) (a0_0 : Int) (a0_1 : Int) (a0_2 : Int) (a1 : Int) (a2 : Int) (r : Bool) (w : World) (hr_ : Aside0 (r = true)) (h : palletlaw06_OscBack.f k a0_0 a0_1 a0_2 a1 a2 = some r) :
  Calls Try.prog 6 #[.agg #[.int .i64 a0_0, .int .i64 a0_1, .int .i64 a0_2], .int .i64 a1, .int .i64 a2] w fun e w' => e = .returned (.bool r) ∧ Below w.heap.size w w' := by
 have hu23 := Try.underlying23
 have HB := Aside0.mk (Below.refl w.heap.size w)
 have H : ((palletlaw06_live.f k).bind fun t238 => (if t238 = true then ((osc_Ticks.f k a0_0 a0_1 a0_2 a2).bind fun bt239 => (if bt239.2 = 0 then ((osc_Run.f k a0_0 a0_1 a0_2 bt239.1).bind fun bt241 => (if bt241.2.2.2.2 = 0 then (if bt241.1 > a2 then (palletlaw06_OscBack.j0 k a1 a2 t238 bt239.1 true a0_0 a0_1 a0_2) else (if bt239.1 < 0 then (palletlaw06_OscBack.j0 k a1 a2 t238 bt239.1 true a0_0 a0_1 a0_2) else (palletlaw06_OscBack.j0 k a1 a2 t238 bt239.1 (decide (bt239.1 > 1099511627776)) a0_0 a0_1 a0_2))) else (palletlaw06_OscBack.j0 k a1 a2 t238 bt239.1 true a0_0 a0_1 a0_2))) else (palletlaw06_OscBack.j1 k a1 t238 a0_0 a0_1 a0_2))) else (some false))) = some r := h
 clear h
 replace H := Option.bind_eq_some_iff.mp H
 obtain ⟨t238, A40, H⟩ := H
 replace H : (if t238 = true then ((osc_Ticks.f k a0_0 a0_1 a0_2 a2).bind fun bt239 => (if bt239.2 = 0 then ((osc_Run.f k a0_0 a0_1 a0_2 bt239.1).bind fun bt241 => (if bt241.2.2.2.2 = 0 then (if bt241.1 > a2 then (palletlaw06_OscBack.j0 k a1 a2 t238 bt239.1 true a0_0 a0_1 a0_2) else (if bt239.1 < 0 then (palletlaw06_OscBack.j0 k a1 a2 t238 bt239.1 true a0_0 a0_1 a0_2) else (palletlaw06_OscBack.j0 k a1 a2 t238 bt239.1 (decide (bt239.1 > 1099511627776)) a0_0 a0_1 a0_2))) else (palletlaw06_OscBack.j0 k a1 a2 t238 bt239.1 true a0_0 a0_1 a0_2))) else (palletlaw06_OscBack.j1 k a1 t238 a0_0 a0_1 a0_2))) else (some false)) = some r := H
 have A4 := Aside0.mk A40
 clear A40
 by_cases c5 : t238 = true
 ·subst c5
  have H1 : ((osc_Ticks.f k a0_0 a0_1 a0_2 a2).bind fun bt239 => (if bt239.2 = 0 then ((osc_Run.f k a0_0 a0_1 a0_2 bt239.1).bind fun bt241 => (if bt241.2.2.2.2 = 0 then (if bt241.1 > a2 then (palletlaw06_OscBack.j0 k a1 a2 true bt239.1 true a0_0 a0_1 a0_2) else (if bt239.1 < 0 then (palletlaw06_OscBack.j0 k a1 a2 true bt239.1 true a0_0 a0_1 a0_2) else (palletlaw06_OscBack.j0 k a1 a2 true bt239.1 (decide (bt239.1 > 1099511627776)) a0_0 a0_1 a0_2))) else (palletlaw06_OscBack.j0 k a1 a2 true bt239.1 true a0_0 a0_1 a0_2))) else (palletlaw06_OscBack.j1 k a1 true a0_0 a0_1 a0_2))) = some r := by rw [if_pos rfl] at H; exact H
  clear H
  have H := H1
  clear H1
  replace H := Option.bind_eq_some_iff.mp H
  obtain ⟨⟨t239, t240⟩, A60, H⟩ := H
  replace H : (if t240 = 0 then ((osc_Run.f k a0_0 a0_1 a0_2 t239).bind fun bt241 => (if bt241.2.2.2.2 = 0 then (if bt241.1 > a2 then (palletlaw06_OscBack.j0 k a1 a2 true t239 true a0_0 a0_1 a0_2) else (if t239 < 0 then (palletlaw06_OscBack.j0 k a1 a2 true t239 true a0_0 a0_1 a0_2) else (palletlaw06_OscBack.j0 k a1 a2 true t239 (decide (t239 > 1099511627776)) a0_0 a0_1 a0_2))) else (palletlaw06_OscBack.j0 k a1 a2 true t239 true a0_0 a0_1 a0_2))) else (palletlaw06_OscBack.j1 k a1 true a0_0 a0_1 a0_2)) = some r := H
  have A6 := Aside0.mk A60
  clear A60
  have HC7 := Aside0.mk H
  clear H
  go_enter Try.func6, Try.ntmps6
  go_upto_if 31 with (first | ((with_reducible refine gate_dst (N := 3) rfl ?_); refine box_event ?hg (N := 3) ?hd (cs := #[.int .i64 a0_0, .int .i64 a0_1, .int .i64 a0_2]) (t := 23) ?hr ?_; (case hd => rfl); (case hg => rfl); (case hr => first | (go_simp; done) | (go_simp; rfl)); intro gb237 hg w8 hbox hb; have n0_ := Aside0.mk (below_step (by repeat (first | (with_reducible first | exact HB.out | apply below_alloc | apply pw_below_drewN | apply below_drew1) | exact HB.out)) hb); have n1_ := Aside0.mk (hbox); have n2_ := Aside0.mk ((by rw [hg]; exact (below_size (by repeat (first | (with_reducible first | exact HB.out | apply below_alloc | apply pw_below_drewN | apply below_drew1) | exact HB.out))) : w.heap.size ≤ gb237)); have n3_ := Aside0.mk ((by rw [hg]; exact (below_size (by repeat (first | (with_reducible first | exact HB.out | apply below_alloc | apply pw_below_drewN | apply below_drew1) | exact HB.out))) : w.heap.size ≤ gb237)); clear HB; have HB := n0_; have BK237 := n1_; have GW237 := n2_; have GE237 := n3_; clear n0_ n1_ n2_ n3_; clear hb hbox hg) | ((with_reducible refine gate_callee (f := 14) rfl ?_); refine goesL_ (some 21) rfl rfl Try.func14 (by kernel_rfl) rfl #[] rfl (by (try simp only [List.map_toArray, List.map_cons, List.map_nil]); first | done | rfl | (simp only [List.length_drop, List.length_take]; rfl)) ?_; (with_reducible refine (palletlaw06_live.calls k  true _ A4.out).mono ?_); rintro e w9 ⟨rfl, hb⟩; refine ⟨_, rfl, ?_⟩; have n0_ := Aside0.mk (blk_below (g := gb237) (o := .cells #[.int .i64 a0_0, .int .i64 a0_1, .int .i64 a0_2] 23 (0, 0)) (by (with_reducible repeat (first | refine blk_drewN ?_ _ | refine blk_drew ?_ | refine blk_alloc ?_ _)); exact BK237.out) hb); have n1_ := Aside0.mk (below_step (by repeat (first | (with_reducible first | exact HB.out | apply below_alloc | apply pw_below_drewN | apply below_drew1 | refine below_set ?_ GE237.out) | exact HB.out)) hb); clear BK237; clear HB; have BK237 := n0_; have HB := n1_; clear n0_ n1_; (try clear hb); (try clear hb2); (try clear hk); (try clear hi); have hcz10_0 : w9.cell? ⟨gb237, 0, none⟩ = some (.int .i64 a0_0) := (blk_cell BK237.out 0).trans rfl; have hcz10_1 : w9.cell? ⟨gb237, 1, none⟩ = some (.int .i64 a0_1) := (blk_cell BK237.out 1).trans rfl; have hcz10_2 : w9.cell? ⟨gb237, 2, none⟩ = some (.int .i64 a0_2) := (blk_cell BK237.out 2).trans rfl; have hfz10_0 := blk_frozen BK237.out 0; have hfz10_1 := blk_frozen BK237.out 1; have hfz10_2 := blk_frozen BK237.out 2) | ((with_reducible refine gate_callee (f := 19) rfl ?_); refine goesL_ (some 27) rfl rfl Try.func19 (by kernel_rfl) rfl #[.agg #[.int .i64 a0_0, .int .i64 a0_1, .int .i64 a0_2], .int .i64 a2] rfl (by (try simp only [List.map_toArray, List.map_cons, List.map_nil]); first | done | rfl | (simp only [List.length_drop, List.length_take]; rfl)) ?_; (with_reducible refine (osc_Ticks.calls k a0_0 a0_1 a0_2 a2 t239 t240 _ A6.out).mono ?_); rintro e w11 ⟨rfl, hb⟩; refine ⟨_, rfl, ?_⟩; have n0_ := Aside0.mk (blk_below (g := gb237) (o := .cells #[.int .i64 a0_0, .int .i64 a0_1, .int .i64 a0_2] 23 (0, 0)) (by (with_reducible repeat (first | refine blk_drewN ?_ _ | refine blk_drew ?_ | refine blk_alloc ?_ _)); exact BK237.out) hb); have n1_ := Aside0.mk (below_step (by repeat (first | (with_reducible first | exact HB.out | apply below_alloc | apply pw_below_drewN | apply below_drew1 | refine below_set ?_ GE237.out) | exact HB.out)) hb); clear BK237; clear HB; have BK237 := n0_; have HB := n1_; clear n0_ n1_; (try clear hb); (try clear hb2); (try clear hk); (try clear hi)))
  (try simp only [Act.put, List.setIfInBounds_toArray, List.set_cons_zero, List.set_cons_succ])
  go_cut [] (fun wc => ∃ (kq : Nat), Aside0 (palletlaw06_OscBack.j1 kq a1 true a0_0 a0_1 a0_2 = some r) ∧ Aside0 (kq ≤ k) ∧ Aside0 (wc.heap[gb237]? = some (.cells #[.int .i64 a0_0, .int .i64 a0_1, .int .i64 a0_2] 23 (0, 0))) ∧ Aside0 (Below w.heap.size w wc))
  case first =>
   have H := HC7.out
   clear HC7
   by_cases c12 : t240 = 0
   ·rw [if_pos c12] at H
    have c12b0 : (t240 == 0) = true := beq_iff_eq.mpr c12
    have c12b1 : (t240 != 0) = false := bne_eq_false_iff_eq.mpr c12
    clear c12
    (first | rw [c12b0] | (simp only [i64_w, i32_w]; rw [c12b0]) | skip)
    replace H := Option.bind_eq_some_iff.mp H
    obtain ⟨⟨t241, t242, t243, t244, t245⟩, A130, H⟩ := H
    replace H : (if t245 = 0 then (if t241 > a2 then (palletlaw06_OscBack.j0 k a1 a2 true t239 true a0_0 a0_1 a0_2) else (if t239 < 0 then (palletlaw06_OscBack.j0 k a1 a2 true t239 true a0_0 a0_1 a0_2) else (palletlaw06_OscBack.j0 k a1 a2 true t239 (decide (t239 > 1099511627776)) a0_0 a0_1 a0_2))) else (palletlaw06_OscBack.j0 k a1 a2 true t239 true a0_0 a0_1 a0_2)) = some r := H
    have A13 := Aside0.mk A130
    clear A130
    have HC14 := Aside0.mk H
    clear H
    have hcz15_0 : w11.cell? ⟨gb237, 0, none⟩ = some (.int .i64 a0_0) := (blk_cell BK237.out 0).trans rfl
    have hcz15_1 : w11.cell? ⟨gb237, 1, none⟩ = some (.int .i64 a0_1) := (blk_cell BK237.out 1).trans rfl
    have hcz15_2 : w11.cell? ⟨gb237, 2, none⟩ = some (.int .i64 a0_2) := (blk_cell BK237.out 2).trans rfl
    have hfz15_0 := blk_frozen BK237.out 0
    have hfz15_1 := blk_frozen BK237.out 1
    have hfz15_2 := blk_frozen BK237.out 2
    go_upto_region 7 with (first | ((with_reducible refine gate_callee (f := 16) rfl ?_); refine goesL_ (some 35) rfl rfl Try.func16 (by kernel_rfl) rfl #[.agg #[.int .i64 a0_0, .int .i64 a0_1, .int .i64 a0_2], .int .i64 t239] rfl (by (try simp only [List.map_toArray, List.map_cons, List.map_nil]); first | done | rfl | (simp only [List.length_drop, List.length_take]; rfl)) ?_; (with_reducible refine (osc_Run.calls k a0_0 a0_1 a0_2 t239 t241 t242 t243 t244 t245 _ A13.out).mono ?_); rintro e w16 ⟨rfl, hb⟩; refine ⟨_, rfl, ?_⟩; have n0_ := Aside0.mk (blk_below (g := gb237) (o := .cells #[.int .i64 a0_0, .int .i64 a0_1, .int .i64 a0_2] 23 (0, 0)) (by (with_reducible repeat (first | refine blk_drewN ?_ _ | refine blk_drew ?_ | refine blk_alloc ?_ _)); exact BK237.out) hb); have n1_ := Aside0.mk (below_step (by repeat (first | (with_reducible first | exact HB.out | apply below_alloc | apply pw_below_drewN | apply below_drew1 | refine below_set ?_ GE237.out) | exact HB.out)) hb); clear BK237; clear HB; have BK237 := n0_; have HB := n1_; clear n0_ n1_; (try clear hb); (try clear hb2); (try clear hk); (try clear hi)) | ((with_reducible refine gate_dst (N := 11) rfl ?_); refine box_event ?hg (N := 11) ?hd (cs := #[.int .i64 0, .int .i64 0, .int .i64 0]) (t := 23) ?hr ?_; (case hd => rfl); (case hg => rfl); (case hr => first | (go_simp; done) | (go_simp; rfl)); intro gb246 hg w17 hbox hb; have n0_ := Aside0.mk (blk_below (g := gb237) (o := .cells #[.int .i64 a0_0, .int .i64 a0_1, .int .i64 a0_2] 23 (0, 0)) (by (with_reducible repeat (first | refine blk_drewN ?_ _ | refine blk_drew ?_ | refine blk_alloc ?_ _)); exact BK237.out) hb); have n1_ := Aside0.mk (below_step (by repeat (first | (with_reducible first | exact HB.out | apply below_alloc | apply pw_below_drewN | apply below_drew1 | refine below_set ?_ GE237.out) | exact HB.out)) hb); have n2_ := Aside0.mk (hbox); have n3_ := Aside0.mk ((by rw [hg]; exact (below_size (by repeat (first | (with_reducible first | exact HB.out | apply below_alloc | apply pw_below_drewN | apply below_drew1 | refine below_set ?_ GE237.out) | exact HB.out))) : w.heap.size ≤ gb246)); have n4_ := Aside0.mk ((by rw [hg]; exact (below_size (by repeat (first | (with_reducible first | exact HB.out | apply below_alloc | apply pw_below_drewN | apply below_drew1 | refine below_set ?_ GE237.out) | exact HB.out))) : w.heap.size ≤ gb246)); have n5_ := Aside0.mk ((by rw [hg]; exact Nat.ne_of_lt (blk_lt (g := gb237) (o := .cells #[.int .i64 a0_0, .int .i64 a0_1, .int .i64 a0_2] 23 (0, 0)) (by (with_reducible repeat (first | refine blk_drewN ?_ _ | refine blk_drew ?_ | refine blk_alloc ?_ _)); exact BK237.out)) : gb237 ≠ gb246)); have n6_ := Aside0.mk ((by rw [hg]; exact Nat.ne_of_gt (blk_lt (g := gb237) (o := .cells #[.int .i64 a0_0, .int .i64 a0_1, .int .i64 a0_2] 23 (0, 0)) (by (with_reducible repeat (first | refine blk_drewN ?_ _ | refine blk_drew ?_ | refine blk_alloc ?_ _)); exact BK237.out)) : gb246 ≠ gb237)); clear BK237; clear HB; have BK237 := n0_; have HB := n1_; have BK246 := n2_; have GW246 := n3_; have GE246 := n4_; have NB237_246 := n5_; have NB246_237 := n6_; clear n0_ n1_ n2_ n3_ n4_ n5_ n6_; clear hb hbox hg; have hnb18 := NB246_237.out; have hnc18 := NB237_246.out; have hcz19_0 : w17.cell? ⟨gb246, 0, none⟩ = some (.int .i64 0) := (blk_cell BK246.out 0).trans rfl; have hcz19_1 : w17.cell? ⟨gb246, 1, none⟩ = some (.int .i64 0) := (blk_cell BK246.out 1).trans rfl; have hcz19_2 : w17.cell? ⟨gb246, 2, none⟩ = some (.int .i64 0) := (blk_cell BK246.out 2).trans rfl; have hfz19_0 := blk_frozen BK246.out 0; have hfz19_1 := blk_frozen BK246.out 1; have hfz19_2 := blk_frozen BK246.out 2))
    (try simp only [Act.put, List.setIfInBounds_toArray, List.set_cons_zero, List.set_cons_succ])
    go_cut [53] (fun v53 wc => ∃ (kq : Nat) (x53_13 : Bool), v53 = .bool x53_13 ∧ Aside0 (palletlaw06_OscBack.j0 kq a1 a2 true t239 x53_13 a0_0 a0_1 a0_2 = some r) ∧ Aside0 (kq ≤ k) ∧ Aside0 (wc.heap[gb237]? = some (.cells #[.int .i64 a0_0, .int .i64 a0_1, .int .i64 a0_2] 23 (0, 0))) ∧ Aside0 (wc.heap[gb246]? = some (.cells #[.int .i64 t242, .int .i64 t243, .int .i64 t244] 23 (0, 0))) ∧ Aside0 (Below w.heap.size w wc))
    case first =>
     have H := HC14.out
     clear HC14
     by_cases c20 : t245 = 0
     ·rw [if_pos c20] at H
      have c20b0 : (t245 == 0) = true := beq_iff_eq.mpr c20
      have c20b1 : (t245 != 0) = false := bne_eq_false_iff_eq.mpr c20
      clear c20
      (first | rw [c20b0] | (simp only [i64_w, i32_w]; rw [c20b0]) | skip)
      by_cases c21 : t241 > a2
      ·rw [if_pos c21] at H
       have c21b0 : decide (a2 < t241) = true := decide_eq_true c21
       clear c21
       have H' := Aside0.mk H
       clear H
       go_wp2
       go_meet
       case rel => exact ⟨_, (true), (by first | rfl | (simp; done) | (simp [*]; done)), H', ⟨by first | omega | exact Nat.le_refl _⟩, ⟨by (with_reducible repeat (first | refine blk_drewN ?_ _ | refine blk_drew ?_ | refine blk_alloc ?_ _)); refine blk_far ?_ NB237_246.out _; (with_reducible repeat (first | refine blk_drewN ?_ _ | refine blk_drew ?_ | refine blk_alloc ?_ _)); refine blk_far ?_ NB237_246.out _; (with_reducible repeat (first | refine blk_drewN ?_ _ | refine blk_drew ?_ | refine blk_alloc ?_ _)); refine blk_far ?_ NB237_246.out _; (with_reducible repeat (first | refine blk_drewN ?_ _ | refine blk_drew ?_ | refine blk_alloc ?_ _)); exact BK237.out⟩, ⟨by (with_reducible repeat (first | refine blk_drewN ?_ _ | refine blk_drew ?_ | refine blk_alloc ?_ _)); refine blk_put (cs := #[.int .i64 t242, .int .i64 t243, .int .i64 0]) ?_ 2 _ rfl; (with_reducible repeat (first | refine blk_drewN ?_ _ | refine blk_drew ?_ | refine blk_alloc ?_ _)); refine blk_put (cs := #[.int .i64 t242, .int .i64 0, .int .i64 0]) ?_ 1 _ rfl; (with_reducible repeat (first | refine blk_drewN ?_ _ | refine blk_drew ?_ | refine blk_alloc ?_ _)); refine blk_put (cs := #[.int .i64 0, .int .i64 0, .int .i64 0]) ?_ 0 _ rfl; (with_reducible repeat (first | refine blk_drewN ?_ _ | refine blk_drew ?_ | refine blk_alloc ?_ _)); exact BK246.out⟩, ⟨by repeat (first | (with_reducible first | exact HB.out | apply below_alloc | apply pw_below_drewN | apply below_drew1 | refine below_set ?_ GE237.out | refine below_set ?_ GE246.out) | exact HB.out)⟩⟩
      ·rw [if_neg c21] at H
       have c21b0 : decide (a2 < t241) = false := decide_eq_false c21
       clear c21
       by_cases c22 : t239 < 0
       ·rw [if_pos c22] at H
        have c22b0 : decide (t239 < 0) = true := decide_eq_true c22
        clear c22
        have H' := Aside0.mk H
        clear H
        go_wp2
        go_meet
        case rel => exact ⟨_, (true), (by first | rfl | (simp; done) | (simp [*]; done)), H', ⟨by first | omega | exact Nat.le_refl _⟩, ⟨by (with_reducible repeat (first | refine blk_drewN ?_ _ | refine blk_drew ?_ | refine blk_alloc ?_ _)); refine blk_far ?_ NB237_246.out _; (with_reducible repeat (first | refine blk_drewN ?_ _ | refine blk_drew ?_ | refine blk_alloc ?_ _)); refine blk_far ?_ NB237_246.out _; (with_reducible repeat (first | refine blk_drewN ?_ _ | refine blk_drew ?_ | refine blk_alloc ?_ _)); refine blk_far ?_ NB237_246.out _; (with_reducible repeat (first | refine blk_drewN ?_ _ | refine blk_drew ?_ | refine blk_alloc ?_ _)); exact BK237.out⟩, ⟨by (with_reducible repeat (first | refine blk_drewN ?_ _ | refine blk_drew ?_ | refine blk_alloc ?_ _)); refine blk_put (cs := #[.int .i64 t242, .int .i64 t243, .int .i64 0]) ?_ 2 _ rfl; (with_reducible repeat (first | refine blk_drewN ?_ _ | refine blk_drew ?_ | refine blk_alloc ?_ _)); refine blk_put (cs := #[.int .i64 t242, .int .i64 0, .int .i64 0]) ?_ 1 _ rfl; (with_reducible repeat (first | refine blk_drewN ?_ _ | refine blk_drew ?_ | refine blk_alloc ?_ _)); refine blk_put (cs := #[.int .i64 0, .int .i64 0, .int .i64 0]) ?_ 0 _ rfl; (with_reducible repeat (first | refine blk_drewN ?_ _ | refine blk_drew ?_ | refine blk_alloc ?_ _)); exact BK246.out⟩, ⟨by repeat (first | (with_reducible first | exact HB.out | apply below_alloc | apply pw_below_drewN | apply below_drew1 | refine below_set ?_ GE237.out | refine below_set ?_ GE246.out) | exact HB.out)⟩⟩
       ·rw [if_neg c22] at H
        have c22b0 : decide (t239 < 0) = false := decide_eq_false c22
        clear c22
        have H' := Aside0.mk H
        clear H
        go_wp2
        go_meet
        case rel => exact ⟨_, (decide (t239 > 1099511627776)), (by first | rfl | (simp; done) | (simp [*]; done)), H', ⟨by first | omega | exact Nat.le_refl _⟩, ⟨by (with_reducible repeat (first | refine blk_drewN ?_ _ | refine blk_drew ?_ | refine blk_alloc ?_ _)); refine blk_far ?_ NB237_246.out _; (with_reducible repeat (first | refine blk_drewN ?_ _ | refine blk_drew ?_ | refine blk_alloc ?_ _)); refine blk_far ?_ NB237_246.out _; (with_reducible repeat (first | refine blk_drewN ?_ _ | refine blk_drew ?_ | refine blk_alloc ?_ _)); refine blk_far ?_ NB237_246.out _; (with_reducible repeat (first | refine blk_drewN ?_ _ | refine blk_drew ?_ | refine blk_alloc ?_ _)); exact BK237.out⟩, ⟨by (with_reducible repeat (first | refine blk_drewN ?_ _ | refine blk_drew ?_ | refine blk_alloc ?_ _)); refine blk_put (cs := #[.int .i64 t242, .int .i64 t243, .int .i64 0]) ?_ 2 _ rfl; (with_reducible repeat (first | refine blk_drewN ?_ _ | refine blk_drew ?_ | refine blk_alloc ?_ _)); refine blk_put (cs := #[.int .i64 t242, .int .i64 0, .int .i64 0]) ?_ 1 _ rfl; (with_reducible repeat (first | refine blk_drewN ?_ _ | refine blk_drew ?_ | refine blk_alloc ?_ _)); refine blk_put (cs := #[.int .i64 0, .int .i64 0, .int .i64 0]) ?_ 0 _ rfl; (with_reducible repeat (first | refine blk_drewN ?_ _ | refine blk_drew ?_ | refine blk_alloc ?_ _)); exact BK246.out⟩, ⟨by repeat (first | (with_reducible first | exact HB.out | apply below_alloc | apply pw_below_drewN | apply below_drew1 | refine below_set ?_ GE237.out | refine below_set ?_ GE246.out) | exact HB.out)⟩⟩
     ·rw [if_neg c20] at H
      have c20b0 : (t245 == 0) = false := beq_eq_false_iff_ne.mpr c20
      have c20b1 : (t245 != 0) = true := bne_iff_ne.mpr c20
      (first | rw [c20b0] | (simp only [i64_w, i32_w]; rw [c20b0]) | skip)
      have H' := Aside0.mk H
      clear H
      go_wp2
      go_meet
      case rel => exact ⟨_, (true), (by first | rfl | (simp; done) | (simp [*]; done)), H', ⟨by first | omega | exact Nat.le_refl _⟩, ⟨by (with_reducible repeat (first | refine blk_drewN ?_ _ | refine blk_drew ?_ | refine blk_alloc ?_ _)); refine blk_far ?_ NB237_246.out _; (with_reducible repeat (first | refine blk_drewN ?_ _ | refine blk_drew ?_ | refine blk_alloc ?_ _)); refine blk_far ?_ NB237_246.out _; (with_reducible repeat (first | refine blk_drewN ?_ _ | refine blk_drew ?_ | refine blk_alloc ?_ _)); refine blk_far ?_ NB237_246.out _; (with_reducible repeat (first | refine blk_drewN ?_ _ | refine blk_drew ?_ | refine blk_alloc ?_ _)); exact BK237.out⟩, ⟨by (with_reducible repeat (first | refine blk_drewN ?_ _ | refine blk_drew ?_ | refine blk_alloc ?_ _)); refine blk_put (cs := #[.int .i64 t242, .int .i64 t243, .int .i64 0]) ?_ 2 _ rfl; (with_reducible repeat (first | refine blk_drewN ?_ _ | refine blk_drew ?_ | refine blk_alloc ?_ _)); refine blk_put (cs := #[.int .i64 t242, .int .i64 0, .int .i64 0]) ?_ 1 _ rfl; (with_reducible repeat (first | refine blk_drewN ?_ _ | refine blk_drew ?_ | refine blk_alloc ?_ _)); refine blk_put (cs := #[.int .i64 0, .int .i64 0, .int .i64 0]) ?_ 0 _ rfl; (with_reducible repeat (first | refine blk_drewN ?_ _ | refine blk_drew ?_ | refine blk_alloc ?_ _)); exact BK246.out⟩, ⟨by repeat (first | (with_reducible first | exact HB.out | apply below_alloc | apply pw_below_drewN | apply below_drew1 | refine below_set ?_ GE237.out | refine below_set ?_ GE246.out) | exact HB.out)⟩⟩
    case rest =>
     clear HC14
     try clear c1
     try clear c2
     try clear p2
     try clear c5
     try clear c6
     try clear c12
     try clear c12b0
     try clear c12b1
     try clear c14
     try clear c16
     try clear c18
     try clear c19
     try clear c20
     try clear c20b0
     try clear c20b1
     try clear c21
     try clear c21b0
     try clear c22
     try clear c22b0
     try clear hcz10_0
     try clear hcz10_1
     try clear hcz10_2
     try clear hcz15_0
     try clear hcz15_1
     try clear hcz15_2
     try clear hcz19_0
     try clear hcz19_1
     try clear hcz19_2
     try clear hfz10_0
     try clear hfz10_1
     try clear hfz10_2
     try clear hfz15_0
     try clear hfz15_1
     try clear hfz15_2
     try clear hfz19_0
     try clear hfz19_1
     try clear hfz19_2
     obtain ⟨kq, x53_13, rfl, HA, HJ13, BK237, BK246, HB⟩ := hcut
     cases kq with
     | zero => exact absurd HA.out (by simp [palletlaw06_OscBack.j0])
     | succ kj13 =>
      have H := HA.out
      clear HA
      simp only [palletlaw06_OscBack.j0] at H
      by_cases c23 : x53_13 = true
      ·subst c23
       have H1 : (some false) = some r := by rw [if_pos rfl] at H; exact H
       clear H
       have H := H1
       clear H1
       obtain rfl := Option.some.inj H
       exact absurd hr_.out (by decide)
      ·replace c23 := Bool.eq_false_iff.mpr c23
       subst c23
       have H1 : (if t239 < 1099511627776 then ((osc_Run.f kj13 a0_0 a0_1 a0_2 (wrap64 (t239 + 1))).bind fun bt247 => (if bt247.2.2.2.2 = 0 then (if bt247.1 ≤ a2 then (some false) else (palletlaw06_OscBack.j1 kj13 a1 true a0_0 a0_1 a0_2)) else (if bt247.2.2.2.2 = 2 then (palletlaw06_OscBack.j1 kj13 a1 true a0_0 a0_1 a0_2) else (some false)))) else (palletlaw06_OscBack.j1 kj13 a1 true a0_0 a0_1 a0_2)) = some r := by rw [if_neg (show ¬ (false = true) by decide)] at H; exact H
       clear H
       have H := H1
       clear H1
       by_cases c24 : t239 < 1099511627776
       ·rw [if_pos c24] at H
        have c24b0 : decide (t239 < 1099511627776) = true := decide_eq_true c24
        clear c24
        replace H := Option.bind_eq_some_iff.mp H
        obtain ⟨⟨t247, t248, t249, t250, t251⟩, A250, H⟩ := H
        replace H : (if t251 = 0 then (if t247 ≤ a2 then (some false) else (palletlaw06_OscBack.j1 kj13 a1 true a0_0 a0_1 a0_2)) else (if t251 = 2 then (palletlaw06_OscBack.j1 kj13 a1 true a0_0 a0_1 a0_2) else (some false))) = some r := H
        have A25 := Aside0.mk A250
        clear A250
        by_cases c26 : t251 = 0
        ·rw [if_pos c26] at H
         have c26b0 : (t251 == 0) = true := beq_iff_eq.mpr c26
         have c26b1 : (t251 != 0) = false := bne_eq_false_iff_eq.mpr c26
         clear c26
         by_cases c27 : t247 ≤ a2
         ·rw [if_pos c27] at H
          have c27b0 : decide (t247 ≤ a2) = true := decide_eq_true c27
          clear c27
          obtain rfl := Option.some.inj H
          exact absurd hr_.out (by decide)
         ·rw [if_neg c27] at H
          have c27b0 : decide (t247 ≤ a2) = false := decide_eq_false c27
          clear c27
          have H' := Aside0.mk H
          clear H
          have hnb28 := NB237_246.out
          have hnc28 := NB246_237.out
          have hcz29_0 : wc.cell? ⟨gb237, 0, none⟩ = some (.int .i64 a0_0) := (blk_cell BK237.out 0).trans rfl
          have hcz29_1 : wc.cell? ⟨gb237, 1, none⟩ = some (.int .i64 a0_1) := (blk_cell BK237.out 1).trans rfl
          have hcz29_2 : wc.cell? ⟨gb237, 2, none⟩ = some (.int .i64 a0_2) := (blk_cell BK237.out 2).trans rfl
          have hfz29_0 := blk_frozen BK237.out 0
          have hfz29_1 := blk_frozen BK237.out 1
          have hfz29_2 := blk_frozen BK237.out 2
          go_wp2_with (first | ((with_reducible refine gate_callee (f := 16) rfl ?_); refine goesL_ (some 60) rfl rfl Try.func16 (by kernel_rfl) rfl #[.agg #[.int .i64 a0_0, .int .i64 a0_1, .int .i64 a0_2], .int .i64 (wrap64 (t239 + 1))] rfl (by (try simp only [List.map_toArray, List.map_cons, List.map_nil]); first | done | rfl | (simp only [List.length_drop, List.length_take]; rfl)) ?_; (with_reducible refine (osc_Run.calls kj13 a0_0 a0_1 a0_2 (wrap64 (t239 + 1)) t247 t248 t249 t250 t251 _ A25.out).mono ?_); rintro e w30 ⟨rfl, hb⟩; refine ⟨_, rfl, ?_⟩; have n0_ := Aside0.mk (blk_below (g := gb237) (o := .cells #[.int .i64 a0_0, .int .i64 a0_1, .int .i64 a0_2] 23 (0, 0)) (by (with_reducible repeat (first | refine blk_drewN ?_ _ | refine blk_drew ?_ | refine blk_alloc ?_ _)); exact BK237.out) hb); have n1_ := Aside0.mk (blk_below (g := gb246) (o := .cells #[.int .i64 t242, .int .i64 t243, .int .i64 t244] 23 (0, 0)) (by (with_reducible repeat (first | refine blk_drewN ?_ _ | refine blk_drew ?_ | refine blk_alloc ?_ _)); exact BK246.out) hb); have n2_ := Aside0.mk (below_step (by repeat (first | (with_reducible first | exact HB.out | apply below_alloc | apply pw_below_drewN | apply below_drew1 | refine below_set ?_ GE237.out | refine below_set ?_ GE246.out) | exact HB.out)) hb); clear BK237; clear BK246; clear HB; have BK237 := n0_; have BK246 := n1_; have HB := n2_; clear n0_ n1_ n2_; (try clear hb); (try clear hb2); (try clear hk); (try clear hi)) | ((with_reducible refine gate_dst (N := 14) rfl ?_); refine box_event ?hg (N := 14) ?hd (cs := #[.int .i64 0, .int .i64 0, .int .i64 0]) (t := 23) ?hr ?_; (case hd => rfl); (case hg => rfl); (case hr => first | (go_simp; done) | (go_simp; rfl)); intro gb252 hg w31 hbox hb; have n0_ := Aside0.mk (blk_below (g := gb237) (o := .cells #[.int .i64 a0_0, .int .i64 a0_1, .int .i64 a0_2] 23 (0, 0)) (by (with_reducible repeat (first | refine blk_drewN ?_ _ | refine blk_drew ?_ | refine blk_alloc ?_ _)); exact BK237.out) hb); have n1_ := Aside0.mk (blk_below (g := gb246) (o := .cells #[.int .i64 t242, .int .i64 t243, .int .i64 t244] 23 (0, 0)) (by (with_reducible repeat (first | refine blk_drewN ?_ _ | refine blk_drew ?_ | refine blk_alloc ?_ _)); exact BK246.out) hb); have n2_ := Aside0.mk (below_step (by repeat (first | (with_reducible first | exact HB.out | apply below_alloc | apply pw_below_drewN | apply below_drew1 | refine below_set ?_ GE237.out | refine below_set ?_ GE246.out) | exact HB.out)) hb); have n3_ := Aside0.mk (hbox); have n4_ := Aside0.mk ((by rw [hg]; exact (below_size (by repeat (first | (with_reducible first | exact HB.out | apply below_alloc | apply pw_below_drewN | apply below_drew1 | refine below_set ?_ GE237.out | refine below_set ?_ GE246.out) | exact HB.out))) : w.heap.size ≤ gb252)); have n5_ := Aside0.mk ((by rw [hg]; exact (below_size (by repeat (first | (with_reducible first | exact HB.out | apply below_alloc | apply pw_below_drewN | apply below_drew1 | refine below_set ?_ GE237.out | refine below_set ?_ GE246.out) | exact HB.out))) : w.heap.size ≤ gb252)); have n6_ := Aside0.mk ((by rw [hg]; exact Nat.ne_of_lt (blk_lt (g := gb237) (o := .cells #[.int .i64 a0_0, .int .i64 a0_1, .int .i64 a0_2] 23 (0, 0)) (by (with_reducible repeat (first | refine blk_drewN ?_ _ | refine blk_drew ?_ | refine blk_alloc ?_ _)); exact BK237.out)) : gb237 ≠ gb252)); have n7_ := Aside0.mk ((by rw [hg]; exact Nat.ne_of_gt (blk_lt (g := gb237) (o := .cells #[.int .i64 a0_0, .int .i64 a0_1, .int .i64 a0_2] 23 (0, 0)) (by (with_reducible repeat (first | refine blk_drewN ?_ _ | refine blk_drew ?_ | refine blk_alloc ?_ _)); exact BK237.out)) : gb252 ≠ gb237)); have n8_ := Aside0.mk ((by rw [hg]; exact Nat.ne_of_lt (blk_lt (g := gb246) (o := .cells #[.int .i64 t242, .int .i64 t243, .int .i64 t244] 23 (0, 0)) (by (with_reducible repeat (first | refine blk_drewN ?_ _ | refine blk_drew ?_ | refine blk_alloc ?_ _)); exact BK246.out)) : gb246 ≠ gb252)); have n9_ := Aside0.mk ((by rw [hg]; exact Nat.ne_of_gt (blk_lt (g := gb246) (o := .cells #[.int .i64 t242, .int .i64 t243, .int .i64 t244] 23 (0, 0)) (by (with_reducible repeat (first | refine blk_drewN ?_ _ | refine blk_drew ?_ | refine blk_alloc ?_ _)); exact BK246.out)) : gb252 ≠ gb246)); clear BK237; clear BK246; clear HB; have BK237 := n0_; have BK246 := n1_; have HB := n2_; have BK252 := n3_; have GW252 := n4_; have GE252 := n5_; have NB237_252 := n6_; have NB252_237 := n7_; have NB246_252 := n8_; have NB252_246 := n9_; clear n0_ n1_ n2_ n3_ n4_ n5_ n6_ n7_ n8_ n9_; clear hb hbox hg; have hnb32 := NB252_237.out; have hnc32 := NB237_252.out; have hnb33 := NB252_246.out; have hnc33 := NB246_252.out; have hcz34_0 : w31.cell? ⟨gb252, 0, none⟩ = some (.int .i64 0) := (blk_cell BK252.out 0).trans rfl; have hcz34_1 : w31.cell? ⟨gb252, 1, none⟩ = some (.int .i64 0) := (blk_cell BK252.out 1).trans rfl; have hcz34_2 : w31.cell? ⟨gb252, 2, none⟩ = some (.int .i64 0) := (blk_cell BK252.out 2).trans rfl; have hfz34_0 := blk_frozen BK252.out 0; have hfz34_1 := blk_frozen BK252.out 1; have hfz34_2 := blk_frozen BK252.out 2))
          go_meet
          case rel => exact ⟨_, H', ⟨by have := HJ13.out; first | omega | exact Nat.le_refl _⟩, ⟨by (with_reducible repeat (first | refine blk_drewN ?_ _ | refine blk_drew ?_ | refine blk_alloc ?_ _)); refine blk_far ?_ NB237_252.out _; (with_reducible repeat (first | refine blk_drewN ?_ _ | refine blk_drew ?_ | refine blk_alloc ?_ _)); refine blk_far ?_ NB237_252.out _; (with_reducible repeat (first | refine blk_drewN ?_ _ | refine blk_drew ?_ | refine blk_alloc ?_ _)); refine blk_far ?_ NB237_252.out _; (with_reducible repeat (first | refine blk_drewN ?_ _ | refine blk_drew ?_ | refine blk_alloc ?_ _)); exact BK237.out⟩, ⟨by repeat (first | (with_reducible first | exact HB.out | apply below_alloc | apply pw_below_drewN | apply below_drew1 | refine below_set ?_ GE237.out | refine below_set ?_ GE246.out | refine below_set ?_ GE252.out) | exact HB.out)⟩⟩
        ·rw [if_neg c26] at H
         have c26b0 : (t251 == 0) = false := beq_eq_false_iff_ne.mpr c26
         have c26b1 : (t251 != 0) = true := bne_iff_ne.mpr c26
         by_cases c35 : t251 = 2
         ·rw [if_pos c35] at H
          have c35b0 : (t251 == 2) = true := beq_iff_eq.mpr c35
          have c35b1 : (t251 != 2) = false := bne_eq_false_iff_eq.mpr c35
          clear c35
          have H' := Aside0.mk H
          clear H
          have hnb36 := NB237_246.out
          have hnc36 := NB246_237.out
          have hcz37_0 : wc.cell? ⟨gb237, 0, none⟩ = some (.int .i64 a0_0) := (blk_cell BK237.out 0).trans rfl
          have hcz37_1 : wc.cell? ⟨gb237, 1, none⟩ = some (.int .i64 a0_1) := (blk_cell BK237.out 1).trans rfl
          have hcz37_2 : wc.cell? ⟨gb237, 2, none⟩ = some (.int .i64 a0_2) := (blk_cell BK237.out 2).trans rfl
          have hfz37_0 := blk_frozen BK237.out 0
          have hfz37_1 := blk_frozen BK237.out 1
          have hfz37_2 := blk_frozen BK237.out 2
          go_wp2_with (first | ((with_reducible refine gate_callee (f := 16) rfl ?_); refine goesL_ (some 60) rfl rfl Try.func16 (by kernel_rfl) rfl #[.agg #[.int .i64 a0_0, .int .i64 a0_1, .int .i64 a0_2], .int .i64 (wrap64 (t239 + 1))] rfl (by (try simp only [List.map_toArray, List.map_cons, List.map_nil]); first | done | rfl | (simp only [List.length_drop, List.length_take]; rfl)) ?_; (with_reducible refine (osc_Run.calls kj13 a0_0 a0_1 a0_2 (wrap64 (t239 + 1)) t247 t248 t249 t250 t251 _ A25.out).mono ?_); rintro e w38 ⟨rfl, hb⟩; refine ⟨_, rfl, ?_⟩; have n0_ := Aside0.mk (blk_below (g := gb237) (o := .cells #[.int .i64 a0_0, .int .i64 a0_1, .int .i64 a0_2] 23 (0, 0)) (by (with_reducible repeat (first | refine blk_drewN ?_ _ | refine blk_drew ?_ | refine blk_alloc ?_ _)); exact BK237.out) hb); have n1_ := Aside0.mk (blk_below (g := gb246) (o := .cells #[.int .i64 t242, .int .i64 t243, .int .i64 t244] 23 (0, 0)) (by (with_reducible repeat (first | refine blk_drewN ?_ _ | refine blk_drew ?_ | refine blk_alloc ?_ _)); exact BK246.out) hb); have n2_ := Aside0.mk (below_step (by repeat (first | (with_reducible first | exact HB.out | apply below_alloc | apply pw_below_drewN | apply below_drew1 | refine below_set ?_ GE237.out | refine below_set ?_ GE246.out) | exact HB.out)) hb); clear BK237; clear BK246; clear HB; have BK237 := n0_; have BK246 := n1_; have HB := n2_; clear n0_ n1_ n2_; (try clear hb); (try clear hb2); (try clear hk); (try clear hi)) | ((with_reducible refine gate_dst (N := 14) rfl ?_); refine box_event ?hg (N := 14) ?hd (cs := #[.int .i64 0, .int .i64 0, .int .i64 0]) (t := 23) ?hr ?_; (case hd => rfl); (case hg => rfl); (case hr => first | (go_simp; done) | (go_simp; rfl)); intro gb252 hg w39 hbox hb; have n0_ := Aside0.mk (blk_below (g := gb237) (o := .cells #[.int .i64 a0_0, .int .i64 a0_1, .int .i64 a0_2] 23 (0, 0)) (by (with_reducible repeat (first | refine blk_drewN ?_ _ | refine blk_drew ?_ | refine blk_alloc ?_ _)); exact BK237.out) hb); have n1_ := Aside0.mk (blk_below (g := gb246) (o := .cells #[.int .i64 t242, .int .i64 t243, .int .i64 t244] 23 (0, 0)) (by (with_reducible repeat (first | refine blk_drewN ?_ _ | refine blk_drew ?_ | refine blk_alloc ?_ _)); exact BK246.out) hb); have n2_ := Aside0.mk (below_step (by repeat (first | (with_reducible first | exact HB.out | apply below_alloc | apply pw_below_drewN | apply below_drew1 | refine below_set ?_ GE237.out | refine below_set ?_ GE246.out) | exact HB.out)) hb); have n3_ := Aside0.mk (hbox); have n4_ := Aside0.mk ((by rw [hg]; exact (below_size (by repeat (first | (with_reducible first | exact HB.out | apply below_alloc | apply pw_below_drewN | apply below_drew1 | refine below_set ?_ GE237.out | refine below_set ?_ GE246.out) | exact HB.out))) : w.heap.size ≤ gb252)); have n5_ := Aside0.mk ((by rw [hg]; exact (below_size (by repeat (first | (with_reducible first | exact HB.out | apply below_alloc | apply pw_below_drewN | apply below_drew1 | refine below_set ?_ GE237.out | refine below_set ?_ GE246.out) | exact HB.out))) : w.heap.size ≤ gb252)); have n6_ := Aside0.mk ((by rw [hg]; exact Nat.ne_of_lt (blk_lt (g := gb237) (o := .cells #[.int .i64 a0_0, .int .i64 a0_1, .int .i64 a0_2] 23 (0, 0)) (by (with_reducible repeat (first | refine blk_drewN ?_ _ | refine blk_drew ?_ | refine blk_alloc ?_ _)); exact BK237.out)) : gb237 ≠ gb252)); have n7_ := Aside0.mk ((by rw [hg]; exact Nat.ne_of_gt (blk_lt (g := gb237) (o := .cells #[.int .i64 a0_0, .int .i64 a0_1, .int .i64 a0_2] 23 (0, 0)) (by (with_reducible repeat (first | refine blk_drewN ?_ _ | refine blk_drew ?_ | refine blk_alloc ?_ _)); exact BK237.out)) : gb252 ≠ gb237)); have n8_ := Aside0.mk ((by rw [hg]; exact Nat.ne_of_lt (blk_lt (g := gb246) (o := .cells #[.int .i64 t242, .int .i64 t243, .int .i64 t244] 23 (0, 0)) (by (with_reducible repeat (first | refine blk_drewN ?_ _ | refine blk_drew ?_ | refine blk_alloc ?_ _)); exact BK246.out)) : gb246 ≠ gb252)); have n9_ := Aside0.mk ((by rw [hg]; exact Nat.ne_of_gt (blk_lt (g := gb246) (o := .cells #[.int .i64 t242, .int .i64 t243, .int .i64 t244] 23 (0, 0)) (by (with_reducible repeat (first | refine blk_drewN ?_ _ | refine blk_drew ?_ | refine blk_alloc ?_ _)); exact BK246.out)) : gb252 ≠ gb246)); clear BK237; clear BK246; clear HB; have BK237 := n0_; have BK246 := n1_; have HB := n2_; have BK252 := n3_; have GW252 := n4_; have GE252 := n5_; have NB237_252 := n6_; have NB252_237 := n7_; have NB246_252 := n8_; have NB252_246 := n9_; clear n0_ n1_ n2_ n3_ n4_ n5_ n6_ n7_ n8_ n9_; clear hb hbox hg; have hnb40 := NB252_237.out; have hnc40 := NB237_252.out; have hnb41 := NB252_246.out; have hnc41 := NB246_252.out; have hcz42_0 : w39.cell? ⟨gb252, 0, none⟩ = some (.int .i64 0) := (blk_cell BK252.out 0).trans rfl; have hcz42_1 : w39.cell? ⟨gb252, 1, none⟩ = some (.int .i64 0) := (blk_cell BK252.out 1).trans rfl; have hcz42_2 : w39.cell? ⟨gb252, 2, none⟩ = some (.int .i64 0) := (blk_cell BK252.out 2).trans rfl; have hfz42_0 := blk_frozen BK252.out 0; have hfz42_1 := blk_frozen BK252.out 1; have hfz42_2 := blk_frozen BK252.out 2))
          go_meet
          case rel => exact ⟨_, H', ⟨by have := HJ13.out; first | omega | exact Nat.le_refl _⟩, ⟨by (with_reducible repeat (first | refine blk_drewN ?_ _ | refine blk_drew ?_ | refine blk_alloc ?_ _)); refine blk_far ?_ NB237_252.out _; (with_reducible repeat (first | refine blk_drewN ?_ _ | refine blk_drew ?_ | refine blk_alloc ?_ _)); refine blk_far ?_ NB237_252.out _; (with_reducible repeat (first | refine blk_drewN ?_ _ | refine blk_drew ?_ | refine blk_alloc ?_ _)); refine blk_far ?_ NB237_252.out _; (with_reducible repeat (first | refine blk_drewN ?_ _ | refine blk_drew ?_ | refine blk_alloc ?_ _)); exact BK237.out⟩, ⟨by repeat (first | (with_reducible first | exact HB.out | apply below_alloc | apply pw_below_drewN | apply below_drew1 | refine below_set ?_ GE237.out | refine below_set ?_ GE246.out | refine below_set ?_ GE252.out) | exact HB.out)⟩⟩
         ·rw [if_neg c35] at H
          have c35b0 : (t251 == 2) = false := beq_eq_false_iff_ne.mpr c35
          have c35b1 : (t251 != 2) = true := bne_iff_ne.mpr c35
          obtain rfl := Option.some.inj H
          exact absurd hr_.out (by decide)
       ·rw [if_neg c24] at H
        have c24b0 : decide (t239 < 1099511627776) = false := decide_eq_false c24
        clear c24
        have H' := Aside0.mk H
        clear H
        go_wp2
        go_meet
        case rel => exact ⟨_, H', ⟨by have := HJ13.out; first | omega | exact Nat.le_refl _⟩, ⟨by (with_reducible repeat (first | refine blk_drewN ?_ _ | refine blk_drew ?_ | refine blk_alloc ?_ _)); exact BK237.out⟩, ⟨by repeat (first | (with_reducible first | exact HB.out | apply below_alloc | apply pw_below_drewN | apply below_drew1 | refine below_set ?_ GE237.out | refine below_set ?_ GE246.out) | exact HB.out)⟩⟩
   ·rw [if_neg c12] at H
    have c12b0 : (t240 == 0) = false := beq_eq_false_iff_ne.mpr c12
    have c12b1 : (t240 != 0) = true := bne_iff_ne.mpr c12
    (first | rw [c12b0] | (simp only [i64_w, i32_w]; rw [c12b0]) | skip)
    have H' := Aside0.mk H
    clear H
    go_wp2
    go_meet
    case rel => exact ⟨_, H', ⟨by first | omega | exact Nat.le_refl _⟩, ⟨by (with_reducible repeat (first | refine blk_drewN ?_ _ | refine blk_drew ?_ | refine blk_alloc ?_ _)); exact BK237.out⟩, ⟨by repeat (first | (with_reducible first | exact HB.out | apply below_alloc | apply pw_below_drewN | apply below_drew1 | refine below_set ?_ GE237.out) | exact HB.out)⟩⟩
  case rest =>
   clear HC7
   try clear c1
   try clear c2
   try clear p2
   try clear c3
   try clear c4
   try clear c5
   try clear c6
   try clear p6
   try clear c12
   try clear c12b0
   try clear c12b1
   try clear c14
   try clear c16
   try clear c18
   try clear c19
   try clear c20
   try clear c20b0
   try clear c20b1
   try clear c21
   try clear c21b0
   try clear c22
   try clear c22b0
   try clear c23
   try clear c24
   try clear c24b0
   try clear c26
   try clear c26b0
   try clear c26b1
   try clear c27
   try clear c27b0
   try clear c28
   try clear c32
   try clear c33
   try clear c35
   try clear c35b0
   try clear c35b1
   try clear c36
   try clear c40
   try clear c41
   try clear hcz10_0
   try clear hcz10_1
   try clear hcz10_2
   try clear hcz15_0
   try clear hcz15_1
   try clear hcz15_2
   try clear hcz19_0
   try clear hcz19_1
   try clear hcz19_2
   try clear hcz29_0
   try clear hcz29_1
   try clear hcz29_2
   try clear hcz34_0
   try clear hcz34_1
   try clear hcz34_2
   try clear hcz37_0
   try clear hcz37_1
   try clear hcz37_2
   try clear hcz42_0
   try clear hcz42_1
   try clear hcz42_2
   try clear hfz10_0
   try clear hfz10_1
   try clear hfz10_2
   try clear hfz15_0
   try clear hfz15_1
   try clear hfz15_2
   try clear hfz19_0
   try clear hfz19_1
   try clear hfz19_2
   try clear hfz29_0
   try clear hfz29_1
   try clear hfz29_2
   try clear hfz34_0
   try clear hfz34_1
   try clear hfz34_2
   try clear hfz37_0
   try clear hfz37_1
   try clear hfz37_2
   try clear hfz42_0
   try clear hfz42_1
   try clear hfz42_2
   try clear p2
   obtain ⟨kq, HA, HJ6, BK237, HB⟩ := hcut
   cases kq with
   | zero => exact absurd HA.out (by simp [palletlaw06_OscBack.j1])
   | succ kj6 =>
    have H := HA.out
    clear HA
    simp only [palletlaw06_OscBack.j1] at H
    replace H := Option.bind_eq_some_iff.mp H
    obtain ⟨⟨t253, t254, t255, t256, t257⟩, A430, H⟩ := H
    replace H : (if t257 = 0 then ((osc_Ticks.f kj6 a0_0 a0_1 a0_2 t253).bind fun bt259 => (if true = true then (if bt259.2 = 0 then (some (decide (bt259.1 ≥ a1))) else (some false)) else (some false))) else (some true)) = some r := H
    have A43 := Aside0.mk A430
    clear A430
    by_cases c44 : t257 = 0
    ·rw [if_pos c44] at H
     have c44b0 : (t257 == 0) = true := beq_iff_eq.mpr c44
     have c44b1 : (t257 != 0) = false := bne_eq_false_iff_eq.mpr c44
     clear c44
     replace H := Option.bind_eq_some_iff.mp H
     obtain ⟨⟨t259, t260⟩, A450, H⟩ := H
     replace H : (if true = true then (if t260 = 0 then (some (decide (t259 ≥ a1))) else (some false)) else (some false)) = some r := H
     have A45 := Aside0.mk A450
     clear A450
     have H1 : (if t260 = 0 then (some (decide (t259 ≥ a1))) else (some false)) = some r := by first | (rw [if_pos rfl] at H; exact H) | exact H
     clear H
     have H := H1
     clear H1
     by_cases c46 : t260 = 0
     ·rw [if_pos c46] at H
      have c46b0 : (t260 == 0) = true := beq_iff_eq.mpr c46
      have c46b1 : (t260 != 0) = false := bne_eq_false_iff_eq.mpr c46
      clear c46
      obtain rfl := Option.some.inj H
      have hcz47_0 : wc.cell? ⟨gb237, 0, none⟩ = some (.int .i64 a0_0) := (blk_cell BK237.out 0).trans rfl
      have hcz47_1 : wc.cell? ⟨gb237, 1, none⟩ = some (.int .i64 a0_1) := (blk_cell BK237.out 1).trans rfl
      have hcz47_2 : wc.cell? ⟨gb237, 2, none⟩ = some (.int .i64 a0_2) := (blk_cell BK237.out 2).trans rfl
      have hfz47_0 := blk_frozen BK237.out 0
      have hfz47_1 := blk_frozen BK237.out 1
      have hfz47_2 := blk_frozen BK237.out 2
      go_wp2_with (first | ((with_reducible refine gate_callee (f := 16) rfl ?_); refine goesL_ (some 82) rfl rfl Try.func16 (by kernel_rfl) rfl #[.agg #[.int .i64 a0_0, .int .i64 a0_1, .int .i64 a0_2], .int .i64 a1] rfl (by (try simp only [List.map_toArray, List.map_cons, List.map_nil]); first | done | rfl | (simp only [List.length_drop, List.length_take]; rfl)) ?_; (with_reducible refine (osc_Run.calls kj6 a0_0 a0_1 a0_2 a1 t253 t254 t255 t256 t257 _ A43.out).mono ?_); rintro e w48 ⟨rfl, hb⟩; refine ⟨_, rfl, ?_⟩; have n0_ := Aside0.mk (blk_below (g := gb237) (o := .cells #[.int .i64 a0_0, .int .i64 a0_1, .int .i64 a0_2] 23 (0, 0)) (by (with_reducible repeat (first | refine blk_drewN ?_ _ | refine blk_drew ?_ | refine blk_alloc ?_ _)); exact BK237.out) hb); have n1_ := Aside0.mk (below_step (by repeat (first | (with_reducible first | exact HB.out | apply below_alloc | apply pw_below_drewN | apply below_drew1 | refine below_set ?_ GE237.out) | exact HB.out)) hb); clear BK237; clear HB; have BK237 := n0_; have HB := n1_; clear n0_ n1_; (try clear hb); (try clear hb2); (try clear hk); (try clear hi)) | ((with_reducible refine gate_dst (N := 17) rfl ?_); refine box_event ?hg (N := 17) ?hd (cs := #[.int .i64 0, .int .i64 0, .int .i64 0]) (t := 23) ?hr ?_; (case hd => rfl); (case hg => rfl); (case hr => first | (go_simp; done) | (go_simp; rfl)); intro gb258 hg w49 hbox hb; have n0_ := Aside0.mk (blk_below (g := gb237) (o := .cells #[.int .i64 a0_0, .int .i64 a0_1, .int .i64 a0_2] 23 (0, 0)) (by (with_reducible repeat (first | refine blk_drewN ?_ _ | refine blk_drew ?_ | refine blk_alloc ?_ _)); exact BK237.out) hb); have n1_ := Aside0.mk (below_step (by repeat (first | (with_reducible first | exact HB.out | apply below_alloc | apply pw_below_drewN | apply below_drew1 | refine below_set ?_ GE237.out) | exact HB.out)) hb); have n2_ := Aside0.mk (hbox); have n3_ := Aside0.mk ((by rw [hg]; exact (below_size (by repeat (first | (with_reducible first | exact HB.out | apply below_alloc | apply pw_below_drewN | apply below_drew1 | refine below_set ?_ GE237.out) | exact HB.out))) : w.heap.size ≤ gb258)); have n4_ := Aside0.mk ((by rw [hg]; exact (below_size (by repeat (first | (with_reducible first | exact HB.out | apply below_alloc | apply pw_below_drewN | apply below_drew1 | refine below_set ?_ GE237.out) | exact HB.out))) : w.heap.size ≤ gb258)); have n5_ := Aside0.mk ((by rw [hg]; exact Nat.ne_of_lt (blk_lt (g := gb237) (o := .cells #[.int .i64 a0_0, .int .i64 a0_1, .int .i64 a0_2] 23 (0, 0)) (by (with_reducible repeat (first | refine blk_drewN ?_ _ | refine blk_drew ?_ | refine blk_alloc ?_ _)); exact BK237.out)) : gb237 ≠ gb258)); have n6_ := Aside0.mk ((by rw [hg]; exact Nat.ne_of_gt (blk_lt (g := gb237) (o := .cells #[.int .i64 a0_0, .int .i64 a0_1, .int .i64 a0_2] 23 (0, 0)) (by (with_reducible repeat (first | refine blk_drewN ?_ _ | refine blk_drew ?_ | refine blk_alloc ?_ _)); exact BK237.out)) : gb258 ≠ gb237)); clear BK237; clear HB; have BK237 := n0_; have HB := n1_; have BK258 := n2_; have GW258 := n3_; have GE258 := n4_; have NB237_258 := n5_; have NB258_237 := n6_; clear n0_ n1_ n2_ n3_ n4_ n5_ n6_; clear hb hbox hg; have hnb50 := NB258_237.out; have hnc50 := NB237_258.out; have hcz51_0 : w49.cell? ⟨gb258, 0, none⟩ = some (.int .i64 0) := (blk_cell BK258.out 0).trans rfl; have hcz51_1 : w49.cell? ⟨gb258, 1, none⟩ = some (.int .i64 0) := (blk_cell BK258.out 1).trans rfl; have hcz51_2 : w49.cell? ⟨gb258, 2, none⟩ = some (.int .i64 0) := (blk_cell BK258.out 2).trans rfl; have hfz51_0 := blk_frozen BK258.out 0; have hfz51_1 := blk_frozen BK258.out 1; have hfz51_2 := blk_frozen BK258.out 2; have hcz52_0 : w49.cell? ⟨gb237, 0, none⟩ = some (.int .i64 a0_0) := (blk_cell BK237.out 0).trans rfl; have hcz52_1 : w49.cell? ⟨gb237, 1, none⟩ = some (.int .i64 a0_1) := (blk_cell BK237.out 1).trans rfl; have hcz52_2 : w49.cell? ⟨gb237, 2, none⟩ = some (.int .i64 a0_2) := (blk_cell BK237.out 2).trans rfl; have hfz52_0 := blk_frozen BK237.out 0; have hfz52_1 := blk_frozen BK237.out 1; have hfz52_2 := blk_frozen BK237.out 2) | ((with_reducible refine gate_callee (f := 19) rfl ?_); refine goesL_ (some 92) rfl rfl Try.func19 (by kernel_rfl) rfl #[.agg #[.int .i64 a0_0, .int .i64 a0_1, .int .i64 a0_2], .int .i64 t253] rfl (by (try simp only [List.map_toArray, List.map_cons, List.map_nil]); first | done | rfl | (simp only [List.length_drop, List.length_take]; rfl)) ?_; (with_reducible refine (osc_Ticks.calls kj6 a0_0 a0_1 a0_2 t253 t259 t260 _ A45.out).mono ?_); rintro e w53 ⟨rfl, hb⟩; refine ⟨_, rfl, ?_⟩; have n0_ := Aside0.mk (blk_below (g := gb237) (o := .cells #[.int .i64 a0_0, .int .i64 a0_1, .int .i64 a0_2] 23 (0, 0)) (by (with_reducible repeat (first | refine blk_drewN ?_ _ | refine blk_drew ?_ | refine blk_alloc ?_ _)); refine blk_far ?_ NB237_258.out _; (with_reducible repeat (first | refine blk_drewN ?_ _ | refine blk_drew ?_ | refine blk_alloc ?_ _)); refine blk_far ?_ NB237_258.out _; (with_reducible repeat (first | refine blk_drewN ?_ _ | refine blk_drew ?_ | refine blk_alloc ?_ _)); refine blk_far ?_ NB237_258.out _; (with_reducible repeat (first | refine blk_drewN ?_ _ | refine blk_drew ?_ | refine blk_alloc ?_ _)); exact BK237.out) hb); have n1_ := Aside0.mk (blk_below (g := gb258) (o := .cells #[.int .i64 t254, .int .i64 t255, .int .i64 t256] 23 (0, 0)) (by (with_reducible repeat (first | refine blk_drewN ?_ _ | refine blk_drew ?_ | refine blk_alloc ?_ _)); refine blk_put (cs := #[.int .i64 t254, .int .i64 t255, .int .i64 0]) ?_ 2 _ rfl; (with_reducible repeat (first | refine blk_drewN ?_ _ | refine blk_drew ?_ | refine blk_alloc ?_ _)); refine blk_put (cs := #[.int .i64 t254, .int .i64 0, .int .i64 0]) ?_ 1 _ rfl; (with_reducible repeat (first | refine blk_drewN ?_ _ | refine blk_drew ?_ | refine blk_alloc ?_ _)); refine blk_put (cs := #[.int .i64 0, .int .i64 0, .int .i64 0]) ?_ 0 _ rfl; (with_reducible repeat (first | refine blk_drewN ?_ _ | refine blk_drew ?_ | refine blk_alloc ?_ _)); exact BK258.out) hb); have n2_ := Aside0.mk (below_step (by repeat (first | (with_reducible first | exact HB.out | apply below_alloc | apply pw_below_drewN | apply below_drew1 | refine below_set ?_ GE237.out | refine below_set ?_ GE258.out) | exact HB.out)) hb); clear BK237; clear BK258; clear HB; have BK237 := n0_; have BK258 := n1_; have HB := n2_; clear n0_ n1_ n2_; (try clear hb); (try clear hb2); (try clear hk); (try clear hi)))
      go_ret
      exact ⟨by first | rfl | (simp [errW_none, errW_some] <;> rfl) | (simp [*, errW_none, errW_some] <;> rfl), by repeat (first | (with_reducible first | exact HB.out | apply below_alloc | apply pw_below_drewN | apply below_drew1 | refine below_set ?_ GE237.out | refine below_set ?_ GE258.out) | exact HB.out)⟩
     ·rw [if_neg c46] at H
      have c46b0 : (t260 == 0) = false := beq_eq_false_iff_ne.mpr c46
      have c46b1 : (t260 != 0) = true := bne_iff_ne.mpr c46
      obtain rfl := Option.some.inj H
      exact absurd hr_.out (by decide)
    ·rw [if_neg c44] at H
     have c44b0 : (t257 == 0) = false := beq_eq_false_iff_ne.mpr c44
     have c44b1 : (t257 != 0) = true := bne_iff_ne.mpr c44
     obtain rfl := Option.some.inj H
     have hcz54_0 : wc.cell? ⟨gb237, 0, none⟩ = some (.int .i64 a0_0) := (blk_cell BK237.out 0).trans rfl
     have hcz54_1 : wc.cell? ⟨gb237, 1, none⟩ = some (.int .i64 a0_1) := (blk_cell BK237.out 1).trans rfl
     have hcz54_2 : wc.cell? ⟨gb237, 2, none⟩ = some (.int .i64 a0_2) := (blk_cell BK237.out 2).trans rfl
     have hfz54_0 := blk_frozen BK237.out 0
     have hfz54_1 := blk_frozen BK237.out 1
     have hfz54_2 := blk_frozen BK237.out 2
     go_wp2_with (first | ((with_reducible refine gate_callee (f := 16) rfl ?_); refine goesL_ (some 82) rfl rfl Try.func16 (by kernel_rfl) rfl #[.agg #[.int .i64 a0_0, .int .i64 a0_1, .int .i64 a0_2], .int .i64 a1] rfl (by (try simp only [List.map_toArray, List.map_cons, List.map_nil]); first | done | rfl | (simp only [List.length_drop, List.length_take]; rfl)) ?_; (with_reducible refine (osc_Run.calls kj6 a0_0 a0_1 a0_2 a1 t253 t254 t255 t256 t257 _ A43.out).mono ?_); rintro e w55 ⟨rfl, hb⟩; refine ⟨_, rfl, ?_⟩; have n0_ := Aside0.mk (blk_below (g := gb237) (o := .cells #[.int .i64 a0_0, .int .i64 a0_1, .int .i64 a0_2] 23 (0, 0)) (by (with_reducible repeat (first | refine blk_drewN ?_ _ | refine blk_drew ?_ | refine blk_alloc ?_ _)); exact BK237.out) hb); have n1_ := Aside0.mk (below_step (by repeat (first | (with_reducible first | exact HB.out | apply below_alloc | apply pw_below_drewN | apply below_drew1 | refine below_set ?_ GE237.out) | exact HB.out)) hb); clear BK237; clear HB; have BK237 := n0_; have HB := n1_; clear n0_ n1_; (try clear hb); (try clear hb2); (try clear hk); (try clear hi)) | ((with_reducible refine gate_dst (N := 17) rfl ?_); refine box_event ?hg (N := 17) ?hd (cs := #[.int .i64 0, .int .i64 0, .int .i64 0]) (t := 23) ?hr ?_; (case hd => rfl); (case hg => rfl); (case hr => first | (go_simp; done) | (go_simp; rfl)); intro gb258 hg w56 hbox hb; have n0_ := Aside0.mk (blk_below (g := gb237) (o := .cells #[.int .i64 a0_0, .int .i64 a0_1, .int .i64 a0_2] 23 (0, 0)) (by (with_reducible repeat (first | refine blk_drewN ?_ _ | refine blk_drew ?_ | refine blk_alloc ?_ _)); exact BK237.out) hb); have n1_ := Aside0.mk (below_step (by repeat (first | (with_reducible first | exact HB.out | apply below_alloc | apply pw_below_drewN | apply below_drew1 | refine below_set ?_ GE237.out) | exact HB.out)) hb); have n2_ := Aside0.mk (hbox); have n3_ := Aside0.mk ((by rw [hg]; exact (below_size (by repeat (first | (with_reducible first | exact HB.out | apply below_alloc | apply pw_below_drewN | apply below_drew1 | refine below_set ?_ GE237.out) | exact HB.out))) : w.heap.size ≤ gb258)); have n4_ := Aside0.mk ((by rw [hg]; exact (below_size (by repeat (first | (with_reducible first | exact HB.out | apply below_alloc | apply pw_below_drewN | apply below_drew1 | refine below_set ?_ GE237.out) | exact HB.out))) : w.heap.size ≤ gb258)); have n5_ := Aside0.mk ((by rw [hg]; exact Nat.ne_of_lt (blk_lt (g := gb237) (o := .cells #[.int .i64 a0_0, .int .i64 a0_1, .int .i64 a0_2] 23 (0, 0)) (by (with_reducible repeat (first | refine blk_drewN ?_ _ | refine blk_drew ?_ | refine blk_alloc ?_ _)); exact BK237.out)) : gb237 ≠ gb258)); have n6_ := Aside0.mk ((by rw [hg]; exact Nat.ne_of_gt (blk_lt (g := gb237) (o := .cells #[.int .i64 a0_0, .int .i64 a0_1, .int .i64 a0_2] 23 (0, 0)) (by (with_reducible repeat (first | refine blk_drewN ?_ _ | refine blk_drew ?_ | refine blk_alloc ?_ _)); exact BK237.out)) : gb258 ≠ gb237)); clear BK237; clear HB; have BK237 := n0_; have HB := n1_; have BK258 := n2_; have GW258 := n3_; have GE258 := n4_; have NB237_258 := n5_; have NB258_237 := n6_; clear n0_ n1_ n2_ n3_ n4_ n5_ n6_; clear hb hbox hg; have hnb57 := NB258_237.out; have hnc57 := NB237_258.out; have hcz58_0 : w56.cell? ⟨gb258, 0, none⟩ = some (.int .i64 0) := (blk_cell BK258.out 0).trans rfl; have hcz58_1 : w56.cell? ⟨gb258, 1, none⟩ = some (.int .i64 0) := (blk_cell BK258.out 1).trans rfl; have hcz58_2 : w56.cell? ⟨gb258, 2, none⟩ = some (.int .i64 0) := (blk_cell BK258.out 2).trans rfl; have hfz58_0 := blk_frozen BK258.out 0; have hfz58_1 := blk_frozen BK258.out 1; have hfz58_2 := blk_frozen BK258.out 2))
     go_ret
     exact ⟨by first | rfl | (simp [errW_none, errW_some] <;> rfl) | (simp [*, errW_none, errW_some] <;> rfl), by repeat (first | (with_reducible first | exact HB.out | apply below_alloc | apply pw_below_drewN | apply below_drew1 | refine below_set ?_ GE237.out | refine below_set ?_ GE258.out) | exact HB.out)⟩
 ·replace c5 := Bool.eq_false_iff.mpr c5
  subst c5
  have H1 : (some false) = some r := by rw [if_neg (show ¬ (false = true) by decide)] at H; exact H
  clear H
  have H := H1
  clear H1
  obtain rfl := Option.some.inj H
  exact absurd hr_.out (by decide)

end Go.Proofs.Ytmkjljekofondaa.Print
