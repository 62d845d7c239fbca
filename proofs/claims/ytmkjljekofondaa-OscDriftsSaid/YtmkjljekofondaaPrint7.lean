-- PRINTED by print.py (a twelfth state) out of the translation. Not trusted: Lean checks it.
import Derived.Test.YtmkjljekofondaaPrint0
import Derived.Test.YtmkjljekofondaaPrint2
import Derived.Test.YtmkjljekofondaaPrint4
import Derived.Test.YtmkjljekofondaaPrint6
namespace Go.Proofs.Ytmkjljekofondaa.Print
open Go.RowKit Go.Proofs.YtmkjljekofondaaW.PrintWords Go.Proofs.YtmkjljekofondaaW.PrintLast Go.Proofs.YtmkjljekofondaaW.PrintMore Go.Proofs.YtmkjljekofondaaX
attribute [local go_sem] max2_int min2_int max_two min_two max_three min_three max_four min_four   -- for this text's walks alone
set_option linter.unusedVariables false
set_option linter.unusedSimpArgs false

/-! ### palletlaw06_OscDrifts: function 4 -/
mutual
def palletlaw06_OscDrifts.j0 : Nat → Int → Int → Bool → Bool → Int → Int → Int → Int → Int → Int → Option (Bool)
 | 0, _, _, _, _, _, _, _, _, _, _ => none
 | k + 1, x1, x2, x7, x44, x165000, x165001, x165002, x167000, x167001, x167002 => if x44 = true then (some x7) else ((osc_Run.f k x165000 x165001 x165002 x2).bind fun bt170 => ((osc_Run.f k x167000 x167001 x167002 x2).bind fun bt176 => ((osc_Run.f k x165000 0 0 x2).bind fun bt182 => ((osc_Apart.f k x167000 x167001 x167002 x165000 x165001 x165002 x2).bind fun bt188 => (if bt170.2.2.2.2 = 0 then (if bt176.2.2.2.2 = 0 then (if bt182.2.2.2.2 = 0 then (palletlaw06_OscDrifts.j1 k x1 x2 x7 bt170.1 bt176.1 bt182.1 bt188.1 (bt188.2 != 0) x165000 x165001 x165002 bt182.2.1 bt182.2.2.1 bt182.2.2.2.1) else (palletlaw06_OscDrifts.j1 k x1 x2 x7 bt170.1 bt176.1 bt182.1 bt188.1 true x165000 x165001 x165002 bt182.2.1 bt182.2.2.1 bt182.2.2.2.1)) else (palletlaw06_OscDrifts.j1 k x1 x2 x7 bt170.1 bt176.1 bt182.1 bt188.1 true x165000 x165001 x165002 bt182.2.1 bt182.2.2.1 bt182.2.2.2.1)) else (palletlaw06_OscDrifts.j1 k x1 x2 x7 bt170.1 bt176.1 bt182.1 bt188.1 true x165000 x165001 x165002 bt182.2.1 bt182.2.2.1 bt182.2.2.2.1))))))
def palletlaw06_OscDrifts.j1 : Nat → Int → Int → Bool → Int → Int → Int → Int → Bool → Int → Int → Int → Int → Int → Int → Option (Bool)
 | 0, _, _, _, _, _, _, _, _, _, _, _, _, _, _ => none
 | k + 1, x1, x2, x7, x10, x13, x16, x19, x90, x165000, x165001, x165002, x188000, x188001, x188002 => if x90 = true then (some false) else (if x10 > x13 then (some false) else (if x16 = (wrap64 (x2 * x165000)) then (if x188002 = 0 then (if x19 = (wrap64 (x13 - x10)) then (if x7 = true then (some (decide (x19 ≤ (wrap64 ((wrap64 ((wrap64 (Int.tdiv (wrap64 ((wrap64 (Int.tdiv (wrap64 (x2 * x165000)) 1000000)) * x1)) 1000)) + x1)) + 1))))) else (some false)) else (some false)) else (some false)) else (some false)))
end
def palletlaw06_OscDrifts.f (k : Nat) (a0_0 : Int) (a0_1 : Int) (a0_2 : Int) (a1 : Int) (a2 : Int) : Option (Bool) := (palletlaw06_live.f k).bind fun t165 => (if t165 = true then ((osc_Check.f a0_0 a0_1 a0_2).bind fun t167 => (if t167 = 0 then ((osc_Check.f a0_0 (wrap64 (a0_1 + (Int.tmod (wrap64 ((Int.tmod a1 1000) + 1000)) 1000))) a0_2).bind fun t168 => (palletlaw06_OscDrifts.j0 k (Int.tmod (wrap64 ((Int.tmod a1 1000) + 1000)) 1000) (Go.bits .and .i64 a2 1048575) t165 (t168 != 0) a0_0 a0_1 a0_2 a0_0 (wrap64 (a0_1 + (Int.tmod (wrap64 ((Int.tmod a1 1000) + 1000)) 1000))) a0_2)) else (palletlaw06_OscDrifts.j0 k (Int.tmod (wrap64 ((Int.tmod a1 1000) + 1000)) 1000) (Go.bits .and .i64 a2 1048575) t165 true a0_0 a0_1 a0_2 a0_0 (wrap64 (a0_1 + (Int.tmod (wrap64 ((Int.tmod a1 1000) + 1000)) 1000))) a0_2))) else (some false))
theorem palletlaw06_OscDrifts.mono_l : ∀ k, (∀ y0 y1 y2 y3 y4 y5 y6 y7 y8 y9, LeO (palletlaw06_OscDrifts.j0 k y0 y1 y2 y3 y4 y5 y6 y7 y8 y9) (palletlaw06_OscDrifts.j0 (k + 1) y0 y1 y2 y3 y4 y5 y6 y7 y8 y9)) ∧ (∀ y0 y1 y2 y3 y4 y5 y6 y7 y8 y9 y10 y11 y12 y13, LeO (palletlaw06_OscDrifts.j1 k y0 y1 y2 y3 y4 y5 y6 y7 y8 y9 y10 y11 y12 y13) (palletlaw06_OscDrifts.j1 (k + 1) y0 y1 y2 y3 y4 y5 y6 y7 y8 y9 y10 y11 y12 y13))
 | 0 => ⟨fun _ _ _ _ _ _ _ _ _ _ r h => by simp [palletlaw06_OscDrifts.j0] at h, fun _ _ _ _ _ _ _ _ _ _ _ _ _ _ r h => by simp [palletlaw06_OscDrifts.j1] at h⟩
 | k + 1 => by
  obtain ⟨ih0, ih1⟩ := palletlaw06_OscDrifts.mono_l k
  refine ⟨?_, ?_⟩
  ·intro y0 y1 y2 y3 y4 y5 y6 y7 y8 y9
   unfold palletlaw06_OscDrifts.j0
   repeat' first
   | (with_reducible exact ih0 _ _ _ _ _ _ _ _ _ _)
   | (with_reducible exact ih1 _ _ _ _ _ _ _ _ _ _ _ _ _ _)
   | (with_reducible exact osc_Apart.mono _ _ _ _ _ _ _ _)
   | (with_reducible exact osc_Run.mono _ _ _ _ _)
   | (with_reducible exact palletlaw06_live.mono _)
   | (with_reducible exact LeO.refl _)
   | (with_reducible exact LeO.none _)
   | (with_reducible refine LeO.ite ?_ ?_)
   | (with_reducible refine LeO.bind ?_ (fun _ => ?_))
   | exact ih0 _ _ _ _ _ _ _ _ _ _
   | exact ih1 _ _ _ _ _ _ _ _ _ _ _ _ _ _
   | exact osc_Apart.mono _ _ _ _ _ _ _ _
   | exact osc_Run.mono _ _ _ _ _
   | exact palletlaw06_live.mono _
   | exact LeO.none _
   | refine LeO.ite ?_ ?_
   | refine LeO.bind ?_ (fun _ => ?_)
  ·intro y0 y1 y2 y3 y4 y5 y6 y7 y8 y9 y10 y11 y12 y13
   unfold palletlaw06_OscDrifts.j1
   repeat' first
   | (with_reducible exact ih0 _ _ _ _ _ _ _ _ _ _)
   | (with_reducible exact ih1 _ _ _ _ _ _ _ _ _ _ _ _ _ _)
   | (with_reducible exact osc_Apart.mono _ _ _ _ _ _ _ _)
   | (with_reducible exact osc_Run.mono _ _ _ _ _)
   | (with_reducible exact palletlaw06_live.mono _)
   | (with_reducible exact LeO.refl _)
   | (with_reducible exact LeO.none _)
   | (with_reducible refine LeO.ite ?_ ?_)
   | (with_reducible refine LeO.bind ?_ (fun _ => ?_))
   | exact ih0 _ _ _ _ _ _ _ _ _ _
   | exact ih1 _ _ _ _ _ _ _ _ _ _ _ _ _ _
   | exact osc_Apart.mono _ _ _ _ _ _ _ _
   | exact osc_Run.mono _ _ _ _ _
   | exact palletlaw06_live.mono _
   | exact LeO.none _
   | refine LeO.ite ?_ ?_
   | refine LeO.bind ?_ (fun _ => ?_)
theorem palletlaw06_OscDrifts.mono : ∀ a0 a1 a2 a3 a4 k, LeO (palletlaw06_OscDrifts.f k a0 a1 a2 a3 a4) (palletlaw06_OscDrifts.f (k + 1) a0 a1 a2 a3 a4) := by
 intro a0 a1 a2 a3 a4 k
 obtain ⟨ih0, ih1⟩ := palletlaw06_OscDrifts.mono_l k
 unfold palletlaw06_OscDrifts.f
 repeat' first
   | (with_reducible exact ih0 _ _ _ _ _ _ _ _ _ _)
   | (with_reducible exact ih1 _ _ _ _ _ _ _ _ _ _ _ _ _ _)
   | (with_reducible exact osc_Apart.mono _ _ _ _ _ _ _ _)
   | (with_reducible exact osc_Run.mono _ _ _ _ _)
   | (with_reducible exact palletlaw06_live.mono _)
   | (with_reducible exact LeO.refl _)
   | (with_reducible exact LeO.none _)
   | (with_reducible refine LeO.ite ?_ ?_)
   | (with_reducible refine LeO.bind ?_ (fun _ => ?_))
   | exact ih0 _ _ _ _ _ _ _ _ _ _
   | exact ih1 _ _ _ _ _ _ _ _ _ _ _ _ _ _
   | exact osc_Apart.mono _ _ _ _ _ _ _ _
   | exact osc_Run.mono _ _ _ _ _
   | exact palletlaw06_live.mono _
   | exact LeO.none _
   | refine LeO.ite ?_ ?_
   | refine LeO.bind ?_ (fun _ => ?_)
set_option maxHeartbeats 8000000 in
set_option maxRecDepth 100000 in
theorem palletlaw06_OscDrifts.calls (k : Nat) (a0_0 : Int) (a0_1 : Int) (a0_2 : Int) (a1 : Int) (a2 : Int) (r : Bool) (w : World) (hr_ : Aside0 (r = true)) (h : palletlaw06_OscDrifts.f k a0_0 a0_1 a0_2 a1 a2 = some r) :
  Calls Try.prog 4 #[.agg #[.int .i64 a0_0, .int .i64 a0_1, .int .i64 a0_2], .int .i64 a1, .int .i64 a2] w fun e w' => e = .returned (.bool r) ∧ Below w.heap.size w w' := by
 have hu23 := Try.underlying23
 have HB := Aside0.mk (Below.refl w.heap.size w)
 have H : ((palletlaw06_live.f k).bind fun t165 => (if t165 = true then ((osc_Check.f a0_0 a0_1 a0_2).bind fun t167 => (if t167 = 0 then ((osc_Check.f a0_0 (wrap64 (a0_1 + (Int.tmod (wrap64 ((Int.tmod a1 1000) + 1000)) 1000))) a0_2).bind fun t168 => (palletlaw06_OscDrifts.j0 k (Int.tmod (wrap64 ((Int.tmod a1 1000) + 1000)) 1000) (Go.bits .and .i64 a2 1048575) t165 (t168 != 0) a0_0 a0_1 a0_2 a0_0 (wrap64 (a0_1 + (Int.tmod (wrap64 ((Int.tmod a1 1000) + 1000)) 1000))) a0_2)) else (palletlaw06_OscDrifts.j0 k (Int.tmod (wrap64 ((Int.tmod a1 1000) + 1000)) 1000) (Go.bits .and .i64 a2 1048575) t165 true a0_0 a0_1 a0_2 a0_0 (wrap64 (a0_1 + (Int.tmod (wrap64 ((Int.tmod a1 1000) + 1000)) 1000))) a0_2))) else (some false))) = some r := h
 clear h
 replace H := Option.bind_eq_some_iff.mp H
 obtain ⟨t165, A40, H⟩ := H
 replace H : (if t165 = true then ((osc_Check.f a0_0 a0_1 a0_2).bind fun t167 => (if t167 = 0 then ((osc_Check.f a0_0 (wrap64 (a0_1 + (Int.tmod (wrap64 ((Int.tmod a1 1000) + 1000)) 1000))) a0_2).bind fun t168 => (palletlaw06_OscDrifts.j0 k (Int.tmod (wrap64 ((Int.tmod a1 1000) + 1000)) 1000) (Go.bits .and .i64 a2 1048575) t165 (t168 != 0) a0_0 a0_1 a0_2 a0_0 (wrap64 (a0_1 + (Int.tmod (wrap64 ((Int.tmod a1 1000) + 1000)) 1000))) a0_2)) else (palletlaw06_OscDrifts.j0 k (Int.tmod (wrap64 ((Int.tmod a1 1000) + 1000)) 1000) (Go.bits .and .i64 a2 1048575) t165 true a0_0 a0_1 a0_2 a0_0 (wrap64 (a0_1 + (Int.tmod (wrap64 ((Int.tmod a1 1000) + 1000)) 1000))) a0_2))) else (some false)) = some r := H
 have A4 := Aside0.mk A40
 clear A40
 by_cases c5 : t165 = true
 ·subst c5
  have H1 : ((osc_Check.f a0_0 a0_1 a0_2).bind fun t167 => (if t167 = 0 then ((osc_Check.f a0_0 (wrap64 (a0_1 + (Int.tmod (wrap64 ((Int.tmod a1 1000) + 1000)) 1000))) a0_2).bind fun t168 => (palletlaw06_OscDrifts.j0 k (Int.tmod (wrap64 ((Int.tmod a1 1000) + 1000)) 1000) (Go.bits .and .i64 a2 1048575) true (t168 != 0) a0_0 a0_1 a0_2 a0_0 (wrap64 (a0_1 + (Int.tmod (wrap64 ((Int.tmod a1 1000) + 1000)) 1000))) a0_2)) else (palletlaw06_OscDrifts.j0 k (Int.tmod (wrap64 ((Int.tmod a1 1000) + 1000)) 1000) (Go.bits .and .i64 a2 1048575) true true a0_0 a0_1 a0_2 a0_0 (wrap64 (a0_1 + (Int.tmod (wrap64 ((Int.tmod a1 1000) + 1000)) 1000))) a0_2))) = some r := by rw [if_pos rfl] at H; exact H
  clear H
  have H := H1
  clear H1
  have HC6 := Aside0.mk H
  clear H
  go_enter Try.func4, Try.ntmps4
  go_upto_region 8 with (first | ((with_reducible refine gate_dst (N := 3) rfl ?_); refine box_event ?hg (N := 3) ?hd (cs := #[.int .i64 a0_0, .int .i64 a0_1, .int .i64 a0_2]) (t := 23) ?hr ?_; (case hd => rfl); (case hg => rfl); (case hr => first | (go_simp; done) | (go_simp; rfl)); intro gb164 hg w7 hbox hb; have n0_ := Aside0.mk (below_step (by repeat (first | (with_reducible first | exact HB.out | apply below_alloc | apply pw_below_drewN | apply below_drew1) | exact HB.out)) hb); have n1_ := Aside0.mk (hbox); have n2_ := Aside0.mk ((by rw [hg]; exact (below_size (by repeat (first | (with_reducible first | exact HB.out | apply below_alloc | apply pw_below_drewN | apply below_drew1) | exact HB.out))) : w.heap.size ≤ gb164)); have n3_ := Aside0.mk ((by rw [hg]; exact (below_size (by repeat (first | (with_reducible first | exact HB.out | apply below_alloc | apply pw_below_drewN | apply below_drew1) | exact HB.out))) : w.heap.size ≤ gb164)); clear HB; have HB := n0_; have BK164 := n1_; have GW164 := n2_; have GE164 := n3_; clear n0_ n1_ n2_ n3_; clear hb hbox hg) | ((with_reducible refine gate_callee (f := 14) rfl ?_); refine goesL_ (some 22) rfl rfl Try.func14 (by kernel_rfl) rfl #[] rfl (by (try simp only [List.map_toArray, List.map_cons, List.map_nil]); first | done | rfl | (simp only [List.length_drop, List.length_take]; rfl)) ?_; (with_reducible refine (palletlaw06_live.calls k  true _ A4.out).mono ?_); rintro e w8 ⟨rfl, hb⟩; refine ⟨_, rfl, ?_⟩; have n0_ := Aside0.mk (blk_below (g := gb164) (o := .cells #[.int .i64 a0_0, .int .i64 a0_1, .int .i64 a0_2] 23 (0, 0)) (by (with_reducible repeat (first | refine blk_drewN ?_ _ | refine blk_drew ?_ | refine blk_alloc ?_ _)); exact BK164.out) hb); have n1_ := Aside0.mk (below_step (by repeat (first | (with_reducible first | exact HB.out | apply below_alloc | apply pw_below_drewN | apply below_drew1 | refine below_set ?_ GE164.out) | exact HB.out)) hb); clear BK164; clear HB; have BK164 := n0_; have HB := n1_; clear n0_ n1_; (try clear hb); (try clear hb2); (try clear hk); (try clear hi); have hcz9_0 : w8.cell? ⟨gb164, 0, none⟩ = some (.int .i64 a0_0) := (blk_cell BK164.out 0).trans rfl; have hcz9_1 : w8.cell? ⟨gb164, 1, none⟩ = some (.int .i64 a0_1) := (blk_cell BK164.out 1).trans rfl; have hcz9_2 : w8.cell? ⟨gb164, 2, none⟩ = some (.int .i64 a0_2) := (blk_cell BK164.out 2).trans rfl; have hfz9_0 := blk_frozen BK164.out 0; have hfz9_1 := blk_frozen BK164.out 1; have hfz9_2 := blk_frozen BK164.out 2) | ((with_reducible refine gate_dst (N := 8) rfl ?_); refine box_event ?hg (N := 8) ?hd (cs := #[.int .i64 0, .int .i64 0, .int .i64 0]) (t := 23) ?hr ?_; (case hd => rfl); (case hg => rfl); (case hr => first | (go_simp; done) | (go_simp; rfl)); intro gb166 hg w10 hbox hb; have n0_ := Aside0.mk (blk_below (g := gb164) (o := .cells #[.int .i64 a0_0, .int .i64 a0_1, .int .i64 a0_2] 23 (0, 0)) (by (with_reducible repeat (first | refine blk_drewN ?_ _ | refine blk_drew ?_ | refine blk_alloc ?_ _)); exact BK164.out) hb); have n1_ := Aside0.mk (below_step (by repeat (first | (with_reducible first | exact HB.out | apply below_alloc | apply pw_below_drewN | apply below_drew1 | refine below_set ?_ GE164.out) | exact HB.out)) hb); have n2_ := Aside0.mk (hbox); have n3_ := Aside0.mk ((by rw [hg]; exact (below_size (by repeat (first | (with_reducible first | exact HB.out | apply below_alloc | apply pw_below_drewN | apply below_drew1 | refine below_set ?_ GE164.out) | exact HB.out))) : w.heap.size ≤ gb166)); have n4_ := Aside0.mk ((by rw [hg]; exact (below_size (by repeat (first | (with_reducible first | exact HB.out | apply below_alloc | apply pw_below_drewN | apply below_drew1 | refine below_set ?_ GE164.out) | exact HB.out))) : w.heap.size ≤ gb166)); have n5_ := Aside0.mk ((by rw [hg]; exact Nat.ne_of_lt (blk_lt (g := gb164) (o := .cells #[.int .i64 a0_0, .int .i64 a0_1, .int .i64 a0_2] 23 (0, 0)) (by (with_reducible repeat (first | refine blk_drewN ?_ _ | refine blk_drew ?_ | refine blk_alloc ?_ _)); exact BK164.out)) : gb164 ≠ gb166)); have n6_ := Aside0.mk ((by rw [hg]; exact Nat.ne_of_gt (blk_lt (g := gb164) (o := .cells #[.int .i64 a0_0, .int .i64 a0_1, .int .i64 a0_2] 23 (0, 0)) (by (with_reducible repeat (first | refine blk_drewN ?_ _ | refine blk_drew ?_ | refine blk_alloc ?_ _)); exact BK164.out)) : gb166 ≠ gb164)); clear BK164; clear HB; have BK164 := n0_; have HB := n1_; have BK166 := n2_; have GW166 := n3_; have GE166 := n4_; have NB164_166 := n5_; have NB166_164 := n6_; clear n0_ n1_ n2_ n3_ n4_ n5_ n6_; clear hb hbox hg; have hnb11 := NB166_164.out; have hnc11 := NB164_166.out; have hcz12_0 : w10.cell? ⟨gb166, 0, none⟩ = some (.int .i64 0) := (blk_cell BK166.out 0).trans rfl; have hcz12_1 : w10.cell? ⟨gb166, 1, none⟩ = some (.int .i64 0) := (blk_cell BK166.out 1).trans rfl; have hcz12_2 : w10.cell? ⟨gb166, 2, none⟩ = some (.int .i64 0) := (blk_cell BK166.out 2).trans rfl; have hfz12_0 := blk_frozen BK166.out 0; have hfz12_1 := blk_frozen BK166.out 1; have hfz12_2 := blk_frozen BK166.out 2))
  (try simp only [Act.put, List.setIfInBounds_toArray, List.set_cons_zero, List.set_cons_succ])
  go_cut [44] (fun v44 wc => ∃ (kq : Nat) (x44_5 : Bool), v44 = .bool x44_5 ∧ Aside0 (palletlaw06_OscDrifts.j0 kq (Int.tmod (wrap64 ((Int.tmod a1 1000) + 1000)) 1000) (Go.bits .and .i64 a2 1048575) true x44_5 a0_0 a0_1 a0_2 a0_0 (wrap64 (a0_1 + (Int.tmod (wrap64 ((Int.tmod a1 1000) + 1000)) 1000))) a0_2 = some r) ∧ Aside0 (kq ≤ k) ∧ Aside0 (wc.heap[gb164]? = some (.cells #[.int .i64 a0_0, .int .i64 a0_1, .int .i64 a0_2] 23 (0, 0))) ∧ Aside0 (wc.heap[gb166]? = some (.cells #[.int .i64 a0_0, .int .i64 (wrap64 (a0_1 + (Int.tmod (wrap64 ((Int.tmod a1 1000) + 1000)) 1000))), .int .i64 a0_2] 23 (0, 0))) ∧ Aside0 (Below w.heap.size w wc))
  case first =>
   have H := HC6.out
   clear HC6
   replace H := Option.bind_eq_some_iff.mp H
   obtain ⟨t167, A130, H⟩ := H
   replace H : (if t167 = 0 then ((osc_Check.f a0_0 (wrap64 (a0_1 + (Int.tmod (wrap64 ((Int.tmod a1 1000) + 1000)) 1000))) a0_2).bind fun t168 => (palletlaw06_OscDrifts.j0 k (Int.tmod (wrap64 ((Int.tmod a1 1000) + 1000)) 1000) (Go.bits .and .i64 a2 1048575) true (t168 != 0) a0_0 a0_1 a0_2 a0_0 (wrap64 (a0_1 + (Int.tmod (wrap64 ((Int.tmod a1 1000) + 1000)) 1000))) a0_2)) else (palletlaw06_OscDrifts.j0 k (Int.tmod (wrap64 ((Int.tmod a1 1000) + 1000)) 1000) (Go.bits .and .i64 a2 1048575) true true a0_0 a0_1 a0_2 a0_0 (wrap64 (a0_1 + (Int.tmod (wrap64 ((Int.tmod a1 1000) + 1000)) 1000))) a0_2)) = some r := H
   have A13 := Aside0.mk A130
   clear A130
   by_cases c14 : t167 = 0
   ·rw [if_pos c14] at H
    have c14b0 : (t167 == 0) = true := beq_iff_eq.mpr c14
    have c14b1 : (t167 != 0) = false := bne_eq_false_iff_eq.mpr c14
    clear c14
    (first | rw [c14b0] | (simp only [i64_w, i32_w]; rw [c14b0]) | skip)
    replace H := Option.bind_eq_some_iff.mp H
    obtain ⟨t168, A150, H⟩ := H
    replace H : (palletlaw06_OscDrifts.j0 k (Int.tmod (wrap64 ((Int.tmod a1 1000) + 1000)) 1000) (Go.bits .and .i64 a2 1048575) true (t168 != 0) a0_0 a0_1 a0_2 a0_0 (wrap64 (a0_1 + (Int.tmod (wrap64 ((Int.tmod a1 1000) + 1000)) 1000))) a0_2) = some r := H
    have A15 := Aside0.mk A150
    clear A150
    have H' := Aside0.mk H
    clear H
    have hnb16 := NB164_166.out
    have hnc16 := NB166_164.out
    have hcz17_0 : w10.cell? ⟨gb164, 0, none⟩ = some (.int .i64 a0_0) := (blk_cell BK164.out 0).trans rfl
    have hcz17_1 : w10.cell? ⟨gb164, 1, none⟩ = some (.int .i64 a0_1) := (blk_cell BK164.out 1).trans rfl
    have hcz17_2 : w10.cell? ⟨gb164, 2, none⟩ = some (.int .i64 a0_2) := (blk_cell BK164.out 2).trans rfl
    have hfz17_0 := blk_frozen BK164.out 0
    have hfz17_1 := blk_frozen BK164.out 1
    have hfz17_2 := blk_frozen BK164.out 2
    go_wp2_with (first | ((with_reducible refine gate_callee (f := 15) rfl ?_); refine goesL_ (some 38) rfl rfl Try.func15 (by kernel_rfl) rfl #[.agg #[.int .i64 a0_0, .int .i64 a0_1, .int .i64 a0_2]] rfl (by (try simp only [List.map_toArray, List.map_cons, List.map_nil]); first | done | rfl | (simp only [List.length_drop, List.length_take]; rfl)) ?_; (with_reducible refine (osc_Check.calls a0_0 a0_1 a0_2 t167 _ A13.out).mono ?_); rintro e w18 ⟨rfl, hb⟩; refine ⟨_, rfl, ?_⟩; have n0_ := Aside0.mk (blk_below (g := gb164) (o := .cells #[.int .i64 a0_0, .int .i64 a0_1, .int .i64 a0_2] 23 (0, 0)) (by (with_reducible repeat (first | refine blk_drewN ?_ _ | refine blk_drew ?_ | refine blk_alloc ?_ _)); refine blk_far ?_ NB164_166.out _; (with_reducible repeat (first | refine blk_drewN ?_ _ | refine blk_drew ?_ | refine blk_alloc ?_ _)); refine blk_far ?_ NB164_166.out _; (with_reducible repeat (first | refine blk_drewN ?_ _ | refine blk_drew ?_ | refine blk_alloc ?_ _)); refine blk_far ?_ NB164_166.out _; (with_reducible repeat (first | refine blk_drewN ?_ _ | refine blk_drew ?_ | refine blk_alloc ?_ _)); refine blk_far ?_ NB164_166.out _; (with_reducible repeat (first | refine blk_drewN ?_ _ | refine blk_drew ?_ | refine blk_alloc ?_ _)); exact BK164.out) hb); have n1_ := Aside0.mk (blk_below (g := gb166) (o := .cells #[.int .i64 a0_0, .int .i64 (wrap64 (a0_1 + (Int.tmod (wrap64 ((Int.tmod a1 1000) + 1000)) 1000))), .int .i64 a0_2] 23 (0, 0)) (by (with_reducible repeat (first | refine blk_drewN ?_ _ | refine blk_drew ?_ | refine blk_alloc ?_ _)); refine blk_put (cs := #[.int .i64 a0_0, .int .i64 a0_1, .int .i64 a0_2]) ?_ 1 _ rfl; (with_reducible repeat (first | refine blk_drewN ?_ _ | refine blk_drew ?_ | refine blk_alloc ?_ _)); refine blk_put (cs := #[.int .i64 a0_0, .int .i64 a0_1, .int .i64 0]) ?_ 2 _ rfl; (with_reducible repeat (first | refine blk_drewN ?_ _ | refine blk_drew ?_ | refine blk_alloc ?_ _)); refine blk_put (cs := #[.int .i64 a0_0, .int .i64 0, .int .i64 0]) ?_ 1 _ rfl; (with_reducible repeat (first | refine blk_drewN ?_ _ | refine blk_drew ?_ | refine blk_alloc ?_ _)); refine blk_put (cs := #[.int .i64 0, .int .i64 0, .int .i64 0]) ?_ 0 _ rfl; (with_reducible repeat (first | refine blk_drewN ?_ _ | refine blk_drew ?_ | refine blk_alloc ?_ _)); exact BK166.out) hb); have n2_ := Aside0.mk (below_step (by repeat (first | (with_reducible first | exact HB.out | apply below_alloc | apply pw_below_drewN | apply below_drew1 | refine below_set ?_ GE164.out | refine below_set ?_ GE166.out) | exact HB.out)) hb); clear BK164; clear BK166; clear HB; have BK164 := n0_; have BK166 := n1_; have HB := n2_; clear n0_ n1_ n2_; (try clear hb); (try clear hb2); (try clear hk); (try clear hi); have hcz19_0 : w18.cell? ⟨gb166, 0, none⟩ = some (.int .i64 a0_0) := (blk_cell BK166.out 0).trans rfl; have hcz19_1 : w18.cell? ⟨gb166, 1, none⟩ = some (.int .i64 (wrap64 (a0_1 + (Int.tmod (wrap64 ((Int.tmod a1 1000) + 1000)) 1000)))) := (blk_cell BK166.out 1).trans rfl; have hcz19_2 : w18.cell? ⟨gb166, 2, none⟩ = some (.int .i64 a0_2) := (blk_cell BK166.out 2).trans rfl; have hfz19_0 := blk_frozen BK166.out 0; have hfz19_1 := blk_frozen BK166.out 1; have hfz19_2 := blk_frozen BK166.out 2) | (go_at_call 15; (with_reducible refine (osc_Check.calls a0_0 (wrap64 (a0_1 + (Int.tmod (wrap64 ((Int.tmod a1 1000) + 1000)) 1000))) a0_2 t168 _ A15.out).mono ?_); rintro e w20 ⟨rfl, hb⟩; have n0_ := Aside0.mk (blk_below (g := gb164) (o := .cells #[.int .i64 a0_0, .int .i64 a0_1, .int .i64 a0_2] 23 (0, 0)) (by (with_reducible repeat (first | refine blk_drewN ?_ _ | refine blk_drew ?_ | refine blk_alloc ?_ _)); exact BK164.out) hb); have n1_ := Aside0.mk (blk_below (g := gb166) (o := .cells #[.int .i64 a0_0, .int .i64 (wrap64 (a0_1 + (Int.tmod (wrap64 ((Int.tmod a1 1000) + 1000)) 1000))), .int .i64 a0_2] 23 (0, 0)) (by (with_reducible repeat (first | refine blk_drewN ?_ _ | refine blk_drew ?_ | refine blk_alloc ?_ _)); exact BK166.out) hb); have n2_ := Aside0.mk (below_step (by repeat (first | (with_reducible first | exact HB.out | apply below_alloc | apply pw_below_drewN | apply below_drew1 | refine below_set ?_ GE164.out | refine below_set ?_ GE166.out) | exact HB.out)) hb); clear BK164; clear BK166; clear HB; have BK164 := n0_; have BK166 := n1_; have HB := n2_; clear n0_ n1_ n2_; (try clear hb); (try clear hb2); (try clear hk); (try clear hi)))
    go_meet
    case rel => exact ⟨_, ((t168 != 0)), (by first | rfl | (simp; done) | (simp [*]; done)), H', ⟨by first | omega | exact Nat.le_refl _⟩, ⟨by (with_reducible repeat (first | refine blk_drewN ?_ _ | refine blk_drew ?_ | refine blk_alloc ?_ _)); exact BK164.out⟩, ⟨by (with_reducible repeat (first | refine blk_drewN ?_ _ | refine blk_drew ?_ | refine blk_alloc ?_ _)); exact BK166.out⟩, ⟨by repeat (first | (with_reducible first | exact HB.out | apply below_alloc | apply pw_below_drewN | apply below_drew1 | refine below_set ?_ GE164.out | refine below_set ?_ GE166.out) | exact HB.out)⟩⟩
   ·rw [if_neg c14] at H
    have c14b0 : (t167 == 0) = false := beq_eq_false_iff_ne.mpr c14
    have c14b1 : (t167 != 0) = true := bne_iff_ne.mpr c14
    (first | rw [c14b0] | (simp only [i64_w, i32_w]; rw [c14b0]) | skip)
    have H' := Aside0.mk H
    clear H
    have hnb21 := NB164_166.out
    have hnc21 := NB166_164.out
    have hcz22_0 : w10.cell? ⟨gb164, 0, none⟩ = some (.int .i64 a0_0) := (blk_cell BK164.out 0).trans rfl
    have hcz22_1 : w10.cell? ⟨gb164, 1, none⟩ = some (.int .i64 a0_1) := (blk_cell BK164.out 1).trans rfl
    have hcz22_2 : w10.cell? ⟨gb164, 2, none⟩ = some (.int .i64 a0_2) := (blk_cell BK164.out 2).trans rfl
    have hfz22_0 := blk_frozen BK164.out 0
    have hfz22_1 := blk_frozen BK164.out 1
    have hfz22_2 := blk_frozen BK164.out 2
    go_wp2_with (first | ((with_reducible refine gate_callee (f := 15) rfl ?_); refine goesL_ (some 38) rfl rfl Try.func15 (by kernel_rfl) rfl #[.agg #[.int .i64 a0_0, .int .i64 a0_1, .int .i64 a0_2]] rfl (by (try simp only [List.map_toArray, List.map_cons, List.map_nil]); first | done | rfl | (simp only [List.length_drop, List.length_take]; rfl)) ?_; (with_reducible refine (osc_Check.calls a0_0 a0_1 a0_2 t167 _ A13.out).mono ?_); rintro e w23 ⟨rfl, hb⟩; refine ⟨_, rfl, ?_⟩; have n0_ := Aside0.mk (blk_below (g := gb164) (o := .cells #[.int .i64 a0_0, .int .i64 a0_1, .int .i64 a0_2] 23 (0, 0)) (by (with_reducible repeat (first | refine blk_drewN ?_ _ | refine blk_drew ?_ | refine blk_alloc ?_ _)); refine blk_far ?_ NB164_166.out _; (with_reducible repeat (first | refine blk_drewN ?_ _ | refine blk_drew ?_ | refine blk_alloc ?_ _)); refine blk_far ?_ NB164_166.out _; (with_reducible repeat (first | refine blk_drewN ?_ _ | refine blk_drew ?_ | refine blk_alloc ?_ _)); refine blk_far ?_ NB164_166.out _; (with_reducible repeat (first | refine blk_drewN ?_ _ | refine blk_drew ?_ | refine blk_alloc ?_ _)); refine blk_far ?_ NB164_166.out _; (with_reducible repeat (first | refine blk_drewN ?_ _ | refine blk_drew ?_ | refine blk_alloc ?_ _)); exact BK164.out) hb); have n1_ := Aside0.mk (blk_below (g := gb166) (o := .cells #[.int .i64 a0_0, .int .i64 (wrap64 (a0_1 + (Int.tmod (wrap64 ((Int.tmod a1 1000) + 1000)) 1000))), .int .i64 a0_2] 23 (0, 0)) (by (with_reducible repeat (first | refine blk_drewN ?_ _ | refine blk_drew ?_ | refine blk_alloc ?_ _)); refine blk_put (cs := #[.int .i64 a0_0, .int .i64 a0_1, .int .i64 a0_2]) ?_ 1 _ rfl; (with_reducible repeat (first | refine blk_drewN ?_ _ | refine blk_drew ?_ | refine blk_alloc ?_ _)); refine blk_put (cs := #[.int .i64 a0_0, .int .i64 a0_1, .int .i64 0]) ?_ 2 _ rfl; (with_reducible repeat (first | refine blk_drewN ?_ _ | refine blk_drew ?_ | refine blk_alloc ?_ _)); refine blk_put (cs := #[.int .i64 a0_0, .int .i64 0, .int .i64 0]) ?_ 1 _ rfl; (with_reducible repeat (first | refine blk_drewN ?_ _ | refine blk_drew ?_ | refine blk_alloc ?_ _)); refine blk_put (cs := #[.int .i64 0, .int .i64 0, .int .i64 0]) ?_ 0 _ rfl; (with_reducible repeat (first | refine blk_drewN ?_ _ | refine blk_drew ?_ | refine blk_alloc ?_ _)); exact BK166.out) hb); have n2_ := Aside0.mk (below_step (by repeat (first | (with_reducible first | exact HB.out | apply below_alloc | apply pw_below_drewN | apply below_drew1 | refine below_set ?_ GE164.out | refine below_set ?_ GE166.out) | exact HB.out)) hb); clear BK164; clear BK166; clear HB; have BK164 := n0_; have BK166 := n1_; have HB := n2_; clear n0_ n1_ n2_; (try clear hb); (try clear hb2); (try clear hk); (try clear hi)))
    go_meet
    case rel => exact ⟨_, (true), (by first | rfl | (simp; done) | (simp [*]; done)), H', ⟨by first | omega | exact Nat.le_refl _⟩, ⟨by (with_reducible repeat (first | refine blk_drewN ?_ _ | refine blk_drew ?_ | refine blk_alloc ?_ _)); exact BK164.out⟩, ⟨by (with_reducible repeat (first | refine blk_drewN ?_ _ | refine blk_drew ?_ | refine blk_alloc ?_ _)); exact BK166.out⟩, ⟨by repeat (first | (with_reducible first | exact HB.out | apply below_alloc | apply pw_below_drewN | apply below_drew1 | refine below_set ?_ GE164.out | refine below_set ?_ GE166.out) | exact HB.out)⟩⟩
  case rest =>
   clear HC6
   try clear c1
   try clear c2
   try clear p2
   try clear c4
   try clear c5
   try clear p6
   try clear c11
   try clear c14
   try clear c14b0
   try clear c14b1
   try clear c15
   try clear c16
   try clear c21
   try clear hcz12_0
   try clear hcz12_1
   try clear hcz12_2
   try clear hcz17_0
   try clear hcz17_1
   try clear hcz17_2
   try clear hcz19_0
   try clear hcz19_1
   try clear hcz19_2
   try clear hcz22_0
   try clear hcz22_1
   try clear hcz22_2
   try clear hcz9_0
   try clear hcz9_1
   try clear hcz9_2
   try clear hfz12_0
   try clear hfz12_1
   try clear hfz12_2
   try clear hfz17_0
   try clear hfz17_1
   try clear hfz17_2
   try clear hfz19_0
   try clear hfz19_1
   try clear hfz19_2
   try clear hfz22_0
   try clear hfz22_1
   try clear hfz22_2
   try clear hfz9_0
   try clear hfz9_1
   try clear hfz9_2
   obtain ⟨kq, x44_5, rfl, HA, HJ5, BK164, BK166, HB⟩ := hcut
   cases kq with
   | zero => exact absurd HA.out (by simp [palletlaw06_OscDrifts.j0])
   | succ kj5 =>
    have H := HA.out
    clear HA
    simp only [palletlaw06_OscDrifts.j0] at H
    by_cases c24 : x44_5 = true
    ·subst c24
     have H1 : (some true) = some r := by rw [if_pos rfl] at H; exact H
     clear H
     have H := H1
     clear H1
     obtain rfl := Option.some.inj H
     go_wp2
     go_ret
     exact ⟨by first | rfl | (simp [errW_none, errW_some] <;> rfl) | (simp [*, errW_none, errW_some] <;> rfl), by repeat (first | (with_reducible first | exact HB.out | apply below_alloc | apply pw_below_drewN | apply below_drew1 | refine below_set ?_ GE164.out | refine below_set ?_ GE166.out) | exact HB.out)⟩
    ·replace c24 := Bool.eq_false_iff.mpr c24
     subst c24
     have H1 : ((osc_Run.f kj5 a0_0 a0_1 a0_2 (Go.bits .and .i64 a2 1048575)).bind fun bt170 => ((osc_Run.f kj5 a0_0 (wrap64 (a0_1 + (Int.tmod (wrap64 ((Int.tmod a1 1000) + 1000)) 1000))) a0_2 (Go.bits .and .i64 a2 1048575)).bind fun bt176 => ((osc_Run.f kj5 a0_0 0 0 (Go.bits .and .i64 a2 1048575)).bind fun bt182 => ((osc_Apart.f kj5 a0_0 (wrap64 (a0_1 + (Int.tmod (wrap64 ((Int.tmod a1 1000) + 1000)) 1000))) a0_2 a0_0 a0_1 a0_2 (Go.bits .and .i64 a2 1048575)).bind fun bt188 => (if bt170.2.2.2.2 = 0 then (if bt176.2.2.2.2 = 0 then (if bt182.2.2.2.2 = 0 then (palletlaw06_OscDrifts.j1 kj5 (Int.tmod (wrap64 ((Int.tmod a1 1000) + 1000)) 1000) (Go.bits .and .i64 a2 1048575) true bt170.1 bt176.1 bt182.1 bt188.1 (bt188.2 != 0) a0_0 a0_1 a0_2 bt182.2.1 bt182.2.2.1 bt182.2.2.2.1) else (palletlaw06_OscDrifts.j1 kj5 (Int.tmod (wrap64 ((Int.tmod a1 1000) + 1000)) 1000) (Go.bits .and .i64 a2 1048575) true bt170.1 bt176.1 bt182.1 bt188.1 true a0_0 a0_1 a0_2 bt182.2.1 bt182.2.2.1 bt182.2.2.2.1)) else (palletlaw06_OscDrifts.j1 kj5 (Int.tmod (wrap64 ((Int.tmod a1 1000) + 1000)) 1000) (Go.bits .and .i64 a2 1048575) true bt170.1 bt176.1 bt182.1 bt188.1 true a0_0 a0_1 a0_2 bt182.2.1 bt182.2.2.1 bt182.2.2.2.1)) else (palletlaw06_OscDrifts.j1 kj5 (Int.tmod (wrap64 ((Int.tmod a1 1000) + 1000)) 1000) (Go.bits .and .i64 a2 1048575) true bt170.1 bt176.1 bt182.1 bt188.1 true a0_0 a0_1 a0_2 bt182.2.1 bt182.2.2.1 bt182.2.2.2.1)))))) = some r := by rw [if_neg (show ¬ (false = true) by decide)] at H; exact H
     clear H
     have H := H1
     clear H1
     replace H := Option.bind_eq_some_iff.mp H
     obtain ⟨⟨t170, t171, t172, t173, t174⟩, A250, H⟩ := H
     replace H : ((osc_Run.f kj5 a0_0 (wrap64 (a0_1 + (Int.tmod (wrap64 ((Int.tmod a1 1000) + 1000)) 1000))) a0_2 (Go.bits .and .i64 a2 1048575)).bind fun bt176 => ((osc_Run.f kj5 a0_0 0 0 (Go.bits .and .i64 a2 1048575)).bind fun bt182 => ((osc_Apart.f kj5 a0_0 (wrap64 (a0_1 + (Int.tmod (wrap64 ((Int.tmod a1 1000) + 1000)) 1000))) a0_2 a0_0 a0_1 a0_2 (Go.bits .and .i64 a2 1048575)).bind fun bt188 => (if t174 = 0 then (if bt176.2.2.2.2 = 0 then (if bt182.2.2.2.2 = 0 then (palletlaw06_OscDrifts.j1 kj5 (Int.tmod (wrap64 ((Int.tmod a1 1000) + 1000)) 1000) (Go.bits .and .i64 a2 1048575) true t170 bt176.1 bt182.1 bt188.1 (bt188.2 != 0) a0_0 a0_1 a0_2 bt182.2.1 bt182.2.2.1 bt182.2.2.2.1) else (palletlaw06_OscDrifts.j1 kj5 (Int.tmod (wrap64 ((Int.tmod a1 1000) + 1000)) 1000) (Go.bits .and .i64 a2 1048575) true t170 bt176.1 bt182.1 bt188.1 true a0_0 a0_1 a0_2 bt182.2.1 bt182.2.2.1 bt182.2.2.2.1)) else (palletlaw06_OscDrifts.j1 kj5 (Int.tmod (wrap64 ((Int.tmod a1 1000) + 1000)) 1000) (Go.bits .and .i64 a2 1048575) true t170 bt176.1 bt182.1 bt188.1 true a0_0 a0_1 a0_2 bt182.2.1 bt182.2.2.1 bt182.2.2.2.1)) else (palletlaw06_OscDrifts.j1 kj5 (Int.tmod (wrap64 ((Int.tmod a1 1000) + 1000)) 1000) (Go.bits .and .i64 a2 1048575) true t170 bt176.1 bt182.1 bt188.1 true a0_0 a0_1 a0_2 bt182.2.1 bt182.2.2.1 bt182.2.2.2.1))))) = some r := H
     have A25 := Aside0.mk A250
     clear A250
     replace H := Option.bind_eq_some_iff.mp H
     obtain ⟨⟨t176, t177, t178, t179, t180⟩, A260, H⟩ := H
     replace H : ((osc_Run.f kj5 a0_0 0 0 (Go.bits .and .i64 a2 1048575)).bind fun bt182 => ((osc_Apart.f kj5 a0_0 (wrap64 (a0_1 + (Int.tmod (wrap64 ((Int.tmod a1 1000) + 1000)) 1000))) a0_2 a0_0 a0_1 a0_2 (Go.bits .and .i64 a2 1048575)).bind fun bt188 => (if t174 = 0 then (if t180 = 0 then (if bt182.2.2.2.2 = 0 then (palletlaw06_OscDrifts.j1 kj5 (Int.tmod (wrap64 ((Int.tmod a1 1000) + 1000)) 1000) (Go.bits .and .i64 a2 1048575) true t170 t176 bt182.1 bt188.1 (bt188.2 != 0) a0_0 a0_1 a0_2 bt182.2.1 bt182.2.2.1 bt182.2.2.2.1) else (palletlaw06_OscDrifts.j1 kj5 (Int.tmod (wrap64 ((Int.tmod a1 1000) + 1000)) 1000) (Go.bits .and .i64 a2 1048575) true t170 t176 bt182.1 bt188.1 true a0_0 a0_1 a0_2 bt182.2.1 bt182.2.2.1 bt182.2.2.2.1)) else (palletlaw06_OscDrifts.j1 kj5 (Int.tmod (wrap64 ((Int.tmod a1 1000) + 1000)) 1000) (Go.bits .and .i64 a2 1048575) true t170 t176 bt182.1 bt188.1 true a0_0 a0_1 a0_2 bt182.2.1 bt182.2.2.1 bt182.2.2.2.1)) else (palletlaw06_OscDrifts.j1 kj5 (Int.tmod (wrap64 ((Int.tmod a1 1000) + 1000)) 1000) (Go.bits .and .i64 a2 1048575) true t170 t176 bt182.1 bt188.1 true a0_0 a0_1 a0_2 bt182.2.1 bt182.2.2.1 bt182.2.2.2.1)))) = some r := H
     have A26 := Aside0.mk A260
     clear A260
     replace H := Option.bind_eq_some_iff.mp H
     obtain ⟨⟨t182, t183, t184, t185, t186⟩, A270, H⟩ := H
     replace H : ((osc_Apart.f kj5 a0_0 (wrap64 (a0_1 + (Int.tmod (wrap64 ((Int.tmod a1 1000) + 1000)) 1000))) a0_2 a0_0 a0_1 a0_2 (Go.bits .and .i64 a2 1048575)).bind fun bt188 => (if t174 = 0 then (if t180 = 0 then (if t186 = 0 then (palletlaw06_OscDrifts.j1 kj5 (Int.tmod (wrap64 ((Int.tmod a1 1000) + 1000)) 1000) (Go.bits .and .i64 a2 1048575) true t170 t176 t182 bt188.1 (bt188.2 != 0) a0_0 a0_1 a0_2 t183 t184 t185) else (palletlaw06_OscDrifts.j1 kj5 (Int.tmod (wrap64 ((Int.tmod a1 1000) + 1000)) 1000) (Go.bits .and .i64 a2 1048575) true t170 t176 t182 bt188.1 true a0_0 a0_1 a0_2 t183 t184 t185)) else (palletlaw06_OscDrifts.j1 kj5 (Int.tmod (wrap64 ((Int.tmod a1 1000) + 1000)) 1000) (Go.bits .and .i64 a2 1048575) true t170 t176 t182 bt188.1 true a0_0 a0_1 a0_2 t183 t184 t185)) else (palletlaw06_OscDrifts.j1 kj5 (Int.tmod (wrap64 ((Int.tmod a1 1000) + 1000)) 1000) (Go.bits .and .i64 a2 1048575) true t170 t176 t182 bt188.1 true a0_0 a0_1 a0_2 t183 t184 t185))) = some r := H
     have A27 := Aside0.mk A270
     clear A270
     replace H := Option.bind_eq_some_iff.mp H
     obtain ⟨⟨t188, t189⟩, A280, H⟩ := H
     replace H : (if t174 = 0 then (if t180 = 0 then (if t186 = 0 then (palletlaw06_OscDrifts.j1 kj5 (Int.tmod (wrap64 ((Int.tmod a1 1000) + 1000)) 1000) (Go.bits .and .i64 a2 1048575) true t170 t176 t182 t188 (t189 != 0) a0_0 a0_1 a0_2 t183 t184 t185) else (palletlaw06_OscDrifts.j1 kj5 (Int.tmod (wrap64 ((Int.tmod a1 1000) + 1000)) 1000) (Go.bits .and .i64 a2 1048575) true t170 t176 t182 t188 true a0_0 a0_1 a0_2 t183 t184 t185)) else (palletlaw06_OscDrifts.j1 kj5 (Int.tmod (wrap64 ((Int.tmod a1 1000) + 1000)) 1000) (Go.bits .and .i64 a2 1048575) true t170 t176 t182 t188 true a0_0 a0_1 a0_2 t183 t184 t185)) else (palletlaw06_OscDrifts.j1 kj5 (Int.tmod (wrap64 ((Int.tmod a1 1000) + 1000)) 1000) (Go.bits .and .i64 a2 1048575) true t170 t176 t182 t188 true a0_0 a0_1 a0_2 t183 t184 t185)) = some r := H
     have A28 := Aside0.mk A280
     clear A280
     have HC29 := Aside0.mk H
     clear H
     have hnb30 := NB164_166.out
     have hnc30 := NB166_164.out
     have hcz31_0 : wc.cell? ⟨gb164, 0, none⟩ = some (.int .i64 a0_0) := (blk_cell BK164.out 0).trans rfl
     have hcz31_1 : wc.cell? ⟨gb164, 1, none⟩ = some (.int .i64 a0_1) := (blk_cell BK164.out 1).trans rfl
     have hcz31_2 : wc.cell? ⟨gb164, 2, none⟩ = some (.int .i64 a0_2) := (blk_cell BK164.out 2).trans rfl
     have hfz31_0 := blk_frozen BK164.out 0
     have hfz31_1 := blk_frozen BK164.out 1
     have hfz31_2 := blk_frozen BK164.out 2
     go_upto_region 15 with (first | ((with_reducible refine gate_dst (N := 9) rfl ?_); refine box_event ?hg (N := 9) ?hd (cs := #[.int .i64 0, .int .i64 0, .int .i64 0]) (t := 23) ?hr ?_; (case hd => rfl); (case hg => rfl); (case hr => first | (go_simp; done) | (go_simp; rfl)); intro gb169 hg w32 hbox hb; have n0_ := Aside0.mk (blk_below (g := gb164) (o := .cells #[.int .i64 a0_0, .int .i64 a0_1, .int .i64 a0_2] 23 (0, 0)) (by (with_reducible repeat (first | refine blk_drewN ?_ _ | refine blk_drew ?_ | refine blk_alloc ?_ _)); exact BK164.out) hb); have n1_ := Aside0.mk (blk_below (g := gb166) (o := .cells #[.int .i64 a0_0, .int .i64 (wrap64 (a0_1 + (Int.tmod (wrap64 ((Int.tmod a1 1000) + 1000)) 1000))), .int .i64 a0_2] 23 (0, 0)) (by (with_reducible repeat (first | refine blk_drewN ?_ _ | refine blk_drew ?_ | refine blk_alloc ?_ _)); exact BK166.out) hb); have n2_ := Aside0.mk (below_step (by repeat (first | (with_reducible first | exact HB.out | apply below_alloc | apply pw_below_drewN | apply below_drew1 | refine below_set ?_ GE164.out | refine below_set ?_ GE166.out) | exact HB.out)) hb); have n3_ := Aside0.mk (hbox); have n4_ := Aside0.mk ((by rw [hg]; exact (below_size (by repeat (first | (with_reducible first | exact HB.out | apply below_alloc | apply pw_below_drewN | apply below_drew1 | refine below_set ?_ GE164.out | refine below_set ?_ GE166.out) | exact HB.out))) : w.heap.size ≤ gb169)); have n5_ := Aside0.mk ((by rw [hg]; exact (below_size (by repeat (first | (with_reducible first | exact HB.out | apply below_alloc | apply pw_below_drewN | apply below_drew1 | refine below_set ?_ GE164.out | refine below_set ?_ GE166.out) | exact HB.out))) : w.heap.size ≤ gb169)); have n6_ := Aside0.mk ((by rw [hg]; exact Nat.ne_of_lt (blk_lt (g := gb164) (o := .cells #[.int .i64 a0_0, .int .i64 a0_1, .int .i64 a0_2] 23 (0, 0)) (by (with_reducible repeat (first | refine blk_drewN ?_ _ | refine blk_drew ?_ | refine blk_alloc ?_ _)); exact BK164.out)) : gb164 ≠ gb169)); have n7_ := Aside0.mk ((by rw [hg]; exact Nat.ne_of_gt (blk_lt (g := gb164) (o := .cells #[.int .i64 a0_0, .int .i64 a0_1, .int .i64 a0_2] 23 (0, 0)) (by (with_reducible repeat (first | refine blk_drewN ?_ _ | refine blk_drew ?_ | refine blk_alloc ?_ _)); exact BK164.out)) : gb169 ≠ gb164)); have n8_ := Aside0.mk ((by rw [hg]; exact Nat.ne_of_lt (blk_lt (g := gb166) (o := .cells #[.int .i64 a0_0, .int .i64 (wrap64 (a0_1 + (Int.tmod (wrap64 ((Int.tmod a1 1000) + 1000)) 1000))), .int .i64 a0_2] 23 (0, 0)) (by (with_reducible repeat (first | refine blk_drewN ?_ _ | refine blk_drew ?_ | refine blk_alloc ?_ _)); exact BK166.out)) : gb166 ≠ gb169)); have n9_ := Aside0.mk ((by rw [hg]; exact Nat.ne_of_gt (blk_lt (g := gb166) (o := .cells #[.int .i64 a0_0, .int .i64 (wrap64 (a0_1 + (Int.tmod (wrap64 ((Int.tmod a1 1000) + 1000)) 1000))), .int .i64 a0_2] 23 (0, 0)) (by (with_reducible repeat (first | refine blk_drewN ?_ _ | refine blk_drew ?_ | refine blk_alloc ?_ _)); exact BK166.out)) : gb169 ≠ gb166)); clear BK164; clear BK166; clear HB; have BK164 := n0_; have BK166 := n1_; have HB := n2_; have BK169 := n3_; have GW169 := n4_; have GE169 := n5_; have NB164_169 := n6_; have NB169_164 := n7_; have NB166_169 := n8_; have NB169_166 := n9_; clear n0_ n1_ n2_ n3_ n4_ n5_ n6_ n7_ n8_ n9_; clear hb hbox hg; have hnb33 := NB169_164.out; have hnc33 := NB164_169.out; have hnb34 := NB169_166.out; have hnc34 := NB166_169.out; have hcz35_0 : w32.cell? ⟨gb169, 0, none⟩ = some (.int .i64 0) := (blk_cell BK169.out 0).trans rfl; have hcz35_1 : w32.cell? ⟨gb169, 1, none⟩ = some (.int .i64 0) := (blk_cell BK169.out 1).trans rfl; have hcz35_2 : w32.cell? ⟨gb169, 2, none⟩ = some (.int .i64 0) := (blk_cell BK169.out 2).trans rfl; have hfz35_0 := blk_frozen BK169.out 0; have hfz35_1 := blk_frozen BK169.out 1; have hfz35_2 := blk_frozen BK169.out 2; have hcz36_0 : w32.cell? ⟨gb164, 0, none⟩ = some (.int .i64 a0_0) := (blk_cell BK164.out 0).trans rfl; have hcz36_1 : w32.cell? ⟨gb164, 1, none⟩ = some (.int .i64 a0_1) := (blk_cell BK164.out 1).trans rfl; have hcz36_2 : w32.cell? ⟨gb164, 2, none⟩ = some (.int .i64 a0_2) := (blk_cell BK164.out 2).trans rfl; have hfz36_0 := blk_frozen BK164.out 0; have hfz36_1 := blk_frozen BK164.out 1; have hfz36_2 := blk_frozen BK164.out 2) | ((with_reducible refine gate_callee (f := 16) rfl ?_); refine goesL_ (some 52) rfl rfl Try.func16 (by kernel_rfl) rfl #[.agg #[.int .i64 a0_0, .int .i64 a0_1, .int .i64 a0_2], .int .i64 (Go.bits .and .i64 a2 1048575)] rfl (by (try simp only [List.map_toArray, List.map_cons, List.map_nil]); first | done | rfl | (simp only [List.length_drop, List.length_take]; rfl)) ?_; (with_reducible refine (osc_Run.calls kj5 a0_0 a0_1 a0_2 (Go.bits .and .i64 a2 1048575) t170 t171 t172 t173 t174 _ A25.out).mono ?_); rintro e w37 ⟨rfl, hb⟩; refine ⟨_, rfl, ?_⟩; have n0_ := Aside0.mk (blk_below (g := gb164) (o := .cells #[.int .i64 a0_0, .int .i64 a0_1, .int .i64 a0_2] 23 (0, 0)) (by (with_reducible repeat (first | refine blk_drewN ?_ _ | refine blk_drew ?_ | refine blk_alloc ?_ _)); refine blk_far ?_ NB164_169.out _; (with_reducible repeat (first | refine blk_drewN ?_ _ | refine blk_drew ?_ | refine blk_alloc ?_ _)); refine blk_far ?_ NB164_169.out _; (with_reducible repeat (first | refine blk_drewN ?_ _ | refine blk_drew ?_ | refine blk_alloc ?_ _)); refine blk_far ?_ NB164_169.out _; (with_reducible repeat (first | refine blk_drewN ?_ _ | refine blk_drew ?_ | refine blk_alloc ?_ _)); exact BK164.out) hb); have n1_ := Aside0.mk (blk_below (g := gb166) (o := .cells #[.int .i64 a0_0, .int .i64 (wrap64 (a0_1 + (Int.tmod (wrap64 ((Int.tmod a1 1000) + 1000)) 1000))), .int .i64 a0_2] 23 (0, 0)) (by (with_reducible repeat (first | refine blk_drewN ?_ _ | refine blk_drew ?_ | refine blk_alloc ?_ _)); refine blk_far ?_ NB166_169.out _; (with_reducible repeat (first | refine blk_drewN ?_ _ | refine blk_drew ?_ | refine blk_alloc ?_ _)); refine blk_far ?_ NB166_169.out _; (with_reducible repeat (first | refine blk_drewN ?_ _ | refine blk_drew ?_ | refine blk_alloc ?_ _)); refine blk_far ?_ NB166_169.out _; (with_reducible repeat (first | refine blk_drewN ?_ _ | refine blk_drew ?_ | refine blk_alloc ?_ _)); exact BK166.out) hb); have n2_ := Aside0.mk (blk_below (g := gb169) (o := .cells #[.int .i64 a0_0, .int .i64 0, .int .i64 0] 23 (0, 0)) (by (with_reducible repeat (first | refine blk_drewN ?_ _ | refine blk_drew ?_ | refine blk_alloc ?_ _)); refine blk_put (cs := #[.int .i64 a0_0, .int .i64 0, .int .i64 0]) ?_ 2 _ rfl; (with_reducible repeat (first | refine blk_drewN ?_ _ | refine blk_drew ?_ | refine blk_alloc ?_ _)); refine blk_put (cs := #[.int .i64 a0_0, .int .i64 0, .int .i64 0]) ?_ 1 _ rfl; (with_reducible repeat (first | refine blk_drewN ?_ _ | refine blk_drew ?_ | refine blk_alloc ?_ _)); refine blk_put (cs := #[.int .i64 0, .int .i64 0, .int .i64 0]) ?_ 0 _ rfl; (with_reducible repeat (first | refine blk_drewN ?_ _ | refine blk_drew ?_ | refine blk_alloc ?_ _)); exact BK169.out) hb); have n3_ := Aside0.mk (below_step (by repeat (first | (with_reducible first | exact HB.out | apply below_alloc | apply pw_below_drewN | apply below_drew1 | refine below_set ?_ GE164.out | refine below_set ?_ GE166.out | refine below_set ?_ GE169.out) | exact HB.out)) hb); clear BK164; clear BK166; clear BK169; clear HB; have BK164 := n0_; have BK166 := n1_; have BK169 := n2_; have HB := n3_; clear n0_ n1_ n2_ n3_; (try clear hb); (try clear hb2); (try clear hk); (try clear hi)) | ((with_reducible refine gate_dst (N := 11) rfl ?_); refine box_event ?hg (N := 11) ?hd (cs := #[.int .i64 0, .int .i64 0, .int .i64 0]) (t := 23) ?hr ?_; (case hd => rfl); (case hg => rfl); (case hr => first | (go_simp; done) | (go_simp; rfl)); intro gb175 hg w38 hbox hb; have n0_ := Aside0.mk (blk_below (g := gb164) (o := .cells #[.int .i64 a0_0, .int .i64 a0_1, .int .i64 a0_2] 23 (0, 0)) (by (with_reducible repeat (first | refine blk_drewN ?_ _ | refine blk_drew ?_ | refine blk_alloc ?_ _)); exact BK164.out) hb); have n1_ := Aside0.mk (blk_below (g := gb166) (o := .cells #[.int .i64 a0_0, .int .i64 (wrap64 (a0_1 + (Int.tmod (wrap64 ((Int.tmod a1 1000) + 1000)) 1000))), .int .i64 a0_2] 23 (0, 0)) (by (with_reducible repeat (first | refine blk_drewN ?_ _ | refine blk_drew ?_ | refine blk_alloc ?_ _)); exact BK166.out) hb); have n2_ := Aside0.mk (blk_below (g := gb169) (o := .cells #[.int .i64 a0_0, .int .i64 0, .int .i64 0] 23 (0, 0)) (by (with_reducible repeat (first | refine blk_drewN ?_ _ | refine blk_drew ?_ | refine blk_alloc ?_ _)); exact BK169.out) hb); have n3_ := Aside0.mk (below_step (by repeat (first | (with_reducible first | exact HB.out | apply below_alloc | apply pw_below_drewN | apply below_drew1 | refine below_set ?_ GE164.out | refine below_set ?_ GE166.out | refine below_set ?_ GE169.out) | exact HB.out)) hb); have n4_ := Aside0.mk (hbox); have n5_ := Aside0.mk ((by rw [hg]; exact (below_size (by repeat (first | (with_reducible first | exact HB.out | apply below_alloc | apply pw_below_drewN | apply below_drew1 | refine below_set ?_ GE164.out | refine below_set ?_ GE166.out | refine below_set ?_ GE169.out) | exact HB.out))) : w.heap.size ≤ gb175)); have n6_ := Aside0.mk ((by rw [hg]; exact (below_size (by repeat (first | (with_reducible first | exact HB.out | apply below_alloc | apply pw_below_drewN | apply below_drew1 | refine below_set ?_ GE164.out | refine below_set ?_ GE166.out | refine below_set ?_ GE169.out) | exact HB.out))) : w.heap.size ≤ gb175)); have n7_ := Aside0.mk ((by rw [hg]; exact Nat.ne_of_lt (blk_lt (g := gb164) (o := .cells #[.int .i64 a0_0, .int .i64 a0_1, .int .i64 a0_2] 23 (0, 0)) (by (with_reducible repeat (first | refine blk_drewN ?_ _ | refine blk_drew ?_ | refine blk_alloc ?_ _)); exact BK164.out)) : gb164 ≠ gb175)); have n8_ := Aside0.mk ((by rw [hg]; exact Nat.ne_of_gt (blk_lt (g := gb164) (o := .cells #[.int .i64 a0_0, .int .i64 a0_1, .int .i64 a0_2] 23 (0, 0)) (by (with_reducible repeat (first | refine blk_drewN ?_ _ | refine blk_drew ?_ | refine blk_alloc ?_ _)); exact BK164.out)) : gb175 ≠ gb164)); have n9_ := Aside0.mk ((by rw [hg]; exact Nat.ne_of_lt (blk_lt (g := gb166) (o := .cells #[.int .i64 a0_0, .int .i64 (wrap64 (a0_1 + (Int.tmod (wrap64 ((Int.tmod a1 1000) + 1000)) 1000))), .int .i64 a0_2] 23 (0, 0)) (by (with_reducible repeat (first | refine blk_drewN ?_ _ | refine blk_drew ?_ | refine blk_alloc ?_ _)); exact BK166.out)) : gb166 ≠ gb175)); have n10_ := Aside0.mk ((by rw [hg]; exact Nat.ne_of_gt (blk_lt (g := gb166) (o := .cells #[.int .i64 a0_0, .int .i64 (wrap64 (a0_1 + (Int.tmod (wrap64 ((Int.tmod a1 1000) + 1000)) 1000))), .int .i64 a0_2] 23 (0, 0)) (by (with_reducible repeat (first | refine blk_drewN ?_ _ | refine blk_drew ?_ | refine blk_alloc ?_ _)); exact BK166.out)) : gb175 ≠ gb166)); have n11_ := Aside0.mk ((by rw [hg]; exact Nat.ne_of_lt (blk_lt (g := gb169) (o := .cells #[.int .i64 a0_0, .int .i64 0, .int .i64 0] 23 (0, 0)) (by (with_reducible repeat (first | refine blk_drewN ?_ _ | refine blk_drew ?_ | refine blk_alloc ?_ _)); exact BK169.out)) : gb169 ≠ gb175)); have n12_ := Aside0.mk ((by rw [hg]; exact Nat.ne_of_gt (blk_lt (g := gb169) (o := .cells #[.int .i64 a0_0, .int .i64 0, .int .i64 0] 23 (0, 0)) (by (with_reducible repeat (first | refine blk_drewN ?_ _ | refine blk_drew ?_ | refine blk_alloc ?_ _)); exact BK169.out)) : gb175 ≠ gb169)); clear BK164; clear BK166; clear BK169; clear HB; have BK164 := n0_; have BK166 := n1_; have BK169 := n2_; have HB := n3_; have BK175 := n4_; have GW175 := n5_; have GE175 := n6_; have NB164_175 := n7_; have NB175_164 := n8_; have NB166_175 := n9_; have NB175_166 := n10_; have NB169_175 := n11_; have NB175_169 := n12_; clear n0_ n1_ n2_ n3_ n4_ n5_ n6_ n7_ n8_ n9_ n10_ n11_ n12_; clear hb hbox hg; have hnb39 := NB175_164.out; have hnc39 := NB164_175.out; have hnb40 := NB175_166.out; have hnc40 := NB166_175.out; have hnb41 := NB175_169.out; have hnc41 := NB169_175.out; have hcz42_0 : w38.cell? ⟨gb175, 0, none⟩ = some (.int .i64 0) := (blk_cell BK175.out 0).trans rfl; have hcz42_1 : w38.cell? ⟨gb175, 1, none⟩ = some (.int .i64 0) := (blk_cell BK175.out 1).trans rfl; have hcz42_2 : w38.cell? ⟨gb175, 2, none⟩ = some (.int .i64 0) := (blk_cell BK175.out 2).trans rfl; have hfz42_0 := blk_frozen BK175.out 0; have hfz42_1 := blk_frozen BK175.out 1; have hfz42_2 := blk_frozen BK175.out 2; have hcz43_0 : w38.cell? ⟨gb166, 0, none⟩ = some (.int .i64 a0_0) := (blk_cell BK166.out 0).trans rfl; have hcz43_1 : w38.cell? ⟨gb166, 1, none⟩ = some (.int .i64 (wrap64 (a0_1 + (Int.tmod (wrap64 ((Int.tmod a1 1000) + 1000)) 1000)))) := (blk_cell BK166.out 1).trans rfl; have hcz43_2 : w38.cell? ⟨gb166, 2, none⟩ = some (.int .i64 a0_2) := (blk_cell BK166.out 2).trans rfl; have hfz43_0 := blk_frozen BK166.out 0; have hfz43_1 := blk_frozen BK166.out 1; have hfz43_2 := blk_frozen BK166.out 2) | ((with_reducible refine gate_callee (f := 16) rfl ?_); refine goesL_ (some 59) rfl rfl Try.func16 (by kernel_rfl) rfl #[.agg #[.int .i64 a0_0, .int .i64 (wrap64 (a0_1 + (Int.tmod (wrap64 ((Int.tmod a1 1000) + 1000)) 1000))), .int .i64 a0_2], .int .i64 (Go.bits .and .i64 a2 1048575)] rfl (by (try simp only [List.map_toArray, List.map_cons, List.map_nil]); first | done | rfl | (simp only [List.length_drop, List.length_take]; rfl)) ?_; (with_reducible refine (osc_Run.calls kj5 a0_0 (wrap64 (a0_1 + (Int.tmod (wrap64 ((Int.tmod a1 1000) + 1000)) 1000))) a0_2 (Go.bits .and .i64 a2 1048575) t176 t177 t178 t179 t180 _ A26.out).mono ?_); rintro e w44 ⟨rfl, hb⟩; refine ⟨_, rfl, ?_⟩; have n0_ := Aside0.mk (blk_below (g := gb164) (o := .cells #[.int .i64 a0_0, .int .i64 a0_1, .int .i64 a0_2] 23 (0, 0)) (by (with_reducible repeat (first | refine blk_drewN ?_ _ | refine blk_drew ?_ | refine blk_alloc ?_ _)); refine blk_far ?_ NB164_175.out _; (with_reducible repeat (first | refine blk_drewN ?_ _ | refine blk_drew ?_ | refine blk_alloc ?_ _)); refine blk_far ?_ NB164_175.out _; (with_reducible repeat (first | refine blk_drewN ?_ _ | refine blk_drew ?_ | refine blk_alloc ?_ _)); refine blk_far ?_ NB164_175.out _; (with_reducible repeat (first | refine blk_drewN ?_ _ | refine blk_drew ?_ | refine blk_alloc ?_ _)); exact BK164.out) hb); have n1_ := Aside0.mk (blk_below (g := gb166) (o := .cells #[.int .i64 a0_0, .int .i64 (wrap64 (a0_1 + (Int.tmod (wrap64 ((Int.tmod a1 1000) + 1000)) 1000))), .int .i64 a0_2] 23 (0, 0)) (by (with_reducible repeat (first | refine blk_drewN ?_ _ | refine blk_drew ?_ | refine blk_alloc ?_ _)); refine blk_far ?_ NB166_175.out _; (with_reducible repeat (first | refine blk_drewN ?_ _ | refine blk_drew ?_ | refine blk_alloc ?_ _)); refine blk_far ?_ NB166_175.out _; (with_reducible repeat (first | refine blk_drewN ?_ _ | refine blk_drew ?_ | refine blk_alloc ?_ _)); refine blk_far ?_ NB166_175.out _; (with_reducible repeat (first | refine blk_drewN ?_ _ | refine blk_drew ?_ | refine blk_alloc ?_ _)); exact BK166.out) hb); have n2_ := Aside0.mk (blk_below (g := gb169) (o := .cells #[.int .i64 a0_0, .int .i64 0, .int .i64 0] 23 (0, 0)) (by (with_reducible repeat (first | refine blk_drewN ?_ _ | refine blk_drew ?_ | refine blk_alloc ?_ _)); refine blk_far ?_ NB169_175.out _; (with_reducible repeat (first | refine blk_drewN ?_ _ | refine blk_drew ?_ | refine blk_alloc ?_ _)); refine blk_far ?_ NB169_175.out _; (with_reducible repeat (first | refine blk_drewN ?_ _ | refine blk_drew ?_ | refine blk_alloc ?_ _)); refine blk_far ?_ NB169_175.out _; (with_reducible repeat (first | refine blk_drewN ?_ _ | refine blk_drew ?_ | refine blk_alloc ?_ _)); exact BK169.out) hb); have n3_ := Aside0.mk (blk_below (g := gb175) (o := .cells #[.int .i64 t171, .int .i64 t172, .int .i64 t173] 23 (0, 0)) (by (with_reducible repeat (first | refine blk_drewN ?_ _ | refine blk_drew ?_ | refine blk_alloc ?_ _)); refine blk_put (cs := #[.int .i64 t171, .int .i64 t172, .int .i64 0]) ?_ 2 _ rfl; (with_reducible repeat (first | refine blk_drewN ?_ _ | refine blk_drew ?_ | refine blk_alloc ?_ _)); refine blk_put (cs := #[.int .i64 t171, .int .i64 0, .int .i64 0]) ?_ 1 _ rfl; (with_reducible repeat (first | refine blk_drewN ?_ _ | refine blk_drew ?_ | refine blk_alloc ?_ _)); refine blk_put (cs := #[.int .i64 0, .int .i64 0, .int .i64 0]) ?_ 0 _ rfl; (with_reducible repeat (first | refine blk_drewN ?_ _ | refine blk_drew ?_ | refine blk_alloc ?_ _)); exact BK175.out) hb); have n4_ := Aside0.mk (below_step (by repeat (first | (with_reducible first | exact HB.out | apply below_alloc | apply pw_below_drewN | apply below_drew1 | refine below_set ?_ GE164.out | refine below_set ?_ GE166.out | refine below_set ?_ GE169.out | refine below_set ?_ GE175.out) | exact HB.out)) hb); clear BK164; clear BK166; clear BK169; clear BK175; clear HB; have BK164 := n0_; have BK166 := n1_; have BK169 := n2_; have BK175 := n3_; have HB := n4_; clear n0_ n1_ n2_ n3_ n4_; (try clear hb); (try clear hb2); (try clear hk); (try clear hi)) | ((with_reducible refine gate_dst (N := 14) rfl ?_); refine box_event ?hg (N := 14) ?hd (cs := #[.int .i64 0, .int .i64 0, .int .i64 0]) (t := 23) ?hr ?_; (case hd => rfl); (case hg => rfl); (case hr => first | (go_simp; done) | (go_simp; rfl)); intro gb181 hg w45 hbox hb; have n0_ := Aside0.mk (blk_below (g := gb164) (o := .cells #[.int .i64 a0_0, .int .i64 a0_1, .int .i64 a0_2] 23 (0, 0)) (by (with_reducible repeat (first | refine blk_drewN ?_ _ | refine blk_drew ?_ | refine blk_alloc ?_ _)); exact BK164.out) hb); have n1_ := Aside0.mk (blk_below (g := gb166) (o := .cells #[.int .i64 a0_0, .int .i64 (wrap64 (a0_1 + (Int.tmod (wrap64 ((Int.tmod a1 1000) + 1000)) 1000))), .int .i64 a0_2] 23 (0, 0)) (by (with_reducible repeat (first | refine blk_drewN ?_ _ | refine blk_drew ?_ | refine blk_alloc ?_ _)); exact BK166.out) hb); have n2_ := Aside0.mk (blk_below (g := gb169) (o := .cells #[.int .i64 a0_0, .int .i64 0, .int .i64 0] 23 (0, 0)) (by (with_reducible repeat (first | refine blk_drewN ?_ _ | refine blk_drew ?_ | refine blk_alloc ?_ _)); exact BK169.out) hb); have n3_ := Aside0.mk (blk_below (g := gb175) (o := .cells #[.int .i64 t171, .int .i64 t172, .int .i64 t173] 23 (0, 0)) (by (with_reducible repeat (first | refine blk_drewN ?_ _ | refine blk_drew ?_ | refine blk_alloc ?_ _)); exact BK175.out) hb); have n4_ := Aside0.mk (below_step (by repeat (first | (with_reducible first | exact HB.out | apply below_alloc | apply pw_below_drewN | apply below_drew1 | refine below_set ?_ GE164.out | refine below_set ?_ GE166.out | refine below_set ?_ GE169.out | refine below_set ?_ GE175.out) | exact HB.out)) hb); have n5_ := Aside0.mk (hbox); have n6_ := Aside0.mk ((by rw [hg]; exact (below_size (by repeat (first | (with_reducible first | exact HB.out | apply below_alloc | apply pw_below_drewN | apply below_drew1 | refine below_set ?_ GE164.out | refine below_set ?_ GE166.out | refine below_set ?_ GE169.out | refine below_set ?_ GE175.out) | exact HB.out))) : w.heap.size ≤ gb181)); have n7_ := Aside0.mk ((by rw [hg]; exact (below_size (by repeat (first | (with_reducible first | exact HB.out | apply below_alloc | apply pw_below_drewN | apply below_drew1 | refine below_set ?_ GE164.out | refine below_set ?_ GE166.out | refine below_set ?_ GE169.out | refine below_set ?_ GE175.out) | exact HB.out))) : w.heap.size ≤ gb181)); have n8_ := Aside0.mk ((by rw [hg]; exact Nat.ne_of_lt (blk_lt (g := gb164) (o := .cells #[.int .i64 a0_0, .int .i64 a0_1, .int .i64 a0_2] 23 (0, 0)) (by (with_reducible repeat (first | refine blk_drewN ?_ _ | refine blk_drew ?_ | refine blk_alloc ?_ _)); exact BK164.out)) : gb164 ≠ gb181)); have n9_ := Aside0.mk ((by rw [hg]; exact Nat.ne_of_gt (blk_lt (g := gb164) (o := .cells #[.int .i64 a0_0, .int .i64 a0_1, .int .i64 a0_2] 23 (0, 0)) (by (with_reducible repeat (first | refine blk_drewN ?_ _ | refine blk_drew ?_ | refine blk_alloc ?_ _)); exact BK164.out)) : gb181 ≠ gb164)); have n10_ := Aside0.mk ((by rw [hg]; exact Nat.ne_of_lt (blk_lt (g := gb166) (o := .cells #[.int .i64 a0_0, .int .i64 (wrap64 (a0_1 + (Int.tmod (wrap64 ((Int.tmod a1 1000) + 1000)) 1000))), .int .i64 a0_2] 23 (0, 0)) (by (with_reducible repeat (first | refine blk_drewN ?_ _ | refine blk_drew ?_ | refine blk_alloc ?_ _)); exact BK166.out)) : gb166 ≠ gb181)); have n11_ := Aside0.mk ((by rw [hg]; exact Nat.ne_of_gt (blk_lt (g := gb166) (o := .cells #[.int .i64 a0_0, .int .i64 (wrap64 (a0_1 + (Int.tmod (wrap64 ((Int.tmod a1 1000) + 1000)) 1000))), .int .i64 a0_2] 23 (0, 0)) (by (with_reducible repeat (first | refine blk_drewN ?_ _ | refine blk_drew ?_ | refine blk_alloc ?_ _)); exact BK166.out)) : gb181 ≠ gb166)); have n12_ := Aside0.mk ((by rw [hg]; exact Nat.ne_of_lt (blk_lt (g := gb169) (o := .cells #[.int .i64 a0_0, .int .i64 0, .int .i64 0] 23 (0, 0)) (by (with_reducible repeat (first | refine blk_drewN ?_ _ | refine blk_drew ?_ | refine blk_alloc ?_ _)); exact BK169.out)) : gb169 ≠ gb181)); have n13_ := Aside0.mk ((by rw [hg]; exact Nat.ne_of_gt (blk_lt (g := gb169) (o := .cells #[.int .i64 a0_0, .int .i64 0, .int .i64 0] 23 (0, 0)) (by (with_reducible repeat (first | refine blk_drewN ?_ _ | refine blk_drew ?_ | refine blk_alloc ?_ _)); exact BK169.out)) : gb181 ≠ gb169)); have n14_ := Aside0.mk ((by rw [hg]; exact Nat.ne_of_lt (blk_lt (g := gb175) (o := .cells #[.int .i64 t171, .int .i64 t172, .int .i64 t173] 23 (0, 0)) (by (with_reducible repeat (first | refine blk_drewN ?_ _ | refine blk_drew ?_ | refine blk_alloc ?_ _)); exact BK175.out)) : gb175 ≠ gb181)); have n15_ := Aside0.mk ((by rw [hg]; exact Nat.ne_of_gt (blk_lt (g := gb175) (o := .cells #[.int .i64 t171, .int .i64 t172, .int .i64 t173] 23 (0, 0)) (by (with_reducible repeat (first | refine blk_drewN ?_ _ | refine blk_drew ?_ | refine blk_alloc ?_ _)); exact BK175.out)) : gb181 ≠ gb175)); clear BK164; clear BK166; clear BK169; clear BK175; clear HB; have BK164 := n0_; have BK166 := n1_; have BK169 := n2_; have BK175 := n3_; have HB := n4_; have BK181 := n5_; have GW181 := n6_; have GE181 := n7_; have NB164_181 := n8_; have NB181_164 := n9_; have NB166_181 := n10_; have NB181_166 := n11_; have NB169_181 := n12_; have NB181_169 := n13_; have NB175_181 := n14_; have NB181_175 := n15_; clear n0_ n1_ n2_ n3_ n4_ n5_ n6_ n7_ n8_ n9_ n10_ n11_ n12_ n13_ n14_ n15_; clear hb hbox hg; have hnb46 := NB181_164.out; have hnc46 := NB164_181.out; have hnb47 := NB181_166.out; have hnc47 := NB166_181.out; have hnb48 := NB181_169.out; have hnc48 := NB169_181.out; have hnb49 := NB181_175.out; have hnc49 := NB175_181.out; have hcz50_0 : w45.cell? ⟨gb181, 0, none⟩ = some (.int .i64 0) := (blk_cell BK181.out 0).trans rfl; have hcz50_1 : w45.cell? ⟨gb181, 1, none⟩ = some (.int .i64 0) := (blk_cell BK181.out 1).trans rfl; have hcz50_2 : w45.cell? ⟨gb181, 2, none⟩ = some (.int .i64 0) := (blk_cell BK181.out 2).trans rfl; have hfz50_0 := blk_frozen BK181.out 0; have hfz50_1 := blk_frozen BK181.out 1; have hfz50_2 := blk_frozen BK181.out 2; have hcz51_0 : w45.cell? ⟨gb169, 0, none⟩ = some (.int .i64 a0_0) := (blk_cell BK169.out 0).trans rfl; have hcz51_1 : w45.cell? ⟨gb169, 1, none⟩ = some (.int .i64 0) := (blk_cell BK169.out 1).trans rfl; have hcz51_2 : w45.cell? ⟨gb169, 2, none⟩ = some (.int .i64 0) := (blk_cell BK169.out 2).trans rfl; have hfz51_0 := blk_frozen BK169.out 0; have hfz51_1 := blk_frozen BK169.out 1; have hfz51_2 := blk_frozen BK169.out 2) | ((with_reducible refine gate_callee (f := 16) rfl ?_); refine goesL_ (some 66) rfl rfl Try.func16 (by kernel_rfl) rfl #[.agg #[.int .i64 a0_0, .int .i64 0, .int .i64 0], .int .i64 (Go.bits .and .i64 a2 1048575)] rfl (by (try simp only [List.map_toArray, List.map_cons, List.map_nil]); first | done | rfl | (simp only [List.length_drop, List.length_take]; rfl)) ?_; (with_reducible refine (osc_Run.calls kj5 a0_0 0 0 (Go.bits .and .i64 a2 1048575) t182 t183 t184 t185 t186 _ A27.out).mono ?_); rintro e w52 ⟨rfl, hb⟩; refine ⟨_, rfl, ?_⟩; have n0_ := Aside0.mk (blk_below (g := gb164) (o := .cells #[.int .i64 a0_0, .int .i64 a0_1, .int .i64 a0_2] 23 (0, 0)) (by (with_reducible repeat (first | refine blk_drewN ?_ _ | refine blk_drew ?_ | refine blk_alloc ?_ _)); refine blk_far ?_ NB164_181.out _; (with_reducible repeat (first | refine blk_drewN ?_ _ | refine blk_drew ?_ | refine blk_alloc ?_ _)); refine blk_far ?_ NB164_181.out _; (with_reducible repeat (first | refine blk_drewN ?_ _ | refine blk_drew ?_ | refine blk_alloc ?_ _)); refine blk_far ?_ NB164_181.out _; (with_reducible repeat (first | refine blk_drewN ?_ _ | refine blk_drew ?_ | refine blk_alloc ?_ _)); exact BK164.out) hb); have n1_ := Aside0.mk (blk_below (g := gb166) (o := .cells #[.int .i64 a0_0, .int .i64 (wrap64 (a0_1 + (Int.tmod (wrap64 ((Int.tmod a1 1000) + 1000)) 1000))), .int .i64 a0_2] 23 (0, 0)) (by (with_reducible repeat (first | refine blk_drewN ?_ _ | refine blk_drew ?_ | refine blk_alloc ?_ _)); refine blk_far ?_ NB166_181.out _; (with_reducible repeat (first | refine blk_drewN ?_ _ | refine blk_drew ?_ | refine blk_alloc ?_ _)); refine blk_far ?_ NB166_181.out _; (with_reducible repeat (first | refine blk_drewN ?_ _ | refine blk_drew ?_ | refine blk_alloc ?_ _)); refine blk_far ?_ NB166_181.out _; (with_reducible repeat (first | refine blk_drewN ?_ _ | refine blk_drew ?_ | refine blk_alloc ?_ _)); exact BK166.out) hb); have n2_ := Aside0.mk (blk_below (g := gb169) (o := .cells #[.int .i64 a0_0, .int .i64 0, .int .i64 0] 23 (0, 0)) (by (with_reducible repeat (first | refine blk_drewN ?_ _ | refine blk_drew ?_ | refine blk_alloc ?_ _)); refine blk_far ?_ NB169_181.out _; (with_reducible repeat (first | refine blk_drewN ?_ _ | refine blk_drew ?_ | refine blk_alloc ?_ _)); refine blk_far ?_ NB169_181.out _; (with_reducible repeat (first | refine blk_drewN ?_ _ | refine blk_drew ?_ | refine blk_alloc ?_ _)); refine blk_far ?_ NB169_181.out _; (with_reducible repeat (first | refine blk_drewN ?_ _ | refine blk_drew ?_ | refine blk_alloc ?_ _)); exact BK169.out) hb); have n3_ := Aside0.mk (blk_below (g := gb175) (o := .cells #[.int .i64 t171, .int .i64 t172, .int .i64 t173] 23 (0, 0)) (by (with_reducible repeat (first | refine blk_drewN ?_ _ | refine blk_drew ?_ | refine blk_alloc ?_ _)); refine blk_far ?_ NB175_181.out _; (with_reducible repeat (first | refine blk_drewN ?_ _ | refine blk_drew ?_ | refine blk_alloc ?_ _)); refine blk_far ?_ NB175_181.out _; (with_reducible repeat (first | refine blk_drewN ?_ _ | refine blk_drew ?_ | refine blk_alloc ?_ _)); refine blk_far ?_ NB175_181.out _; (with_reducible repeat (first | refine blk_drewN ?_ _ | refine blk_drew ?_ | refine blk_alloc ?_ _)); exact BK175.out) hb); have n4_ := Aside0.mk (blk_below (g := gb181) (o := .cells #[.int .i64 t177, .int .i64 t178, .int .i64 t179] 23 (0, 0)) (by (with_reducible repeat (first | refine blk_drewN ?_ _ | refine blk_drew ?_ | refine blk_alloc ?_ _)); refine blk_put (cs := #[.int .i64 t177, .int .i64 t178, .int .i64 0]) ?_ 2 _ rfl; (with_reducible repeat (first | refine blk_drewN ?_ _ | refine blk_drew ?_ | refine blk_alloc ?_ _)); refine blk_put (cs := #[.int .i64 t177, .int .i64 0, .int .i64 0]) ?_ 1 _ rfl; (with_reducible repeat (first | refine blk_drewN ?_ _ | refine blk_drew ?_ | refine blk_alloc ?_ _)); refine blk_put (cs := #[.int .i64 0, .int .i64 0, .int .i64 0]) ?_ 0 _ rfl; (with_reducible repeat (first | refine blk_drewN ?_ _ | refine blk_drew ?_ | refine blk_alloc ?_ _)); exact BK181.out) hb); have n5_ := Aside0.mk (below_step (by repeat (first | (with_reducible first | exact HB.out | apply below_alloc | apply pw_below_drewN | apply below_drew1 | refine below_set ?_ GE164.out | refine below_set ?_ GE166.out | refine below_set ?_ GE169.out | refine below_set ?_ GE175.out | refine below_set ?_ GE181.out) | exact HB.out)) hb); clear BK164; clear BK166; clear BK169; clear BK175; clear BK181; clear HB; have BK164 := n0_; have BK166 := n1_; have BK169 := n2_; have BK175 := n3_; have BK181 := n4_; have HB := n5_; clear n0_ n1_ n2_ n3_ n4_ n5_; (try clear hb); (try clear hb2); (try clear hk); (try clear hi)) | ((with_reducible refine gate_dst (N := 17) rfl ?_); refine box_event ?hg (N := 17) ?hd (cs := #[.int .i64 0, .int .i64 0, .int .i64 0]) (t := 23) ?hr ?_; (case hd => rfl); (case hg => rfl); (case hr => first | (go_simp; done) | (go_simp; rfl)); intro gb187 hg w53 hbox hb; have n0_ := Aside0.mk (blk_below (g := gb164) (o := .cells #[.int .i64 a0_0, .int .i64 a0_1, .int .i64 a0_2] 23 (0, 0)) (by (with_reducible repeat (first | refine blk_drewN ?_ _ | refine blk_drew ?_ | refine blk_alloc ?_ _)); exact BK164.out) hb); have n1_ := Aside0.mk (blk_below (g := gb166) (o := .cells #[.int .i64 a0_0, .int .i64 (wrap64 (a0_1 + (Int.tmod (wrap64 ((Int.tmod a1 1000) + 1000)) 1000))), .int .i64 a0_2] 23 (0, 0)) (by (with_reducible repeat (first | refine blk_drewN ?_ _ | refine blk_drew ?_ | refine blk_alloc ?_ _)); exact BK166.out) hb); have n2_ := Aside0.mk (blk_below (g := gb169) (o := .cells #[.int .i64 a0_0, .int .i64 0, .int .i64 0] 23 (0, 0)) (by (with_reducible repeat (first | refine blk_drewN ?_ _ | refine blk_drew ?_ | refine blk_alloc ?_ _)); exact BK169.out) hb); have n3_ := Aside0.mk (blk_below (g := gb175) (o := .cells #[.int .i64 t171, .int .i64 t172, .int .i64 t173] 23 (0, 0)) (by (with_reducible repeat (first | refine blk_drewN ?_ _ | refine blk_drew ?_ | refine blk_alloc ?_ _)); exact BK175.out) hb); have n4_ := Aside0.mk (blk_below (g := gb181) (o := .cells #[.int .i64 t177, .int .i64 t178, .int .i64 t179] 23 (0, 0)) (by (with_reducible repeat (first | refine blk_drewN ?_ _ | refine blk_drew ?_ | refine blk_alloc ?_ _)); exact BK181.out) hb); have n5_ := Aside0.mk (below_step (by repeat (first | (with_reducible first | exact HB.out | apply below_alloc | apply pw_below_drewN | apply below_drew1 | refine below_set ?_ GE164.out | refine below_set ?_ GE166.out | refine below_set ?_ GE169.out | refine below_set ?_ GE175.out | refine below_set ?_ GE181.out) | exact HB.out)) hb); have n6_ := Aside0.mk (hbox); have n7_ := Aside0.mk ((by rw [hg]; exact (below_size (by repeat (first | (with_reducible first | exact HB.out | apply below_alloc | apply pw_below_drewN | apply below_drew1 | refine below_set ?_ GE164.out | refine below_set ?_ GE166.out | refine below_set ?_ GE169.out | refine below_set ?_ GE175.out | refine below_set ?_ GE181.out) | exact HB.out))) : w.heap.size ≤ gb187)); have n8_ := Aside0.mk ((by rw [hg]; exact (below_size (by repeat (first | (with_reducible first | exact HB.out | apply below_alloc | apply pw_below_drewN | apply below_drew1 | refine below_set ?_ GE164.out | refine below_set ?_ GE166.out | refine below_set ?_ GE169.out | refine below_set ?_ GE175.out | refine below_set ?_ GE181.out) | exact HB.out))) : w.heap.size ≤ gb187)); have n9_ := Aside0.mk ((by rw [hg]; exact Nat.ne_of_lt (blk_lt (g := gb164) (o := .cells #[.int .i64 a0_0, .int .i64 a0_1, .int .i64 a0_2] 23 (0, 0)) (by (with_reducible repeat (first | refine blk_drewN ?_ _ | refine blk_drew ?_ | refine blk_alloc ?_ _)); exact BK164.out)) : gb164 ≠ gb187)); have n10_ := Aside0.mk ((by rw [hg]; exact Nat.ne_of_gt (blk_lt (g := gb164) (o := .cells #[.int .i64 a0_0, .int .i64 a0_1, .int .i64 a0_2] 23 (0, 0)) (by (with_reducible repeat (first | refine blk_drewN ?_ _ | refine blk_drew ?_ | refine blk_alloc ?_ _)); exact BK164.out)) : gb187 ≠ gb164)); have n11_ := Aside0.mk ((by rw [hg]; exact Nat.ne_of_lt (blk_lt (g := gb166) (o := .cells #[.int .i64 a0_0, .int .i64 (wrap64 (a0_1 + (Int.tmod (wrap64 ((Int.tmod a1 1000) + 1000)) 1000))), .int .i64 a0_2] 23 (0, 0)) (by (with_reducible repeat (first | refine blk_drewN ?_ _ | refine blk_drew ?_ | refine blk_alloc ?_ _)); exact BK166.out)) : gb166 ≠ gb187)); have n12_ := Aside0.mk ((by rw [hg]; exact Nat.ne_of_gt (blk_lt (g := gb166) (o := .cells #[.int .i64 a0_0, .int .i64 (wrap64 (a0_1 + (Int.tmod (wrap64 ((Int.tmod a1 1000) + 1000)) 1000))), .int .i64 a0_2] 23 (0, 0)) (by (with_reducible repeat (first | refine blk_drewN ?_ _ | refine blk_drew ?_ | refine blk_alloc ?_ _)); exact BK166.out)) : gb187 ≠ gb166)); have n13_ := Aside0.mk ((by rw [hg]; exact Nat.ne_of_lt (blk_lt (g := gb169) (o := .cells #[.int .i64 a0_0, .int .i64 0, .int .i64 0] 23 (0, 0)) (by (with_reducible repeat (first | refine blk_drewN ?_ _ | refine blk_drew ?_ | refine blk_alloc ?_ _)); exact BK169.out)) : gb169 ≠ gb187)); have n14_ := Aside0.mk ((by rw [hg]; exact Nat.ne_of_gt (blk_lt (g := gb169) (o := .cells #[.int .i64 a0_0, .int .i64 0, .int .i64 0] 23 (0, 0)) (by (with_reducible repeat (first | refine blk_drewN ?_ _ | refine blk_drew ?_ | refine blk_alloc ?_ _)); exact BK169.out)) : gb187 ≠ gb169)); have n15_ := Aside0.mk ((by rw [hg]; exact Nat.ne_of_lt (blk_lt (g := gb175) (o := .cells #[.int .i64 t171, .int .i64 t172, .int .i64 t173] 23 (0, 0)) (by (with_reducible repeat (first | refine blk_drewN ?_ _ | refine blk_drew ?_ | refine blk_alloc ?_ _)); exact BK175.out)) : gb175 ≠ gb187)); have n16_ := Aside0.mk ((by rw [hg]; exact Nat.ne_of_gt (blk_lt (g := gb175) (o := .cells #[.int .i64 t171, .int .i64 t172, .int .i64 t173] 23 (0, 0)) (by (with_reducible repeat (first | refine blk_drewN ?_ _ | refine blk_drew ?_ | refine blk_alloc ?_ _)); exact BK175.out)) : gb187 ≠ gb175)); have n17_ := Aside0.mk ((by rw [hg]; exact Nat.ne_of_lt (blk_lt (g := gb181) (o := .cells #[.int .i64 t177, .int .i64 t178, .int .i64 t179] 23 (0, 0)) (by (with_reducible repeat (first | refine blk_drewN ?_ _ | refine blk_drew ?_ | refine blk_alloc ?_ _)); exact BK181.out)) : gb181 ≠ gb187)); have n18_ := Aside0.mk ((by rw [hg]; exact Nat.ne_of_gt (blk_lt (g := gb181) (o := .cells #[.int .i64 t177, .int .i64 t178, .int .i64 t179] 23 (0, 0)) (by (with_reducible repeat (first | refine blk_drewN ?_ _ | refine blk_drew ?_ | refine blk_alloc ?_ _)); exact BK181.out)) : gb187 ≠ gb181)); clear BK164; clear BK166; clear BK169; clear BK175; clear BK181; clear HB; have BK164 := n0_; have BK166 := n1_; have BK169 := n2_; have BK175 := n3_; have BK181 := n4_; have HB := n5_; have BK187 := n6_; have GW187 := n7_; have GE187 := n8_; have NB164_187 := n9_; have NB187_164 := n10_; have NB166_187 := n11_; have NB187_166 := n12_; have NB169_187 := n13_; have NB187_169 := n14_; have NB175_187 := n15_; have NB187_175 := n16_; have NB181_187 := n17_; have NB187_181 := n18_; clear n0_ n1_ n2_ n3_ n4_ n5_ n6_ n7_ n8_ n9_ n10_ n11_ n12_ n13_ n14_ n15_ n16_ n17_ n18_; clear hb hbox hg; have hnb54 := NB187_164.out; have hnc54 := NB164_187.out; have hnb55 := NB187_166.out; have hnc55 := NB166_187.out; have hnb56 := NB187_169.out; have hnc56 := NB169_187.out; have hnb57 := NB187_175.out; have hnc57 := NB175_187.out; have hnb58 := NB187_181.out; have hnc58 := NB181_187.out; have hcz59_0 : w53.cell? ⟨gb187, 0, none⟩ = some (.int .i64 0) := (blk_cell BK187.out 0).trans rfl; have hcz59_1 : w53.cell? ⟨gb187, 1, none⟩ = some (.int .i64 0) := (blk_cell BK187.out 1).trans rfl; have hcz59_2 : w53.cell? ⟨gb187, 2, none⟩ = some (.int .i64 0) := (blk_cell BK187.out 2).trans rfl; have hfz59_0 := blk_frozen BK187.out 0; have hfz59_1 := blk_frozen BK187.out 1; have hfz59_2 := blk_frozen BK187.out 2; have hcz60_0 : w53.cell? ⟨gb166, 0, none⟩ = some (.int .i64 a0_0) := (blk_cell BK166.out 0).trans rfl; have hcz60_1 : w53.cell? ⟨gb166, 1, none⟩ = some (.int .i64 (wrap64 (a0_1 + (Int.tmod (wrap64 ((Int.tmod a1 1000) + 1000)) 1000)))) := (blk_cell BK166.out 1).trans rfl; have hcz60_2 : w53.cell? ⟨gb166, 2, none⟩ = some (.int .i64 a0_2) := (blk_cell BK166.out 2).trans rfl; have hfz60_0 := blk_frozen BK166.out 0; have hfz60_1 := blk_frozen BK166.out 1; have hfz60_2 := blk_frozen BK166.out 2; have hcz61_0 : w53.cell? ⟨gb164, 0, none⟩ = some (.int .i64 a0_0) := (blk_cell BK164.out 0).trans rfl; have hcz61_1 : w53.cell? ⟨gb164, 1, none⟩ = some (.int .i64 a0_1) := (blk_cell BK164.out 1).trans rfl; have hcz61_2 : w53.cell? ⟨gb164, 2, none⟩ = some (.int .i64 a0_2) := (blk_cell BK164.out 2).trans rfl; have hfz61_0 := blk_frozen BK164.out 0; have hfz61_1 := blk_frozen BK164.out 1; have hfz61_2 := blk_frozen BK164.out 2) | ((with_reducible refine gate_callee (f := 17) rfl ?_); refine goesL_ (some 74) rfl rfl Try.func17 (by kernel_rfl) rfl #[.agg #[.int .i64 a0_0, .int .i64 (wrap64 (a0_1 + (Int.tmod (wrap64 ((Int.tmod a1 1000) + 1000)) 1000))), .int .i64 a0_2], .agg #[.int .i64 a0_0, .int .i64 a0_1, .int .i64 a0_2], .int .i64 (Go.bits .and .i64 a2 1048575)] rfl (by (try simp only [List.map_toArray, List.map_cons, List.map_nil]); first | done | rfl | (simp only [List.length_drop, List.length_take]; rfl)) ?_; (with_reducible refine (osc_Apart.calls kj5 a0_0 (wrap64 (a0_1 + (Int.tmod (wrap64 ((Int.tmod a1 1000) + 1000)) 1000))) a0_2 a0_0 a0_1 a0_2 (Go.bits .and .i64 a2 1048575) t188 t189 _ A28.out).mono ?_); rintro e w62 ⟨rfl, hb⟩; refine ⟨_, rfl, ?_⟩; have n0_ := Aside0.mk (blk_below (g := gb164) (o := .cells #[.int .i64 a0_0, .int .i64 a0_1, .int .i64 a0_2] 23 (0, 0)) (by (with_reducible repeat (first | refine blk_drewN ?_ _ | refine blk_drew ?_ | refine blk_alloc ?_ _)); refine blk_far ?_ NB164_187.out _; (with_reducible repeat (first | refine blk_drewN ?_ _ | refine blk_drew ?_ | refine blk_alloc ?_ _)); refine blk_far ?_ NB164_187.out _; (with_reducible repeat (first | refine blk_drewN ?_ _ | refine blk_drew ?_ | refine blk_alloc ?_ _)); refine blk_far ?_ NB164_187.out _; (with_reducible repeat (first | refine blk_drewN ?_ _ | refine blk_drew ?_ | refine blk_alloc ?_ _)); exact BK164.out) hb); have n1_ := Aside0.mk (blk_below (g := gb166) (o := .cells #[.int .i64 a0_0, .int .i64 (wrap64 (a0_1 + (Int.tmod (wrap64 ((Int.tmod a1 1000) + 1000)) 1000))), .int .i64 a0_2] 23 (0, 0)) (by (with_reducible repeat (first | refine blk_drewN ?_ _ | refine blk_drew ?_ | refine blk_alloc ?_ _)); refine blk_far ?_ NB166_187.out _; (with_reducible repeat (first | refine blk_drewN ?_ _ | refine blk_drew ?_ | refine blk_alloc ?_ _)); refine blk_far ?_ NB166_187.out _; (with_reducible repeat (first | refine blk_drewN ?_ _ | refine blk_drew ?_ | refine blk_alloc ?_ _)); refine blk_far ?_ NB166_187.out _; (with_reducible repeat (first | refine blk_drewN ?_ _ | refine blk_drew ?_ | refine blk_alloc ?_ _)); exact BK166.out) hb); have n2_ := Aside0.mk (blk_below (g := gb169) (o := .cells #[.int .i64 a0_0, .int .i64 0, .int .i64 0] 23 (0, 0)) (by (with_reducible repeat (first | refine blk_drewN ?_ _ | refine blk_drew ?_ | refine blk_alloc ?_ _)); refine blk_far ?_ NB169_187.out _; (with_reducible repeat (first | refine blk_drewN ?_ _ | refine blk_drew ?_ | refine blk_alloc ?_ _)); refine blk_far ?_ NB169_187.out _; (with_reducible repeat (first | refine blk_drewN ?_ _ | refine blk_drew ?_ | refine blk_alloc ?_ _)); refine blk_far ?_ NB169_187.out _; (with_reducible repeat (first | refine blk_drewN ?_ _ | refine blk_drew ?_ | refine blk_alloc ?_ _)); exact BK169.out) hb); have n3_ := Aside0.mk (blk_below (g := gb175) (o := .cells #[.int .i64 t171, .int .i64 t172, .int .i64 t173] 23 (0, 0)) (by (with_reducible repeat (first | refine blk_drewN ?_ _ | refine blk_drew ?_ | refine blk_alloc ?_ _)); refine blk_far ?_ NB175_187.out _; (with_reducible repeat (first | refine blk_drewN ?_ _ | refine blk_drew ?_ | refine blk_alloc ?_ _)); refine blk_far ?_ NB175_187.out _; (with_reducible repeat (first | refine blk_drewN ?_ _ | refine blk_drew ?_ | refine blk_alloc ?_ _)); refine blk_far ?_ NB175_187.out _; (with_reducible repeat (first | refine blk_drewN ?_ _ | refine blk_drew ?_ | refine blk_alloc ?_ _)); exact BK175.out) hb); have n4_ := Aside0.mk (blk_below (g := gb181) (o := .cells #[.int .i64 t177, .int .i64 t178, .int .i64 t179] 23 (0, 0)) (by (with_reducible repeat (first | refine blk_drewN ?_ _ | refine blk_drew ?_ | refine blk_alloc ?_ _)); refine blk_far ?_ NB181_187.out _; (with_reducible repeat (first | refine blk_drewN ?_ _ | refine blk_drew ?_ | refine blk_alloc ?_ _)); refine blk_far ?_ NB181_187.out _; (with_reducible repeat (first | refine blk_drewN ?_ _ | refine blk_drew ?_ | refine blk_alloc ?_ _)); refine blk_far ?_ NB181_187.out _; (with_reducible repeat (first | refine blk_drewN ?_ _ | refine blk_drew ?_ | refine blk_alloc ?_ _)); exact BK181.out) hb); have n5_ := Aside0.mk (blk_below (g := gb187) (o := .cells #[.int .i64 t183, .int .i64 t184, .int .i64 t185] 23 (0, 0)) (by (with_reducible repeat (first | refine blk_drewN ?_ _ | refine blk_drew ?_ | refine blk_alloc ?_ _)); refine blk_put (cs := #[.int .i64 t183, .int .i64 t184, .int .i64 0]) ?_ 2 _ rfl; (with_reducible repeat (first | refine blk_drewN ?_ _ | refine blk_drew ?_ | refine blk_alloc ?_ _)); refine blk_put (cs := #[.int .i64 t183, .int .i64 0, .int .i64 0]) ?_ 1 _ rfl; (with_reducible repeat (first | refine blk_drewN ?_ _ | refine blk_drew ?_ | refine blk_alloc ?_ _)); refine blk_put (cs := #[.int .i64 0, .int .i64 0, .int .i64 0]) ?_ 0 _ rfl; (with_reducible repeat (first | refine blk_drewN ?_ _ | refine blk_drew ?_ | refine blk_alloc ?_ _)); exact BK187.out) hb); have n6_ := Aside0.mk (below_step (by repeat (first | (with_reducible first | exact HB.out | apply below_alloc | apply pw_below_drewN | apply below_drew1 | refine below_set ?_ GE164.out | refine below_set ?_ GE166.out | refine below_set ?_ GE169.out | refine below_set ?_ GE175.out | refine below_set ?_ GE181.out | refine below_set ?_ GE187.out) | exact HB.out)) hb); clear BK164; clear BK166; clear BK169; clear BK175; clear BK181; clear BK187; clear HB; have BK164 := n0_; have BK166 := n1_; have BK169 := n2_; have BK175 := n3_; have BK181 := n4_; have BK187 := n5_; have HB := n6_; clear n0_ n1_ n2_ n3_ n4_ n5_ n6_; (try clear hb); (try clear hb2); (try clear hk); (try clear hi)))
     (try simp only [Act.put, List.setIfInBounds_toArray, List.set_cons_zero, List.set_cons_succ])
     go_cut [90] (fun v90 wc => ∃ (kq : Nat) (x90_28 : Bool), v90 = .bool x90_28 ∧ Aside0 (palletlaw06_OscDrifts.j1 kq (Int.tmod (wrap64 ((Int.tmod a1 1000) + 1000)) 1000) (Go.bits .and .i64 a2 1048575) true t170 t176 t182 t188 x90_28 a0_0 a0_1 a0_2 t183 t184 t185 = some r) ∧ Aside0 (kq ≤ kj5) ∧ Aside0 (wc.heap[gb164]? = some (.cells #[.int .i64 a0_0, .int .i64 a0_1, .int .i64 a0_2] 23 (0, 0))) ∧ Aside0 (wc.heap[gb166]? = some (.cells #[.int .i64 a0_0, .int .i64 (wrap64 (a0_1 + (Int.tmod (wrap64 ((Int.tmod a1 1000) + 1000)) 1000))), .int .i64 a0_2] 23 (0, 0))) ∧ Aside0 (wc.heap[gb169]? = some (.cells #[.int .i64 a0_0, .int .i64 0, .int .i64 0] 23 (0, 0))) ∧ Aside0 (wc.heap[gb175]? = some (.cells #[.int .i64 t171, .int .i64 t172, .int .i64 t173] 23 (0, 0))) ∧ Aside0 (wc.heap[gb181]? = some (.cells #[.int .i64 t177, .int .i64 t178, .int .i64 t179] 23 (0, 0))) ∧ Aside0 (wc.heap[gb187]? = some (.cells #[.int .i64 t183, .int .i64 t184, .int .i64 t185] 23 (0, 0))) ∧ Aside0 (Below w.heap.size w wc))
     case first =>
      have H := HC29.out
      clear HC29
      by_cases c63 : t174 = 0
      ·rw [if_pos c63] at H
       have c63b0 : (t174 == 0) = true := beq_iff_eq.mpr c63
       have c63b1 : (t174 != 0) = false := bne_eq_false_iff_eq.mpr c63
       clear c63
       (first | rw [c63b0] | (simp only [i64_w, i32_w]; rw [c63b0]) | skip)
       by_cases c64 : t180 = 0
       ·rw [if_pos c64] at H
        have c64b0 : (t180 == 0) = true := beq_iff_eq.mpr c64
        have c64b1 : (t180 != 0) = false := bne_eq_false_iff_eq.mpr c64
        clear c64
        by_cases c65 : t186 = 0
        ·rw [if_pos c65] at H
         have c65b0 : (t186 == 0) = true := beq_iff_eq.mpr c65
         have c65b1 : (t186 != 0) = false := bne_eq_false_iff_eq.mpr c65
         clear c65
         have H' := Aside0.mk H
         clear H
         go_wp2
         go_meet
         case rel => exact ⟨_, ((t189 != 0)), (by first | rfl | (simp; done) | (simp [*]; done)), H', ⟨by have := HJ5.out; first | omega | exact Nat.le_refl _⟩, ⟨by (with_reducible repeat (first | refine blk_drewN ?_ _ | refine blk_drew ?_ | refine blk_alloc ?_ _)); exact BK164.out⟩, ⟨by (with_reducible repeat (first | refine blk_drewN ?_ _ | refine blk_drew ?_ | refine blk_alloc ?_ _)); exact BK166.out⟩, ⟨by (with_reducible repeat (first | refine blk_drewN ?_ _ | refine blk_drew ?_ | refine blk_alloc ?_ _)); exact BK169.out⟩, ⟨by (with_reducible repeat (first | refine blk_drewN ?_ _ | refine blk_drew ?_ | refine blk_alloc ?_ _)); exact BK175.out⟩, ⟨by (with_reducible repeat (first | refine blk_drewN ?_ _ | refine blk_drew ?_ | refine blk_alloc ?_ _)); exact BK181.out⟩, ⟨by (with_reducible repeat (first | refine blk_drewN ?_ _ | refine blk_drew ?_ | refine blk_alloc ?_ _)); exact BK187.out⟩, ⟨by repeat (first | (with_reducible first | exact HB.out | apply below_alloc | apply pw_below_drewN | apply below_drew1 | refine below_set ?_ GE164.out | refine below_set ?_ GE166.out | refine below_set ?_ GE169.out | refine below_set ?_ GE175.out | refine below_set ?_ GE181.out | refine below_set ?_ GE187.out) | exact HB.out)⟩⟩
        ·rw [if_neg c65] at H
         have c65b0 : (t186 == 0) = false := beq_eq_false_iff_ne.mpr c65
         have c65b1 : (t186 != 0) = true := bne_iff_ne.mpr c65
         have H' := Aside0.mk H
         clear H
         go_wp2
         go_meet
         case rel => exact ⟨_, (true), (by first | rfl | (simp; done) | (simp [*]; done)), H', ⟨by have := HJ5.out; first | omega | exact Nat.le_refl _⟩, ⟨by (with_reducible repeat (first | refine blk_drewN ?_ _ | refine blk_drew ?_ | refine blk_alloc ?_ _)); exact BK164.out⟩, ⟨by (with_reducible repeat (first | refine blk_drewN ?_ _ | refine blk_drew ?_ | refine blk_alloc ?_ _)); exact BK166.out⟩, ⟨by (with_reducible repeat (first | refine blk_drewN ?_ _ | refine blk_drew ?_ | refine blk_alloc ?_ _)); exact BK169.out⟩, ⟨by (with_reducible repeat (first | refine blk_drewN ?_ _ | refine blk_drew ?_ | refine blk_alloc ?_ _)); exact BK175.out⟩, ⟨by (with_reducible repeat (first | refine blk_drewN ?_ _ | refine blk_drew ?_ | refine blk_alloc ?_ _)); exact BK181.out⟩, ⟨by (with_reducible repeat (first | refine blk_drewN ?_ _ | refine blk_drew ?_ | refine blk_alloc ?_ _)); exact BK187.out⟩, ⟨by repeat (first | (with_reducible first | exact HB.out | apply below_alloc | apply pw_below_drewN | apply below_drew1 | refine below_set ?_ GE164.out | refine below_set ?_ GE166.out | refine below_set ?_ GE169.out | refine below_set ?_ GE175.out | refine below_set ?_ GE181.out | refine below_set ?_ GE187.out) | exact HB.out)⟩⟩
       ·rw [if_neg c64] at H
        have c64b0 : (t180 == 0) = false := beq_eq_false_iff_ne.mpr c64
        have c64b1 : (t180 != 0) = true := bne_iff_ne.mpr c64
        have H' := Aside0.mk H
        clear H
        go_wp2
        go_meet
        case rel => exact ⟨_, (true), (by first | rfl | (simp; done) | (simp [*]; done)), H', ⟨by have := HJ5.out; first | omega | exact Nat.le_refl _⟩, ⟨by (with_reducible repeat (first | refine blk_drewN ?_ _ | refine blk_drew ?_ | refine blk_alloc ?_ _)); exact BK164.out⟩, ⟨by (with_reducible repeat (first | refine blk_drewN ?_ _ | refine blk_drew ?_ | refine blk_alloc ?_ _)); exact BK166.out⟩, ⟨by (with_reducible repeat (first | refine blk_drewN ?_ _ | refine blk_drew ?_ | refine blk_alloc ?_ _)); exact BK169.out⟩, ⟨by (with_reducible repeat (first | refine blk_drewN ?_ _ | refine blk_drew ?_ | refine blk_alloc ?_ _)); exact BK175.out⟩, ⟨by (with_reducible repeat (first | refine blk_drewN ?_ _ | refine blk_drew ?_ | refine blk_alloc ?_ _)); exact BK181.out⟩, ⟨by (with_reducible repeat (first | refine blk_drewN ?_ _ | refine blk_drew ?_ | refine blk_alloc ?_ _)); exact BK187.out⟩, ⟨by repeat (first | (with_reducible first | exact HB.out | apply below_alloc | apply pw_below_drewN | apply below_drew1 | refine below_set ?_ GE164.out | refine below_set ?_ GE166.out | refine below_set ?_ GE169.out | refine below_set ?_ GE175.out | refine below_set ?_ GE181.out | refine below_set ?_ GE187.out) | exact HB.out)⟩⟩
      ·rw [if_neg c63] at H
       have c63b0 : (t174 == 0) = false := beq_eq_false_iff_ne.mpr c63
       have c63b1 : (t174 != 0) = true := bne_iff_ne.mpr c63
       (first | rw [c63b0] | (simp only [i64_w, i32_w]; rw [c63b0]) | skip)
       have H' := Aside0.mk H
       clear H
       go_wp2
       go_meet
       case rel => exact ⟨_, (true), (by first | rfl | (simp; done) | (simp [*]; done)), H', ⟨by have := HJ5.out; first | omega | exact Nat.le_refl _⟩, ⟨by (with_reducible repeat (first | refine blk_drewN ?_ _ | refine blk_drew ?_ | refine blk_alloc ?_ _)); exact BK164.out⟩, ⟨by (with_reducible repeat (first | refine blk_drewN ?_ _ | refine blk_drew ?_ | refine blk_alloc ?_ _)); exact BK166.out⟩, ⟨by (with_reducible repeat (first | refine blk_drewN ?_ _ | refine blk_drew ?_ | refine blk_alloc ?_ _)); exact BK169.out⟩, ⟨by (with_reducible repeat (first | refine blk_drewN ?_ _ | refine blk_drew ?_ | refine blk_alloc ?_ _)); exact BK175.out⟩, ⟨by (with_reducible repeat (first | refine blk_drewN ?_ _ | refine blk_drew ?_ | refine blk_alloc ?_ _)); exact BK181.out⟩, ⟨by (with_reducible repeat (first | refine blk_drewN ?_ _ | refine blk_drew ?_ | refine blk_alloc ?_ _)); exact BK187.out⟩, ⟨by repeat (first | (with_reducible first | exact HB.out | apply below_alloc | apply pw_below_drewN | apply below_drew1 | refine below_set ?_ GE164.out | refine below_set ?_ GE166.out | refine below_set ?_ GE169.out | refine below_set ?_ GE175.out | refine below_set ?_ GE181.out | refine below_set ?_ GE187.out) | exact HB.out)⟩⟩
     case rest =>
      clear HC29
      try clear c1
      try clear c2
      try clear p2
      try clear c3
      try clear c4
      try clear c5
      try clear c6
      try clear p6
      try clear c11
      try clear c14
      try clear c14b0
      try clear c14b1
      try clear c15
      try clear c16
      try clear c17
      try clear c21
      try clear c24
      try clear c30
      try clear c33
      try clear c34
      try clear c39
      try clear c40
      try clear c41
      try clear c46
      try clear c47
      try clear c48
      try clear c49
      try clear c54
      try clear c55
      try clear c56
      try clear c57
      try clear c58
      try clear c63
      try clear c63b0
      try clear c63b1
      try clear c64
      try clear c64b0
      try clear c64b1
      try clear p64
      try clear c65
      try clear c65b0
      try clear c65b1
      try clear hcz12_0
      try clear hcz12_1
      try clear hcz12_2
      try clear hcz17_0
      try clear hcz17_1
      try clear hcz17_2
      try clear hcz19_0
      try clear hcz19_1
      try clear hcz19_2
      try clear hcz22_0
      try clear hcz22_1
      try clear hcz22_2
      try clear hcz31_0
      try clear hcz31_1
      try clear hcz31_2
      try clear hcz35_0
      try clear hcz35_1
      try clear hcz35_2
      try clear hcz36_0
      try clear hcz36_1
      try clear hcz36_2
      try clear hcz42_0
      try clear hcz42_1
      try clear hcz42_2
      try clear hcz43_0
      try clear hcz43_1
      try clear hcz43_2
      try clear hcz50_0
      try clear hcz50_1
      try clear hcz50_2
      try clear hcz51_0
      try clear hcz51_1
      try clear hcz51_2
      try clear hcz59_0
      try clear hcz59_1
      try clear hcz59_2
      try clear hcz60_0
      try clear hcz60_1
      try clear hcz60_2
      try clear hcz61_0
      try clear hcz61_1
      try clear hcz61_2
      try clear hcz9_0
      try clear hcz9_1
      try clear hcz9_2
      try clear hfz12_0
      try clear hfz12_1
      try clear hfz12_2
      try clear hfz17_0
      try clear hfz17_1
      try clear hfz17_2
      try clear hfz19_0
      try clear hfz19_1
      try clear hfz19_2
      try clear hfz22_0
      try clear hfz22_1
      try clear hfz22_2
      try clear hfz31_0
      try clear hfz31_1
      try clear hfz31_2
      try clear hfz35_0
      try clear hfz35_1
      try clear hfz35_2
      try clear hfz36_0
      try clear hfz36_1
      try clear hfz36_2
      try clear hfz42_0
      try clear hfz42_1
      try clear hfz42_2
      try clear hfz43_0
      try clear hfz43_1
      try clear hfz43_2
      try clear hfz50_0
      try clear hfz50_1
      try clear hfz50_2
      try clear hfz51_0
      try clear hfz51_1
      try clear hfz51_2
      try clear hfz59_0
      try clear hfz59_1
      try clear hfz59_2
      try clear hfz60_0
      try clear hfz60_1
      try clear hfz60_2
      try clear hfz61_0
      try clear hfz61_1
      try clear hfz61_2
      try clear hfz9_0
      try clear hfz9_1
      try clear hfz9_2
      try clear p2
      try clear p6
      obtain ⟨kq, x90_28, rfl, HA, HJ28, BK164, BK166, BK169, BK175, BK181, BK187, HB⟩ := hcut
      cases kq with
      | zero => exact absurd HA.out (by simp [palletlaw06_OscDrifts.j1])
      | succ kj28 =>
       have H := HA.out
       clear HA
       simp only [palletlaw06_OscDrifts.j1] at H
       by_cases c66 : x90_28 = true
       ·subst c66
        have H1 : (some false) = some r := by rw [if_pos rfl] at H; exact H
        clear H
        have H := H1
        clear H1
        obtain rfl := Option.some.inj H
        exact absurd hr_.out (by decide)
       ·replace c66 := Bool.eq_false_iff.mpr c66
        subst c66
        have H1 : (if t170 > t176 then (some false) else (if t182 = (wrap64 ((Go.bits .and .i64 a2 1048575) * a0_0)) then (if t185 = 0 then (if t188 = (wrap64 (t176 - t170)) then (if true = true then (some (decide (t188 ≤ (wrap64 ((wrap64 ((wrap64 (Int.tdiv (wrap64 ((wrap64 (Int.tdiv (wrap64 ((Go.bits .and .i64 a2 1048575) * a0_0)) 1000000)) * (Int.tmod (wrap64 ((Int.tmod a1 1000) + 1000)) 1000))) 1000)) + (Int.tmod (wrap64 ((Int.tmod a1 1000) + 1000)) 1000))) + 1))))) else (some false)) else (some false)) else (some false)) else (some false))) = some r := by rw [if_neg (show ¬ (false = true) by decide)] at H; exact H
        clear H
        have H := H1
        clear H1
        by_cases c67 : t170 > t176
        ·rw [if_pos c67] at H
         have c67b0 : decide (t176 < t170) = true := decide_eq_true c67
         clear c67
         obtain rfl := Option.some.inj H
         exact absurd hr_.out (by decide)
        ·rw [if_neg c67] at H
         have c67b0 : decide (t176 < t170) = false := decide_eq_false c67
         clear c67
         by_cases c68 : t182 = (wrap64 ((Go.bits .and .i64 a2 1048575) * a0_0))
         ·rw [if_pos c68] at H
          have c68b0 : (t182 == (wrap64 ((Go.bits .and .i64 a2 1048575) * a0_0))) = true := beq_iff_eq.mpr c68
          have c68b1 : (t182 != (wrap64 ((Go.bits .and .i64 a2 1048575) * a0_0))) = false := bne_eq_false_iff_eq.mpr c68
          clear c68
          by_cases c69 : t185 = 0
          ·rw [if_pos c69] at H
           have c69b0 : (t185 == 0) = true := beq_iff_eq.mpr c69
           have c69b1 : (t185 != 0) = false := bne_eq_false_iff_eq.mpr c69
           clear c69
           by_cases c70 : t188 = (wrap64 (t176 - t170))
           ·rw [if_pos c70] at H
            have c70b0 : (t188 == (wrap64 (t176 - t170))) = true := beq_iff_eq.mpr c70
            have c70b1 : (t188 != (wrap64 (t176 - t170))) = false := bne_eq_false_iff_eq.mpr c70
            clear c70
            have H1 : (some (decide (t188 ≤ (wrap64 ((wrap64 ((wrap64 (Int.tdiv (wrap64 ((wrap64 (Int.tdiv (wrap64 ((Go.bits .and .i64 a2 1048575) * a0_0)) 1000000)) * (Int.tmod (wrap64 ((Int.tmod a1 1000) + 1000)) 1000))) 1000)) + (Int.tmod (wrap64 ((Int.tmod a1 1000) + 1000)) 1000))) + 1))))) = some r := by first | (rw [if_pos rfl] at H; exact H) | exact H
            clear H
            have H := H1
            clear H1
            obtain rfl := Option.some.inj H
            have hnb71 := NB164_166.out
            have hnc71 := NB166_164.out
            have hnb72 := NB164_169.out
            have hnc72 := NB169_164.out
            have hnb73 := NB164_175.out
            have hnc73 := NB175_164.out
            have hnb74 := NB164_181.out
            have hnc74 := NB181_164.out
            have hnb75 := NB164_187.out
            have hnc75 := NB187_164.out
            have hcz76_0 : wc.cell? ⟨gb164, 0, none⟩ = some (.int .i64 a0_0) := (blk_cell BK164.out 0).trans rfl
            have hcz76_1 : wc.cell? ⟨gb164, 1, none⟩ = some (.int .i64 a0_1) := (blk_cell BK164.out 1).trans rfl
            have hcz76_2 : wc.cell? ⟨gb164, 2, none⟩ = some (.int .i64 a0_2) := (blk_cell BK164.out 2).trans rfl
            have hfz76_0 := blk_frozen BK164.out 0
            have hfz76_1 := blk_frozen BK164.out 1
            have hfz76_2 := blk_frozen BK164.out 2
            have hnb77 := NB187_166.out
            have hnc77 := NB166_187.out
            have hnb78 := NB187_169.out
            have hnc78 := NB169_187.out
            have hnb79 := NB187_175.out
            have hnc79 := NB175_187.out
            have hnb80 := NB187_181.out
            have hnc80 := NB181_187.out
            have hcz81_0 : wc.cell? ⟨gb187, 0, none⟩ = some (.int .i64 t183) := (blk_cell BK187.out 0).trans rfl
            have hcz81_1 : wc.cell? ⟨gb187, 1, none⟩ = some (.int .i64 t184) := (blk_cell BK187.out 1).trans rfl
            have hcz81_2 : wc.cell? ⟨gb187, 2, none⟩ = some (.int .i64 t185) := (blk_cell BK187.out 2).trans rfl
            have hfz81_0 := blk_frozen BK187.out 0
            have hfz81_1 := blk_frozen BK187.out 1
            have hfz81_2 := blk_frozen BK187.out 2
            go_wp2
            go_ret
            exact ⟨by first | rfl | (simp [errW_none, errW_some] <;> rfl) | (simp [*, errW_none, errW_some] <;> rfl), by repeat (first | (with_reducible first | exact HB.out | apply below_alloc | apply pw_below_drewN | apply below_drew1 | refine below_set ?_ GE164.out | refine below_set ?_ GE166.out | refine below_set ?_ GE169.out | refine below_set ?_ GE175.out | refine below_set ?_ GE181.out | refine below_set ?_ GE187.out) | exact HB.out)⟩
           ·rw [if_neg c70] at H
            have c70b0 : (t188 == (wrap64 (t176 - t170))) = false := beq_eq_false_iff_ne.mpr c70
            have c70b1 : (t188 != (wrap64 (t176 - t170))) = true := bne_iff_ne.mpr c70
            obtain rfl := Option.some.inj H
            exact absurd hr_.out (by decide)
          ·rw [if_neg c69] at H
           have c69b0 : (t185 == 0) = false := beq_eq_false_iff_ne.mpr c69
           have c69b1 : (t185 != 0) = true := bne_iff_ne.mpr c69
           obtain rfl := Option.some.inj H
           exact absurd hr_.out (by decide)
         ·rw [if_neg c68] at H
          have c68b0 : (t182 == (wrap64 ((Go.bits .and .i64 a2 1048575) * a0_0))) = false := beq_eq_false_iff_ne.mpr c68
          have c68b1 : (t182 != (wrap64 ((Go.bits .and .i64 a2 1048575) * a0_0))) = true := bne_iff_ne.mpr c68
          obtain rfl := Option.some.inj H
          exact absurd hr_.out (by decide)
 ·replace c5 := Bool.eq_false_iff.mpr c5
  subst c5
  have H1 : (some false) = some r := by rw [if_neg (show ¬ (false = true) by decide)] at H; exact H
  clear H
  have H := H1
  clear H1
  obtain rfl := Option.some.inj H
  exact absurd hr_.out (by decide)

end Go.Proofs.Ytmkjljekofondaa.Print
