-- PRINTED by print.py (a twelfth state) out of the translation. Not trusted: Lean checks it.
import Derived.Test.YtmkjljekofondaaPrint0
import Derived.Test.YtmkjljekofondaaPrint1
import Derived.Test.YtmkjljekofondaaPrint2
import Derived.Test.YtmkjljekofondaaPrint4
import Derived.Test.YtmkjljekofondaaPrint8
namespace Go.Proofs.Ytmkjljekofondaa.Print
open Go.RowKit Go.Proofs.YtmkjljekofondaaW.PrintWords Go.Proofs.YtmkjljekofondaaW.PrintLast Go.Proofs.YtmkjljekofondaaW.PrintMore Go.Proofs.YtmkjljekofondaaX
attribute [local go_sem] max2_int min2_int max_two min_two max_three min_three max_four min_four   -- for this text's walks alone
set_option linter.unusedVariables false
set_option linter.unusedSimpArgs false

attribute [local go_sem high] eqA23
/-! ### palletlaw06_OscParts: function 5 -/
mutual
def palletlaw06_OscParts.j0 : Nat → List Int → Bool → Bool → Int → Int → Int → Option (Bool)
 | 0, _, _, _, _, _, _ => none
 | k + 1, x1, x5, x28, x204000, x204001, x204002 => if x28 = true then (some x5) else (palletlaw06_OscParts.l0 k x1 x5 0 x1 (x1.length : Int) 0 x204000 x204001 x204002)
def palletlaw06_OscParts.l0 : Nat → List Int → Bool → Int → List Int → Int → Int → Int → Int → Int → Option (Bool)
 | 0, _, _, _, _, _, _, _, _, _ => none
 | k + 1, x1, x5, x6, x30, x31, x32, x204000, x204001, x204002 => if x32 < x31 then (if 0 ≤ x32 then (if x32 < (x30.length : Int) then (if (rd x30 x32) < 0 then (some x5) else (if (rd x30 x32) > 8589934592 then (some x5) else (palletlaw06_OscParts.l0 k x1 x5 (wrap64 (x6 + (rd x30 x32))) x30 x31 (wrap64 (x32 + 1)) x204000 x204001 x204002))) else (none)) else (none)) else ((osc_Many.f k x204000 x204001 x204002 x1).bind fun bt207 => ((osc_Run.f k x204000 x204001 x204002 x6).bind fun bt215 => (if bt207.2.2.2.2 = 0 then (palletlaw06_OscParts.j2 k x1 x5 bt207.1 bt215.1 bt215.2.2.2.2 (bt215.2.2.2.2 != 0) bt207.2.1 bt207.2.2.1 bt207.2.2.2.1 bt215.2.1 bt215.2.2.1 bt215.2.2.2.1) else (palletlaw06_OscParts.j2 k x1 x5 bt207.1 bt215.1 bt215.2.2.2.2 true bt207.2.1 bt207.2.2.1 bt207.2.2.2.1 bt215.2.1 bt215.2.2.1 bt215.2.2.2.1))))
def palletlaw06_OscParts.j2 : Nat → List Int → Bool → List Int → Int → Int → Bool → Int → Int → Int → Int → Int → Int → Option (Bool)
 | 0, _, _, _, _, _, _, _, _, _, _, _, _ => none
 | k + 1, x1, x5, x9, x12, x14, x66, x215000, x215001, x215002, x221000, x221001, x221002 => if x66 = true then (if x5 = true then (some (x14 == 2)) else (some false)) else (palletlaw06_OscParts.l1 k x1 x5 x9 x12 0 x9 (x9.length : Int) 0 x215000 x215001 x215002 x221000 x221001 x221002)
def palletlaw06_OscParts.l1 : Nat → List Int → Bool → List Int → Int → Int → List Int → Int → Int → Int → Int → Int → Int → Int → Int → Option (Bool)
 | 0, _, _, _, _, _, _, _, _, _, _, _, _, _, _ => none
 | k + 1, x1, x5, x9, x12, x15, x72, x73, x74, x215000, x215001, x215002, x221000, x221001, x221002 => if x74 < x73 then (if 0 ≤ x74 then (if x74 < (x72.length : Int) then (palletlaw06_OscParts.l1 k x1 x5 x9 x12 (wrap64 (x15 + (rd x72 x74))) x72 x73 (wrap64 (x74 + 1)) x215000 x215001 x215002 x221000 x221001 x221002) else (none)) else (none)) else (if x5 = true then (if (x9.length : Int) = (x1.length : Int) then (if x15 = x12 then (some (x215000 == x221000 && (x215001 == x221001 && (x215002 == x221002)))) else (some false)) else (some false)) else (some false))
end
def palletlaw06_OscParts.f (k : Nat) (a0_0 : Int) (a0_1 : Int) (a0_2 : Int) (l1 : List Int) : Option (Bool) := (palletlaw06_live.f k).bind fun t204 => (if t204 = true then ((osc_Check.f a0_0 a0_1 a0_2).bind fun t205 => (if t205 = 0 then (palletlaw06_OscParts.j0 k l1 t204 (decide ((l1.length : Int) > 100)) a0_0 a0_1 a0_2) else (palletlaw06_OscParts.j0 k l1 t204 true a0_0 a0_1 a0_2))) else (some false))
theorem palletlaw06_OscParts.mono_l : ∀ k, (∀ y0 y1 y2 y3 y4 y5, LeO (palletlaw06_OscParts.j0 k y0 y1 y2 y3 y4 y5) (palletlaw06_OscParts.j0 (k + 1) y0 y1 y2 y3 y4 y5)) ∧ (∀ y0 y1 y2 y3 y4 y5 y6 y7 y8, LeO (palletlaw06_OscParts.l0 k y0 y1 y2 y3 y4 y5 y6 y7 y8) (palletlaw06_OscParts.l0 (k + 1) y0 y1 y2 y3 y4 y5 y6 y7 y8)) ∧ (∀ y0 y1 y2 y3 y4 y5 y6 y7 y8 y9 y10 y11, LeO (palletlaw06_OscParts.j2 k y0 y1 y2 y3 y4 y5 y6 y7 y8 y9 y10 y11) (palletlaw06_OscParts.j2 (k + 1) y0 y1 y2 y3 y4 y5 y6 y7 y8 y9 y10 y11)) ∧ (∀ y0 y1 y2 y3 y4 y5 y6 y7 y8 y9 y10 y11 y12 y13, LeO (palletlaw06_OscParts.l1 k y0 y1 y2 y3 y4 y5 y6 y7 y8 y9 y10 y11 y12 y13) (palletlaw06_OscParts.l1 (k + 1) y0 y1 y2 y3 y4 y5 y6 y7 y8 y9 y10 y11 y12 y13))
 | 0 => ⟨fun _ _ _ _ _ _ r h => by simp [palletlaw06_OscParts.j0] at h, fun _ _ _ _ _ _ _ _ _ r h => by simp [palletlaw06_OscParts.l0] at h, fun _ _ _ _ _ _ _ _ _ _ _ _ r h => by simp [palletlaw06_OscParts.j2] at h, fun _ _ _ _ _ _ _ _ _ _ _ _ _ _ r h => by simp [palletlaw06_OscParts.l1] at h⟩
 | k + 1 => by
  obtain ⟨ih0, ih1, ih2, ih3⟩ := palletlaw06_OscParts.mono_l k
  refine ⟨?_, ?_, ?_, ?_⟩
  ·intro y0 y1 y2 y3 y4 y5
   unfold palletlaw06_OscParts.j0
   repeat' first
   | (with_reducible exact ih0 _ _ _ _ _ _)
   | (with_reducible exact ih1 _ _ _ _ _ _ _ _ _)
   | (with_reducible exact ih2 _ _ _ _ _ _ _ _ _ _ _ _)
   | (with_reducible exact ih3 _ _ _ _ _ _ _ _ _ _ _ _ _ _)
   | (with_reducible exact osc_Many.mono _ _ _ _ _)
   | (with_reducible exact osc_Run.mono _ _ _ _ _)
   | (with_reducible exact palletlaw06_live.mono _)
   | (with_reducible exact LeO.refl _)
   | (with_reducible exact LeO.none _)
   | (with_reducible refine LeO.ite ?_ ?_)
   | (with_reducible refine LeO.bind ?_ (fun _ => ?_))
   | exact ih0 _ _ _ _ _ _
   | exact ih1 _ _ _ _ _ _ _ _ _
   | exact ih2 _ _ _ _ _ _ _ _ _ _ _ _
   | exact ih3 _ _ _ _ _ _ _ _ _ _ _ _ _ _
   | exact osc_Many.mono _ _ _ _ _
   | exact osc_Run.mono _ _ _ _ _
   | exact palletlaw06_live.mono _
   | exact LeO.none _
   | refine LeO.ite ?_ ?_
   | refine LeO.bind ?_ (fun _ => ?_)
  ·intro y0 y1 y2 y3 y4 y5 y6 y7 y8
   unfold palletlaw06_OscParts.l0
   repeat' first
   | (with_reducible exact ih0 _ _ _ _ _ _)
   | (with_reducible exact ih1 _ _ _ _ _ _ _ _ _)
   | (with_reducible exact ih2 _ _ _ _ _ _ _ _ _ _ _ _)
   | (with_reducible exact ih3 _ _ _ _ _ _ _ _ _ _ _ _ _ _)
   | (with_reducible exact osc_Many.mono _ _ _ _ _)
   | (with_reducible exact osc_Run.mono _ _ _ _ _)
   | (with_reducible exact palletlaw06_live.mono _)
   | (with_reducible exact LeO.refl _)
   | (with_reducible exact LeO.none _)
   | (with_reducible refine LeO.ite ?_ ?_)
   | (with_reducible refine LeO.bind ?_ (fun _ => ?_))
   | exact ih0 _ _ _ _ _ _
   | exact ih1 _ _ _ _ _ _ _ _ _
   | exact ih2 _ _ _ _ _ _ _ _ _ _ _ _
   | exact ih3 _ _ _ _ _ _ _ _ _ _ _ _ _ _
   | exact osc_Many.mono _ _ _ _ _
   | exact osc_Run.mono _ _ _ _ _
   | exact palletlaw06_live.mono _
   | exact LeO.none _
   | refine LeO.ite ?_ ?_
   | refine LeO.bind ?_ (fun _ => ?_)
  ·intro y0 y1 y2 y3 y4 y5 y6 y7 y8 y9 y10 y11
   unfold palletlaw06_OscParts.j2
   repeat' first
   | (with_reducible exact ih0 _ _ _ _ _ _)
   | (with_reducible exact ih1 _ _ _ _ _ _ _ _ _)
   | (with_reducible exact ih2 _ _ _ _ _ _ _ _ _ _ _ _)
   | (with_reducible exact ih3 _ _ _ _ _ _ _ _ _ _ _ _ _ _)
   | (with_reducible exact osc_Many.mono _ _ _ _ _)
   | (with_reducible exact osc_Run.mono _ _ _ _ _)
   | (with_reducible exact palletlaw06_live.mono _)
   | (with_reducible exact LeO.refl _)
   | (with_reducible exact LeO.none _)
   | (with_reducible refine LeO.ite ?_ ?_)
   | (with_reducible refine LeO.bind ?_ (fun _ => ?_))
   | exact ih0 _ _ _ _ _ _
   | exact ih1 _ _ _ _ _ _ _ _ _
   | exact ih2 _ _ _ _ _ _ _ _ _ _ _ _
   | exact ih3 _ _ _ _ _ _ _ _ _ _ _ _ _ _
   | exact osc_Many.mono _ _ _ _ _
   | exact osc_Run.mono _ _ _ _ _
   | exact palletlaw06_live.mono _
   | exact LeO.none _
   | refine LeO.ite ?_ ?_
   | refine LeO.bind ?_ (fun _ => ?_)
  ·intro y0 y1 y2 y3 y4 y5 y6 y7 y8 y9 y10 y11 y12 y13
   unfold palletlaw06_OscParts.l1
   repeat' first
   | (with_reducible exact ih0 _ _ _ _ _ _)
   | (with_reducible exact ih1 _ _ _ _ _ _ _ _ _)
   | (with_reducible exact ih2 _ _ _ _ _ _ _ _ _ _ _ _)
   | (with_reducible exact ih3 _ _ _ _ _ _ _ _ _ _ _ _ _ _)
   | (with_reducible exact osc_Many.mono _ _ _ _ _)
   | (with_reducible exact osc_Run.mono _ _ _ _ _)
   | (with_reducible exact palletlaw06_live.mono _)
   | (with_reducible exact LeO.refl _)
   | (with_reducible exact LeO.none _)
   | (with_reducible refine LeO.ite ?_ ?_)
   | (with_reducible refine LeO.bind ?_ (fun _ => ?_))
   | exact ih0 _ _ _ _ _ _
   | exact ih1 _ _ _ _ _ _ _ _ _
   | exact ih2 _ _ _ _ _ _ _ _ _ _ _ _
   | exact ih3 _ _ _ _ _ _ _ _ _ _ _ _ _ _
   | exact osc_Many.mono _ _ _ _ _
   | exact osc_Run.mono _ _ _ _ _
   | exact palletlaw06_live.mono _
   | exact LeO.none _
   | refine LeO.ite ?_ ?_
   | refine LeO.bind ?_ (fun _ => ?_)
theorem palletlaw06_OscParts.mono : ∀ a0 a1 a2 a3 k, LeO (palletlaw06_OscParts.f k a0 a1 a2 a3) (palletlaw06_OscParts.f (k + 1) a0 a1 a2 a3) := by
 intro a0 a1 a2 a3 k
 obtain ⟨ih0, ih1, ih2, ih3⟩ := palletlaw06_OscParts.mono_l k
 unfold palletlaw06_OscParts.f
 repeat' first
   | (with_reducible exact ih0 _ _ _ _ _ _)
   | (with_reducible exact ih1 _ _ _ _ _ _ _ _ _)
   | (with_reducible exact ih2 _ _ _ _ _ _ _ _ _ _ _ _)
   | (with_reducible exact ih3 _ _ _ _ _ _ _ _ _ _ _ _ _ _)
   | (with_reducible exact osc_Many.mono _ _ _ _ _)
   | (with_reducible exact osc_Run.mono _ _ _ _ _)
   | (with_reducible exact palletlaw06_live.mono _)
   | (with_reducible exact LeO.refl _)
   | (with_reducible exact LeO.none _)
   | (with_reducible refine LeO.ite ?_ ?_)
   | (with_reducible refine LeO.bind ?_ (fun _ => ?_))
   | exact ih0 _ _ _ _ _ _
   | exact ih1 _ _ _ _ _ _ _ _ _
   | exact ih2 _ _ _ _ _ _ _ _ _ _ _ _
   | exact ih3 _ _ _ _ _ _ _ _ _ _ _ _ _ _
   | exact osc_Many.mono _ _ _ _ _
   | exact osc_Run.mono _ _ _ _ _
   | exact palletlaw06_live.mono _
   | exact LeO.none _
   | refine LeO.ite ?_ ?_
   | refine LeO.bind ?_ (fun _ => ?_)
set_option maxHeartbeats 8000000 in
set_option maxRecDepth 100000 in
theorem palletlaw06_OscParts.calls (k : Nat) (a0_0 : Int) (a0_1 : Int) (a0_2 : Int) (A1 : Option Addr) (c1 : Nat) (l1 : List Int) (r : Bool) (w : World) (hr1 : Kd.C (Kd.int .i64) w A1 l1.length l1) (hc1 : l1.length ≤ c1) (hr_ : Aside0 (r = true)) (h : palletlaw06_OscParts.f k a0_0 a0_1 a0_2 l1 = some r) :
  Calls Try.prog 5 #[.agg #[.int .i64 a0_0, .int .i64 a0_1, .int .i64 a0_2], .slice A1 l1.length c1] w fun e w' => e = .returned (.bool r) ∧ Below w.heap.size w w' := by
 have hu23 := Try.underlying23
 have HR1 := Aside0.mk hr1
 have HC1 := Aside0.mk hc1
 clear hr1 hc1
 have HB := Aside0.mk (Below.refl w.heap.size w)
 have H : ((palletlaw06_live.f k).bind fun t204 => (if t204 = true then ((osc_Check.f a0_0 a0_1 a0_2).bind fun t205 => (if t205 = 0 then (palletlaw06_OscParts.j0 k l1 t204 (decide ((l1.length : Int) > 100)) a0_0 a0_1 a0_2) else (palletlaw06_OscParts.j0 k l1 t204 true a0_0 a0_1 a0_2))) else (some false))) = some r := h
 clear h
 replace H := Option.bind_eq_some_iff.mp H
 obtain ⟨t204, A30, H⟩ := H
 replace H : (if t204 = true then ((osc_Check.f a0_0 a0_1 a0_2).bind fun t205 => (if t205 = 0 then (palletlaw06_OscParts.j0 k l1 t204 (decide ((l1.length : Int) > 100)) a0_0 a0_1 a0_2) else (palletlaw06_OscParts.j0 k l1 t204 true a0_0 a0_1 a0_2))) else (some false)) = some r := H
 have A3 := Aside0.mk A30
 clear A30
 by_cases c4 : t204 = true
 ·subst c4
  have H1 : ((osc_Check.f a0_0 a0_1 a0_2).bind fun t205 => (if t205 = 0 then (palletlaw06_OscParts.j0 k l1 true (decide ((l1.length : Int) > 100)) a0_0 a0_1 a0_2) else (palletlaw06_OscParts.j0 k l1 true true a0_0 a0_1 a0_2))) = some r := by rw [if_pos rfl] at H; exact H
  clear H
  have H := H1
  clear H1
  have HC5 := Aside0.mk H
  clear H
  go_enter Try.func5, Try.ntmps5
  go_upto_region 4 with (first | ((with_reducible refine gate_dst (N := 2) rfl ?_); (try (refine gate_guard (by rfl) ?_; dsimp only)); refine box_event ?hg (N := 2) ?hd (cs := #[.int .i64 a0_0, .int .i64 a0_1, .int .i64 a0_2]) (t := 23) ?hr ?_; (case hd => rfl); (case hg => rfl); (case hr => first | (go_simp; done) | (go_simp; rfl)); intro gb203 hg w6 hbox hb; have n0_ := Aside0.mk (below_step (by repeat (first | (with_reducible first | exact HB.out | apply below_alloc | apply pw_below_drewN | apply below_drew1) | exact HB.out)) hb); have n1_ := Aside0.mk (hbox); have n2_ := Aside0.mk ((by rw [hg]; exact (below_size (by repeat (first | (with_reducible first | exact HB.out | apply below_alloc | apply pw_below_drewN | apply below_drew1) | exact HB.out))) : w.heap.size ≤ gb203)); have n3_ := Aside0.mk ((by rw [hg]; exact (below_size (by repeat (first | (with_reducible first | exact HB.out | apply below_alloc | apply pw_below_drewN | apply below_drew1) | exact HB.out))) : w.heap.size ≤ gb203)); clear HB; have HB := n0_; have BK203 := n1_; have GW203 := n2_; have GE203 := n3_; clear n0_ n1_ n2_ n3_; clear hb hbox hg) | ((with_reducible refine gate_callee (f := 14) rfl ?_); refine goesL_ (some 18) rfl rfl Try.func14 (by kernel_rfl) rfl #[] rfl (by (try simp only [List.map_toArray, List.map_cons, List.map_nil]); first | done | rfl | (simp only [List.length_drop, List.length_take]; rfl)) ?_; (with_reducible refine (palletlaw06_live.calls k  true _ A3.out).mono ?_); rintro e w7 ⟨rfl, hb⟩; refine ⟨_, rfl, ?_⟩; have n0_ := Aside0.mk (blk_below (g := gb203) (o := .cells #[.int .i64 a0_0, .int .i64 a0_1, .int .i64 a0_2] 23 (0, 0)) (by (with_reducible repeat (first | refine blk_drewN ?_ _ | refine blk_drew ?_ | refine blk_alloc ?_ _)); exact BK203.out) hb); have n1_ := Aside0.mk (below_step (by repeat (first | (with_reducible first | exact HB.out | apply below_alloc | apply pw_below_drewN | apply below_drew1 | refine below_set ?_ GE203.out) | exact HB.out)) hb); clear BK203; clear HB; have BK203 := n0_; have HB := n1_; clear n0_ n1_; (try clear hb); (try clear hb2); (try clear hk); (try clear hi)))
  (try simp only [Act.put, List.setIfInBounds_toArray, List.set_cons_zero, List.set_cons_succ])
  go_cut [28] (fun v28 wc => ∃ (kq : Nat) (x28_4 : Bool), v28 = .bool x28_4 ∧ Aside0 (palletlaw06_OscParts.j0 kq l1 true x28_4 a0_0 a0_1 a0_2 = some r) ∧ Aside0 (kq ≤ k) ∧ Aside0 (wc.heap[gb203]? = some (.cells #[.int .i64 a0_0, .int .i64 a0_1, .int .i64 a0_2] 23 (0, 0))) ∧ Aside0 (Below w.heap.size w wc))
  case first =>
   have H := HC5.out
   clear HC5
   replace H := Option.bind_eq_some_iff.mp H
   obtain ⟨t205, A80, H⟩ := H
   replace H : (if t205 = 0 then (palletlaw06_OscParts.j0 k l1 true (decide ((l1.length : Int) > 100)) a0_0 a0_1 a0_2) else (palletlaw06_OscParts.j0 k l1 true true a0_0 a0_1 a0_2)) = some r := H
   have A8 := Aside0.mk A80
   clear A80
   by_cases c9 : t205 = 0
   ·rw [if_pos c9] at H
    have c9b0 : (t205 == 0) = true := beq_iff_eq.mpr c9
    have c9b1 : (t205 != 0) = false := bne_eq_false_iff_eq.mpr c9
    clear c9
    (first | rw [c9b0] | (simp only [i64_w, i32_w]; rw [c9b0]) | skip)
    have H' := Aside0.mk H
    clear H
    have hcz10_0 : w7.cell? ⟨gb203, 0, none⟩ = some (.int .i64 a0_0) := (blk_cell BK203.out 0).trans rfl
    have hcz10_1 : w7.cell? ⟨gb203, 1, none⟩ = some (.int .i64 a0_1) := (blk_cell BK203.out 1).trans rfl
    have hcz10_2 : w7.cell? ⟨gb203, 2, none⟩ = some (.int .i64 a0_2) := (blk_cell BK203.out 2).trans rfl
    have hfz10_0 := blk_frozen BK203.out 0
    have hfz10_1 := blk_frozen BK203.out 1
    have hfz10_2 := blk_frozen BK203.out 2
    go_wp2_with (first | ((with_reducible refine gate_callee (f := 15) rfl ?_); refine goesL_ (some 22) rfl rfl Try.func15 (by kernel_rfl) rfl #[.agg #[.int .i64 a0_0, .int .i64 a0_1, .int .i64 a0_2]] rfl (by (try simp only [List.map_toArray, List.map_cons, List.map_nil]); first | done | rfl | (simp only [List.length_drop, List.length_take]; rfl)) ?_; (with_reducible refine (osc_Check.calls a0_0 a0_1 a0_2 t205 _ A8.out).mono ?_); rintro e w11 ⟨rfl, hb⟩; refine ⟨_, rfl, ?_⟩; have n0_ := Aside0.mk (blk_below (g := gb203) (o := .cells #[.int .i64 a0_0, .int .i64 a0_1, .int .i64 a0_2] 23 (0, 0)) (by (with_reducible repeat (first | refine blk_drewN ?_ _ | refine blk_drew ?_ | refine blk_alloc ?_ _)); exact BK203.out) hb); have n1_ := Aside0.mk (below_step (by repeat (first | (with_reducible first | exact HB.out | apply below_alloc | apply pw_below_drewN | apply below_drew1 | refine below_set ?_ GE203.out) | exact HB.out)) hb); clear BK203; clear HB; have BK203 := n0_; have HB := n1_; clear n0_ n1_; (try clear hb); (try clear hb2); (try clear hk); (try clear hi)))
    go_meet
    case rel => exact ⟨_, (decide ((l1.length : Int) > 100)), (by first | rfl | (simp; done) | (simp [*]; done)), H', ⟨by first | omega | exact Nat.le_refl _⟩, ⟨by (with_reducible repeat (first | refine blk_drewN ?_ _ | refine blk_drew ?_ | refine blk_alloc ?_ _)); exact BK203.out⟩, ⟨by repeat (first | (with_reducible first | exact HB.out | apply below_alloc | apply pw_below_drewN | apply below_drew1 | refine below_set ?_ GE203.out) | exact HB.out)⟩⟩
   ·rw [if_neg c9] at H
    have c9b0 : (t205 == 0) = false := beq_eq_false_iff_ne.mpr c9
    have c9b1 : (t205 != 0) = true := bne_iff_ne.mpr c9
    (first | rw [c9b0] | (simp only [i64_w, i32_w]; rw [c9b0]) | skip)
    have H' := Aside0.mk H
    clear H
    have hcz12_0 : w7.cell? ⟨gb203, 0, none⟩ = some (.int .i64 a0_0) := (blk_cell BK203.out 0).trans rfl
    have hcz12_1 : w7.cell? ⟨gb203, 1, none⟩ = some (.int .i64 a0_1) := (blk_cell BK203.out 1).trans rfl
    have hcz12_2 : w7.cell? ⟨gb203, 2, none⟩ = some (.int .i64 a0_2) := (blk_cell BK203.out 2).trans rfl
    have hfz12_0 := blk_frozen BK203.out 0
    have hfz12_1 := blk_frozen BK203.out 1
    have hfz12_2 := blk_frozen BK203.out 2
    go_wp2_with (first | ((with_reducible refine gate_callee (f := 15) rfl ?_); refine goesL_ (some 22) rfl rfl Try.func15 (by kernel_rfl) rfl #[.agg #[.int .i64 a0_0, .int .i64 a0_1, .int .i64 a0_2]] rfl (by (try simp only [List.map_toArray, List.map_cons, List.map_nil]); first | done | rfl | (simp only [List.length_drop, List.length_take]; rfl)) ?_; (with_reducible refine (osc_Check.calls a0_0 a0_1 a0_2 t205 _ A8.out).mono ?_); rintro e w13 ⟨rfl, hb⟩; refine ⟨_, rfl, ?_⟩; have n0_ := Aside0.mk (blk_below (g := gb203) (o := .cells #[.int .i64 a0_0, .int .i64 a0_1, .int .i64 a0_2] 23 (0, 0)) (by (with_reducible repeat (first | refine blk_drewN ?_ _ | refine blk_drew ?_ | refine blk_alloc ?_ _)); exact BK203.out) hb); have n1_ := Aside0.mk (below_step (by repeat (first | (with_reducible first | exact HB.out | apply below_alloc | apply pw_below_drewN | apply below_drew1 | refine below_set ?_ GE203.out) | exact HB.out)) hb); clear BK203; clear HB; have BK203 := n0_; have HB := n1_; clear n0_ n1_; (try clear hb); (try clear hb2); (try clear hk); (try clear hi)))
    go_meet
    case rel => exact ⟨_, (true), (by first | rfl | (simp; done) | (simp [*]; done)), H', ⟨by first | omega | exact Nat.le_refl _⟩, ⟨by (with_reducible repeat (first | refine blk_drewN ?_ _ | refine blk_drew ?_ | refine blk_alloc ?_ _)); exact BK203.out⟩, ⟨by repeat (first | (with_reducible first | exact HB.out | apply below_alloc | apply pw_below_drewN | apply below_drew1 | refine below_set ?_ GE203.out) | exact HB.out)⟩⟩
  case rest =>
   clear HC5
   try clear c1
   try clear p2
   try clear c4
   try clear c5
   try clear c9
   try clear c9b0
   try clear c9b1
   try clear hcz10_0
   try clear hcz10_1
   try clear hcz10_2
   try clear hcz12_0
   try clear hcz12_1
   try clear hcz12_2
   try clear hfz10_0
   try clear hfz10_1
   try clear hfz10_2
   try clear hfz12_0
   try clear hfz12_1
   try clear hfz12_2
   obtain ⟨kq, x28_4, rfl, HA, HJ4, BK203, HB⟩ := hcut
   cases kq with
   | zero => exact absurd HA.out (by simp [palletlaw06_OscParts.j0])
   | succ kj4 =>
    have H := HA.out
    clear HA
    simp only [palletlaw06_OscParts.j0] at H
    by_cases c14 : x28_4 = true
    ·subst c14
     have H1 : (some true) = some r := by rw [if_pos rfl] at H; exact H
     clear H
     have H := H1
     clear H1
     obtain rfl := Option.some.inj H
     go_wp2
     go_ret
     exact ⟨by first | rfl | (simp [errW_none, errW_some] <;> rfl) | (simp [*, errW_none, errW_some] <;> rfl), by repeat (first | (with_reducible first | exact HB.out | apply below_alloc | apply pw_below_drewN | apply below_drew1 | refine below_set ?_ GE203.out) | exact HB.out)⟩
    ·replace c14 := Bool.eq_false_iff.mpr c14
     subst c14
     have H1 : (palletlaw06_OscParts.l0 kj4 l1 true 0 l1 (l1.length : Int) 0 a0_0 a0_1 a0_2) = some r := by rw [if_neg (show ¬ (false = true) by decide)] at H; exact H
     clear H
     have H := H1
     clear H1
     have H' := Aside0.mk H
     clear H
     go_wp2
     go_loopg [6, 32] kj4 (fun kq v6 v32 w' => ∃ (x6_2 : Int) (x32_2 : Int), v6 = .int .i64 x6_2 ∧ v32 = .int .i64 x32_2 ∧ Aside0 (palletlaw06_OscParts.l0 kq l1 true x6_2 l1 (l1.length : Int) x32_2 a0_0 a0_1 a0_2 = some r) ∧ Aside0 (kq ≤ kj4) ∧ Aside0 (w'.heap[gb203]? = some (.cells #[.int .i64 a0_0, .int .i64 a0_1, .int .i64 a0_2] 23 (0, 0))) ∧ Aside0 (Below w.heap.size w w'))
     case atStart => exact ⟨(0), (0), (by first | rfl | (simp; done) | (simp [*]; done)), (by first | rfl | (simp; done) | (simp [*]; done)), H', ⟨Nat.le_refl _⟩, ⟨by (with_reducible repeat (first | refine blk_drewN ?_ _ | refine blk_drew ?_ | refine blk_alloc ?_ _)); exact BK203.out⟩, ⟨by repeat (first | (with_reducible first | exact HB.out | apply below_alloc | apply pw_below_drewN | apply below_drew1 | refine below_set ?_ GE203.out) | exact HB.out)⟩⟩
     case round =>
      clear H'
      try clear c1
      try clear p2
      try clear c4
      try clear c5
      try clear c9
      try clear c9b0
      try clear c9b1
      try clear c14
      try clear hcz10_0
      try clear hcz10_1
      try clear hcz10_2
      try clear hcz12_0
      try clear hcz12_1
      try clear hcz12_2
      try clear hfz10_0
      try clear hfz10_1
      try clear hfz10_2
      try clear hfz12_0
      try clear hfz12_1
      try clear hfz12_2
      try clear p2
      obtain ⟨x6_2, x32_2, rfl, rfl, HA, HK2, BK203, HB⟩ := hrel
      cases gk with
      | zero => exact absurd HA.out (by simp [palletlaw06_OscParts.l0])
      | succ k2 =>
       have H := HA.out
       clear HA
       simp only [palletlaw06_OscParts.l0] at H
       by_cases c15 : x32_2 < (l1.length : Int)
       ·rw [if_pos c15] at H
        have c15b0 : decide (x32_2 < (l1.length : Int)) = true := decide_eq_true c15
        clear c15
        by_cases c16 : 0 ≤ x32_2
        ·rw [if_pos c16] at H
         have c16b0 : decide (0 ≤ x32_2) = true := decide_eq_true c16
         clear c16
         by_cases c17 : x32_2 < (l1.length : Int)
         ·rw [if_pos c17] at H
          have c17b0 : decide (x32_2 < (l1.length : Int)) = true := decide_eq_true c17
          clear c17
          by_cases c18 : (rd l1 x32_2) < 0
          ·rw [if_pos c18] at H
           have c18b0 : decide ((rd l1 x32_2) < 0) = true := decide_eq_true c18
           clear c18
           obtain rfl := Option.some.inj H
           have p206 : 0 ≤ (x32_2 : Int) := of_decide_eq_true (by first | (with_reducible assumption) | assumption)
           have q206 : x32_2 < (l1.length : Int) := of_decide_eq_true (by first | (with_reducible assumption) | assumption)
           obtain ⟨ad206, e206, hx206_0⟩ := Kd.at_int HR1.out x32_2 p206 q206
           cases e206
           replace hx206_0 := (HB.out.cell (World.block_lt_of_cell? w _ hx206_0)).trans hx206_0
           replace p206 := eq_true p206
           replace q206 := eq_true q206
           go_wp2
           go_ret
           exact ⟨by first | rfl | (simp [errW_none, errW_some] <;> rfl) | (simp [*, errW_none, errW_some] <;> rfl), by repeat (first | (with_reducible first | exact HB.out | apply below_alloc | apply pw_below_drewN | apply below_drew1 | refine below_set ?_ GE203.out) | exact HB.out)⟩
          ·rw [if_neg c18] at H
           have c18b0 : decide ((rd l1 x32_2) < 0) = false := decide_eq_false c18
           clear c18
           by_cases c19 : (rd l1 x32_2) > 8589934592
           ·rw [if_pos c19] at H
            have c19b0 : decide (8589934592 < (rd l1 x32_2)) = true := decide_eq_true c19
            clear c19
            obtain rfl := Option.some.inj H
            have p206 : 0 ≤ (x32_2 : Int) := of_decide_eq_true (by first | (with_reducible assumption) | assumption)
            have q206 : x32_2 < (l1.length : Int) := of_decide_eq_true (by first | (with_reducible assumption) | assumption)
            obtain ⟨ad206, e206, hx206_0⟩ := Kd.at_int HR1.out x32_2 p206 q206
            cases e206
            replace hx206_0 := (HB.out.cell (World.block_lt_of_cell? w _ hx206_0)).trans hx206_0
            replace p206 := eq_true p206
            replace q206 := eq_true q206
            go_wp2
            go_ret
            exact ⟨by first | rfl | (simp [errW_none, errW_some] <;> rfl) | (simp [*, errW_none, errW_some] <;> rfl), by repeat (first | (with_reducible first | exact HB.out | apply below_alloc | apply pw_below_drewN | apply below_drew1 | refine below_set ?_ GE203.out) | exact HB.out)⟩
           ·rw [if_neg c19] at H
            have c19b0 : decide (8589934592 < (rd l1 x32_2)) = false := decide_eq_false c19
            clear c19
            have H' := Aside0.mk H
            clear H
            have p206 : 0 ≤ (x32_2 : Int) := of_decide_eq_true (by first | (with_reducible assumption) | assumption)
            have q206 : x32_2 < (l1.length : Int) := of_decide_eq_true (by first | (with_reducible assumption) | assumption)
            obtain ⟨ad206, e206, hx206_0⟩ := Kd.at_int HR1.out x32_2 p206 q206
            cases e206
            replace hx206_0 := (HB.out.cell (World.block_lt_of_cell? w _ hx206_0)).trans hx206_0
            replace p206 := eq_true p206
            replace q206 := eq_true q206
            go_wp2
            go_roundg k2
            case measure => have := HJ4.out; have := HK2.out; omega
            case rel => exact ⟨(wrap64 (x6_2 + (rd l1 x32_2))), (wrap64 (x32_2 + 1)), (by first | rfl | (simp; done) | (simp [*]; done)), (by first | rfl | (simp; done) | (simp [*]; done)), H', ⟨by have := HJ4.out; have := HK2.out; omega⟩, ⟨by (with_reducible repeat (first | refine blk_drewN ?_ _ | refine blk_drew ?_ | refine blk_alloc ?_ _)); exact BK203.out⟩, ⟨by repeat (first | (with_reducible first | exact HB.out | apply below_alloc | apply pw_below_drewN | apply below_drew1 | refine below_set ?_ GE203.out) | exact HB.out)⟩⟩
         ·rw [if_neg c17] at H
          exact absurd H (by simp)
        ·rw [if_neg c16] at H
         exact absurd H (by simp)
       ·rw [if_neg c15] at H
        have c15b0 : decide (x32_2 < (l1.length : Int)) = false := decide_eq_false c15
        clear c15
        replace H := Option.bind_eq_some_iff.mp H
        obtain ⟨⟨t207, t210, t211, t212, t213⟩, A200, H⟩ := H
        replace H : ((osc_Run.f k2 a0_0 a0_1 a0_2 x6_2).bind fun bt215 => (if t213 = 0 then (palletlaw06_OscParts.j2 k2 l1 true t207 bt215.1 bt215.2.2.2.2 (bt215.2.2.2.2 != 0) t210 t211 t212 bt215.2.1 bt215.2.2.1 bt215.2.2.2.1) else (palletlaw06_OscParts.j2 k2 l1 true t207 bt215.1 bt215.2.2.2.2 true t210 t211 t212 bt215.2.1 bt215.2.2.1 bt215.2.2.2.1))) = some r := H
        have A20 := Aside0.mk A200
        clear A200
        replace H := Option.bind_eq_some_iff.mp H
        obtain ⟨⟨t215, t216, t217, t218, t219⟩, A210, H⟩ := H
        replace H : (if t213 = 0 then (palletlaw06_OscParts.j2 k2 l1 true t207 t215 t219 (t219 != 0) t210 t211 t212 t216 t217 t218) else (palletlaw06_OscParts.j2 k2 l1 true t207 t215 t219 true t210 t211 t212 t216 t217 t218)) = some r := H
        have A21 := Aside0.mk A210
        clear A210
        have HC22 := Aside0.mk H
        clear H
        have hcz23_0 : wr.cell? ⟨gb203, 0, none⟩ = some (.int .i64 a0_0) := (blk_cell BK203.out 0).trans rfl
        have hcz23_1 : wr.cell? ⟨gb203, 1, none⟩ = some (.int .i64 a0_1) := (blk_cell BK203.out 1).trans rfl
        have hcz23_2 : wr.cell? ⟨gb203, 2, none⟩ = some (.int .i64 a0_2) := (blk_cell BK203.out 2).trans rfl
        have hfz23_0 := blk_frozen BK203.out 0
        have hfz23_1 := blk_frozen BK203.out 1
        have hfz23_2 := blk_frozen BK203.out 2
        go_upto_region 16 with (first | ((with_reducible refine gate_callee (f := 18) rfl ?_); refine goesL_ (some 50) rfl rfl Try.func18 (by kernel_rfl) rfl #[.agg #[.int .i64 a0_0, .int .i64 a0_1, .int .i64 a0_2], .slice A1 l1.length c1] rfl (by (try simp only [List.map_toArray, List.map_cons, List.map_nil]); first | done | rfl | (simp only [List.length_drop, List.length_take]; rfl)) ?_; (with_reducible refine (osc_Many.calls k2 a0_0 a0_1 a0_2 _ _ l1 t207 t210 t211 t212 t213 _ ?side1 ?side2 A20.out).mono ?_); (case side1 => repeat (first | exact (Kd.C_below HR1.out HB.out) | (with_reducible refine Kd.C_alloc ?_ _) | (with_reducible refine Kd.C_drewN ?_ _) | (with_reducible refine Kd.C_drew ?_))); (case side2 => exact HC1.out); rintro e w24 ⟨v208, rfl, ho0, hb⟩; refine ⟨_, rfl, ?_⟩; have n0_ := Aside0.mk (Kd.R_lower ho0 (below_size (by repeat (first | (with_reducible first | exact HB.out | apply below_alloc | apply pw_below_drewN | apply below_drew1 | refine below_set ?_ GE203.out) | exact HB.out)))); have n1_ := Aside0.mk (blk_below (g := gb203) (o := .cells #[.int .i64 a0_0, .int .i64 a0_1, .int .i64 a0_2] 23 (0, 0)) (by (with_reducible repeat (first | refine blk_drewN ?_ _ | refine blk_drew ?_ | refine blk_alloc ?_ _)); exact BK203.out) hb); have n2_ := Aside0.mk (below_step (by repeat (first | (with_reducible first | exact HB.out | apply below_alloc | apply pw_below_drewN | apply below_drew1 | refine below_set ?_ GE203.out) | exact HB.out)) hb); clear BK203; clear HB; have HO209 := n0_; have BK203 := n1_; have HB := n2_; clear n0_ n1_ n2_; (try clear hb); (try clear hb2); (try clear hk); (try clear hi); (try clear ho0)) | ((with_reducible refine gate_dst (N := 10) rfl ?_); (try (refine gate_guard (by rfl) ?_; dsimp only)); refine box_event ?hg (N := 10) ?hd (cs := #[.int .i64 0, .int .i64 0, .int .i64 0]) (t := 23) ?hr ?_; (case hd => rfl); (case hg => rfl); (case hr => first | (go_simp; done) | (go_simp; rfl)); intro gb214 hg w25 hbox hb; have n0_ := Aside0.mk (Kd.R_below (by (with_reducible repeat (first | apply Kd.R_alloc | apply Kd.R_drewN | apply Kd.R_drew)); exact HO209.out) hb); have n1_ := Aside0.mk (blk_below (g := gb203) (o := .cells #[.int .i64 a0_0, .int .i64 a0_1, .int .i64 a0_2] 23 (0, 0)) (by (with_reducible repeat (first | refine blk_drewN ?_ _ | refine blk_drew ?_ | refine blk_alloc ?_ _)); exact BK203.out) hb); have n2_ := Aside0.mk (below_step (by repeat (first | (with_reducible first | exact HB.out | apply below_alloc | apply pw_below_drewN | apply below_drew1 | refine below_set ?_ GE203.out) | exact HB.out)) hb); have n3_ := Aside0.mk (hbox); have n4_ := Aside0.mk ((by rw [hg]; exact (below_size (by repeat (first | (with_reducible first | exact HB.out | apply below_alloc | apply pw_below_drewN | apply below_drew1 | refine below_set ?_ GE203.out) | exact HB.out))) : w.heap.size ≤ gb214)); have n5_ := Aside0.mk ((by rw [hg]; exact (below_size (by repeat (first | (with_reducible first | exact HB.out | apply below_alloc | apply pw_below_drewN | apply below_drew1 | refine below_set ?_ GE203.out) | exact HB.out))) : w.heap.size ≤ gb214)); have n6_ := Aside0.mk ((by rw [hg]; exact Nat.ne_of_lt (blk_lt (g := gb203) (o := .cells #[.int .i64 a0_0, .int .i64 a0_1, .int .i64 a0_2] 23 (0, 0)) (by (with_reducible repeat (first | refine blk_drewN ?_ _ | refine blk_drew ?_ | refine blk_alloc ?_ _)); exact BK203.out)) : gb203 ≠ gb214)); have n7_ := Aside0.mk ((by rw [hg]; exact Nat.ne_of_gt (blk_lt (g := gb203) (o := .cells #[.int .i64 a0_0, .int .i64 a0_1, .int .i64 a0_2] 23 (0, 0)) (by (with_reducible repeat (first | refine blk_drewN ?_ _ | refine blk_drew ?_ | refine blk_alloc ?_ _)); exact BK203.out)) : gb214 ≠ gb203)); clear HO209; clear BK203; clear HB; have HO209 := n0_; have BK203 := n1_; have HB := n2_; have BK214 := n3_; have GW214 := n4_; have GE214 := n5_; have NB203_214 := n6_; have NB214_203 := n7_; clear n0_ n1_ n2_ n3_ n4_ n5_ n6_ n7_; clear hb hbox hg; have hnb26 := NB214_203.out; have hnc26 := NB203_214.out; have hcz27_0 : w25.cell? ⟨gb214, 0, none⟩ = some (.int .i64 0) := (blk_cell BK214.out 0).trans rfl; have hcz27_1 : w25.cell? ⟨gb214, 1, none⟩ = some (.int .i64 0) := (blk_cell BK214.out 1).trans rfl; have hcz27_2 : w25.cell? ⟨gb214, 2, none⟩ = some (.int .i64 0) := (blk_cell BK214.out 2).trans rfl; have hfz27_0 := blk_frozen BK214.out 0; have hfz27_1 := blk_frozen BK214.out 1; have hfz27_2 := blk_frozen BK214.out 2; have hcz28_0 : w25.cell? ⟨gb203, 0, none⟩ = some (.int .i64 a0_0) := (blk_cell BK203.out 0).trans rfl; have hcz28_1 : w25.cell? ⟨gb203, 1, none⟩ = some (.int .i64 a0_1) := (blk_cell BK203.out 1).trans rfl; have hcz28_2 : w25.cell? ⟨gb203, 2, none⟩ = some (.int .i64 a0_2) := (blk_cell BK203.out 2).trans rfl; have hfz28_0 := blk_frozen BK203.out 0; have hfz28_1 := blk_frozen BK203.out 1; have hfz28_2 := blk_frozen BK203.out 2) | ((with_reducible refine gate_callee (f := 16) rfl ?_); refine goesL_ (some 57) rfl rfl Try.func16 (by kernel_rfl) rfl #[.agg #[.int .i64 a0_0, .int .i64 a0_1, .int .i64 a0_2], .int .i64 x6_2] rfl (by (try simp only [List.map_toArray, List.map_cons, List.map_nil]); first | done | rfl | (simp only [List.length_drop, List.length_take]; rfl)) ?_; (with_reducible refine (osc_Run.calls k2 a0_0 a0_1 a0_2 x6_2 t215 t216 t217 t218 t219 _ A21.out).mono ?_); rintro e w29 ⟨rfl, hb⟩; refine ⟨_, rfl, ?_⟩; have n0_ := Aside0.mk (Kd.R_below (by (with_reducible repeat (first | apply Kd.R_alloc | apply Kd.R_drewN | apply Kd.R_drew)); exact (Kd.R_mono (Kd.R_far (p := ⟨gb214, 2, none⟩) (Kd.R_far (p := ⟨gb214, 1, none⟩) (Kd.R_far (p := ⟨gb214, 0, none⟩) (Kd.R_types HO209.out BK214.out (by decide)) (fun _ hk => hk.2) (.int .i64 t210)) (fun _ hk => hk.2) (.int .i64 t211)) (fun _ hk => hk.2) (.int .i64 t212)) (fun _ h_ => h_.1))) hb); have n1_ := Aside0.mk (blk_below (g := gb203) (o := .cells #[.int .i64 a0_0, .int .i64 a0_1, .int .i64 a0_2] 23 (0, 0)) (by (with_reducible repeat (first | refine blk_drewN ?_ _ | refine blk_drew ?_ | refine blk_alloc ?_ _)); refine blk_far ?_ NB203_214.out _; (with_reducible repeat (first | refine blk_drewN ?_ _ | refine blk_drew ?_ | refine blk_alloc ?_ _)); refine blk_far ?_ NB203_214.out _; (with_reducible repeat (first | refine blk_drewN ?_ _ | refine blk_drew ?_ | refine blk_alloc ?_ _)); refine blk_far ?_ NB203_214.out _; (with_reducible repeat (first | refine blk_drewN ?_ _ | refine blk_drew ?_ | refine blk_alloc ?_ _)); exact BK203.out) hb); have n2_ := Aside0.mk (blk_below (g := gb214) (o := .cells #[.int .i64 t210, .int .i64 t211, .int .i64 t212] 23 (0, 0)) (by (with_reducible repeat (first | refine blk_drewN ?_ _ | refine blk_drew ?_ | refine blk_alloc ?_ _)); refine blk_put (cs := #[.int .i64 t210, .int .i64 t211, .int .i64 0]) ?_ 2 _ rfl; (with_reducible repeat (first | refine blk_drewN ?_ _ | refine blk_drew ?_ | refine blk_alloc ?_ _)); refine blk_put (cs := #[.int .i64 t210, .int .i64 0, .int .i64 0]) ?_ 1 _ rfl; (with_reducible repeat (first | refine blk_drewN ?_ _ | refine blk_drew ?_ | refine blk_alloc ?_ _)); refine blk_put (cs := #[.int .i64 0, .int .i64 0, .int .i64 0]) ?_ 0 _ rfl; (with_reducible repeat (first | refine blk_drewN ?_ _ | refine blk_drew ?_ | refine blk_alloc ?_ _)); exact BK214.out) hb); have n3_ := Aside0.mk (below_step (by repeat (first | (with_reducible first | exact HB.out | apply below_alloc | apply pw_below_drewN | apply below_drew1 | refine below_set ?_ GE203.out | refine below_set ?_ GE214.out) | exact HB.out)) hb); clear HO209; clear BK203; clear BK214; clear HB; have HO209 := n0_; have BK203 := n1_; have BK214 := n2_; have HB := n3_; clear n0_ n1_ n2_ n3_; (try clear hb); (try clear hb2); (try clear hk); (try clear hi)) | ((with_reducible refine gate_dst (N := 13) rfl ?_); (try (refine gate_guard (by rfl) ?_; dsimp only)); refine box_event ?hg (N := 13) ?hd (cs := #[.int .i64 0, .int .i64 0, .int .i64 0]) (t := 23) ?hr ?_; (case hd => rfl); (case hg => rfl); (case hr => first | (go_simp; done) | (go_simp; rfl)); intro gb220 hg w30 hbox hb; have n0_ := Aside0.mk (Kd.R_below (by (with_reducible repeat (first | apply Kd.R_alloc | apply Kd.R_drewN | apply Kd.R_drew)); exact HO209.out) hb); have n1_ := Aside0.mk (blk_below (g := gb203) (o := .cells #[.int .i64 a0_0, .int .i64 a0_1, .int .i64 a0_2] 23 (0, 0)) (by (with_reducible repeat (first | refine blk_drewN ?_ _ | refine blk_drew ?_ | refine blk_alloc ?_ _)); exact BK203.out) hb); have n2_ := Aside0.mk (blk_below (g := gb214) (o := .cells #[.int .i64 t210, .int .i64 t211, .int .i64 t212] 23 (0, 0)) (by (with_reducible repeat (first | refine blk_drewN ?_ _ | refine blk_drew ?_ | refine blk_alloc ?_ _)); exact BK214.out) hb); have n3_ := Aside0.mk (below_step (by repeat (first | (with_reducible first | exact HB.out | apply below_alloc | apply pw_below_drewN | apply below_drew1 | refine below_set ?_ GE203.out | refine below_set ?_ GE214.out) | exact HB.out)) hb); have n4_ := Aside0.mk (hbox); have n5_ := Aside0.mk ((by rw [hg]; exact (below_size (by repeat (first | (with_reducible first | exact HB.out | apply below_alloc | apply pw_below_drewN | apply below_drew1 | refine below_set ?_ GE203.out | refine below_set ?_ GE214.out) | exact HB.out))) : w.heap.size ≤ gb220)); have n6_ := Aside0.mk ((by rw [hg]; exact (below_size (by repeat (first | (with_reducible first | exact HB.out | apply below_alloc | apply pw_below_drewN | apply below_drew1 | refine below_set ?_ GE203.out | refine below_set ?_ GE214.out) | exact HB.out))) : w.heap.size ≤ gb220)); have n7_ := Aside0.mk ((by rw [hg]; exact Nat.ne_of_lt (blk_lt (g := gb203) (o := .cells #[.int .i64 a0_0, .int .i64 a0_1, .int .i64 a0_2] 23 (0, 0)) (by (with_reducible repeat (first | refine blk_drewN ?_ _ | refine blk_drew ?_ | refine blk_alloc ?_ _)); exact BK203.out)) : gb203 ≠ gb220)); have n8_ := Aside0.mk ((by rw [hg]; exact Nat.ne_of_gt (blk_lt (g := gb203) (o := .cells #[.int .i64 a0_0, .int .i64 a0_1, .int .i64 a0_2] 23 (0, 0)) (by (with_reducible repeat (first | refine blk_drewN ?_ _ | refine blk_drew ?_ | refine blk_alloc ?_ _)); exact BK203.out)) : gb220 ≠ gb203)); have n9_ := Aside0.mk ((by rw [hg]; exact Nat.ne_of_lt (blk_lt (g := gb214) (o := .cells #[.int .i64 t210, .int .i64 t211, .int .i64 t212] 23 (0, 0)) (by (with_reducible repeat (first | refine blk_drewN ?_ _ | refine blk_drew ?_ | refine blk_alloc ?_ _)); exact BK214.out)) : gb214 ≠ gb220)); have n10_ := Aside0.mk ((by rw [hg]; exact Nat.ne_of_gt (blk_lt (g := gb214) (o := .cells #[.int .i64 t210, .int .i64 t211, .int .i64 t212] 23 (0, 0)) (by (with_reducible repeat (first | refine blk_drewN ?_ _ | refine blk_drew ?_ | refine blk_alloc ?_ _)); exact BK214.out)) : gb220 ≠ gb214)); clear HO209; clear BK203; clear BK214; clear HB; have HO209 := n0_; have BK203 := n1_; have BK214 := n2_; have HB := n3_; have BK220 := n4_; have GW220 := n5_; have GE220 := n6_; have NB203_220 := n7_; have NB220_203 := n8_; have NB214_220 := n9_; have NB220_214 := n10_; clear n0_ n1_ n2_ n3_ n4_ n5_ n6_ n7_ n8_ n9_ n10_; clear hb hbox hg; have hnb31 := NB220_203.out; have hnc31 := NB203_220.out; have hnb32 := NB220_214.out; have hnc32 := NB214_220.out; have hcz33_0 : w30.cell? ⟨gb220, 0, none⟩ = some (.int .i64 0) := (blk_cell BK220.out 0).trans rfl; have hcz33_1 : w30.cell? ⟨gb220, 1, none⟩ = some (.int .i64 0) := (blk_cell BK220.out 1).trans rfl; have hcz33_2 : w30.cell? ⟨gb220, 2, none⟩ = some (.int .i64 0) := (blk_cell BK220.out 2).trans rfl; have hfz33_0 := blk_frozen BK220.out 0; have hfz33_1 := blk_frozen BK220.out 1; have hfz33_2 := blk_frozen BK220.out 2))
        (try simp only [Act.put, List.setIfInBounds_toArray, List.set_cons_zero, List.set_cons_succ])
        go_cut [66] (fun v66 wc => ∃ (kq : Nat) (x66_21 : Bool), v66 = .bool x66_21 ∧ Aside0 (palletlaw06_OscParts.j2 kq l1 true t207 t215 t219 x66_21 t210 t211 t212 t216 t217 t218 = some r) ∧ Aside0 (kq ≤ k2) ∧ Aside0 (Kd.R (Kd.int .i64) 2 wc w.heap.size (fun _ => True) v208 t207) ∧ Aside0 (wc.heap[gb203]? = some (.cells #[.int .i64 a0_0, .int .i64 a0_1, .int .i64 a0_2] 23 (0, 0))) ∧ Aside0 (wc.heap[gb214]? = some (.cells #[.int .i64 t210, .int .i64 t211, .int .i64 t212] 23 (0, 0))) ∧ Aside0 (wc.heap[gb220]? = some (.cells #[.int .i64 t216, .int .i64 t217, .int .i64 t218] 23 (0, 0))) ∧ Aside0 (Below w.heap.size w wc))
        case first =>
         have H := HC22.out
         clear HC22
         by_cases c34 : t213 = 0
         ·rw [if_pos c34] at H
          have c34b0 : (t213 == 0) = true := beq_iff_eq.mpr c34
          have c34b1 : (t213 != 0) = false := bne_eq_false_iff_eq.mpr c34
          clear c34
          (first | rw [c34b0] | (simp only [i64_w, i32_w]; rw [c34b0]) | skip)
          have H' := Aside0.mk H
          clear H
          go_wp2
          go_meet
          case rel => exact ⟨_, ((t219 != 0)), (by first | rfl | (simp; done) | (simp [*]; done)), H', ⟨by have := HJ4.out; have := HK2.out; first | omega | exact Nat.le_refl _⟩, ⟨by (with_reducible repeat (first | apply Kd.R_alloc | apply Kd.R_drewN | apply Kd.R_drew)); exact Kd.R_mono (Kd.R_far (p := ⟨gb220, 2, none⟩) (Kd.R_far (p := ⟨gb220, 1, none⟩) (Kd.R_far (p := ⟨gb220, 0, none⟩) (Kd.R_types HO209.out BK220.out (by decide)) (fun _ hk => hk.2) (.int .i64 t216)) (fun _ hk => hk.2) (.int .i64 t217)) (fun _ hk => hk.2) (.int .i64 t218)) (fun _ hk => trivial)⟩, ⟨by (with_reducible repeat (first | refine blk_drewN ?_ _ | refine blk_drew ?_ | refine blk_alloc ?_ _)); refine blk_far ?_ NB203_220.out _; (with_reducible repeat (first | refine blk_drewN ?_ _ | refine blk_drew ?_ | refine blk_alloc ?_ _)); refine blk_far ?_ NB203_220.out _; (with_reducible repeat (first | refine blk_drewN ?_ _ | refine blk_drew ?_ | refine blk_alloc ?_ _)); refine blk_far ?_ NB203_220.out _; (with_reducible repeat (first | refine blk_drewN ?_ _ | refine blk_drew ?_ | refine blk_alloc ?_ _)); exact BK203.out⟩, ⟨by (with_reducible repeat (first | refine blk_drewN ?_ _ | refine blk_drew ?_ | refine blk_alloc ?_ _)); refine blk_far ?_ NB214_220.out _; (with_reducible repeat (first | refine blk_drewN ?_ _ | refine blk_drew ?_ | refine blk_alloc ?_ _)); refine blk_far ?_ NB214_220.out _; (with_reducible repeat (first | refine blk_drewN ?_ _ | refine blk_drew ?_ | refine blk_alloc ?_ _)); refine blk_far ?_ NB214_220.out _; (with_reducible repeat (first | refine blk_drewN ?_ _ | refine blk_drew ?_ | refine blk_alloc ?_ _)); exact BK214.out⟩, ⟨by (with_reducible repeat (first | refine blk_drewN ?_ _ | refine blk_drew ?_ | refine blk_alloc ?_ _)); refine blk_put (cs := #[.int .i64 t216, .int .i64 t217, .int .i64 0]) ?_ 2 _ rfl; (with_reducible repeat (first | refine blk_drewN ?_ _ | refine blk_drew ?_ | refine blk_alloc ?_ _)); refine blk_put (cs := #[.int .i64 t216, .int .i64 0, .int .i64 0]) ?_ 1 _ rfl; (with_reducible repeat (first | refine blk_drewN ?_ _ | refine blk_drew ?_ | refine blk_alloc ?_ _)); refine blk_put (cs := #[.int .i64 0, .int .i64 0, .int .i64 0]) ?_ 0 _ rfl; (with_reducible repeat (first | refine blk_drewN ?_ _ | refine blk_drew ?_ | refine blk_alloc ?_ _)); exact BK220.out⟩, ⟨by repeat (first | (with_reducible first | exact HB.out | apply below_alloc | apply pw_below_drewN | apply below_drew1 | refine below_set ?_ GE203.out | refine below_set ?_ GE214.out | refine below_set ?_ GE220.out) | exact HB.out)⟩⟩
         ·rw [if_neg c34] at H
          have c34b0 : (t213 == 0) = false := beq_eq_false_iff_ne.mpr c34
          have c34b1 : (t213 != 0) = true := bne_iff_ne.mpr c34
          (first | rw [c34b0] | (simp only [i64_w, i32_w]; rw [c34b0]) | skip)
          have H' := Aside0.mk H
          clear H
          go_wp2
          go_meet
          case rel => exact ⟨_, (true), (by first | rfl | (simp; done) | (simp [*]; done)), H', ⟨by have := HJ4.out; have := HK2.out; first | omega | exact Nat.le_refl _⟩, ⟨by (with_reducible repeat (first | apply Kd.R_alloc | apply Kd.R_drewN | apply Kd.R_drew)); exact Kd.R_mono (Kd.R_far (p := ⟨gb220, 2, none⟩) (Kd.R_far (p := ⟨gb220, 1, none⟩) (Kd.R_far (p := ⟨gb220, 0, none⟩) (Kd.R_types HO209.out BK220.out (by decide)) (fun _ hk => hk.2) (.int .i64 t216)) (fun _ hk => hk.2) (.int .i64 t217)) (fun _ hk => hk.2) (.int .i64 t218)) (fun _ hk => trivial)⟩, ⟨by (with_reducible repeat (first | refine blk_drewN ?_ _ | refine blk_drew ?_ | refine blk_alloc ?_ _)); refine blk_far ?_ NB203_220.out _; (with_reducible repeat (first | refine blk_drewN ?_ _ | refine blk_drew ?_ | refine blk_alloc ?_ _)); refine blk_far ?_ NB203_220.out _; (with_reducible repeat (first | refine blk_drewN ?_ _ | refine blk_drew ?_ | refine blk_alloc ?_ _)); refine blk_far ?_ NB203_220.out _; (with_reducible repeat (first | refine blk_drewN ?_ _ | refine blk_drew ?_ | refine blk_alloc ?_ _)); exact BK203.out⟩, ⟨by (with_reducible repeat (first | refine blk_drewN ?_ _ | refine blk_drew ?_ | refine blk_alloc ?_ _)); refine blk_far ?_ NB214_220.out _; (with_reducible repeat (first | refine blk_drewN ?_ _ | refine blk_drew ?_ | refine blk_alloc ?_ _)); refine blk_far ?_ NB214_220.out _; (with_reducible repeat (first | refine blk_drewN ?_ _ | refine blk_drew ?_ | refine blk_alloc ?_ _)); refine blk_far ?_ NB214_220.out _; (with_reducible repeat (first | refine blk_drewN ?_ _ | refine blk_drew ?_ | refine blk_alloc ?_ _)); exact BK214.out⟩, ⟨by (with_reducible repeat (first | refine blk_drewN ?_ _ | refine blk_drew ?_ | refine blk_alloc ?_ _)); refine blk_put (cs := #[.int .i64 t216, .int .i64 t217, .int .i64 0]) ?_ 2 _ rfl; (with_reducible repeat (first | refine blk_drewN ?_ _ | refine blk_drew ?_ | refine blk_alloc ?_ _)); refine blk_put (cs := #[.int .i64 t216, .int .i64 0, .int .i64 0]) ?_ 1 _ rfl; (with_reducible repeat (first | refine blk_drewN ?_ _ | refine blk_drew ?_ | refine blk_alloc ?_ _)); refine blk_put (cs := #[.int .i64 0, .int .i64 0, .int .i64 0]) ?_ 0 _ rfl; (with_reducible repeat (first | refine blk_drewN ?_ _ | refine blk_drew ?_ | refine blk_alloc ?_ _)); exact BK220.out⟩, ⟨by repeat (first | (with_reducible first | exact HB.out | apply below_alloc | apply pw_below_drewN | apply below_drew1 | refine below_set ?_ GE203.out | refine below_set ?_ GE214.out | refine below_set ?_ GE220.out) | exact HB.out)⟩⟩
        case rest =>
         clear HC22
         try clear c1
         try clear c2
         try clear p2
         try clear q2
         try clear hx2
         try clear c3
         try clear c4
         try clear c5
         try clear p6
         try clear c9
         try clear c9b0
         try clear c9b1
         try clear c14
         try clear c15
         try clear c15b0
         try clear c16
         try clear c16b0
         try clear c17
         try clear c17b0
         try clear c18
         try clear c18b0
         try clear c19
         try clear c19b0
         try clear p20
         try clear q20
         try clear hx20
         try clear c26
         try clear c31
         try clear c32
         try clear c34
         try clear c34b0
         try clear c34b1
         try clear hcz10_0
         try clear hcz10_1
         try clear hcz10_2
         try clear hcz12_0
         try clear hcz12_1
         try clear hcz12_2
         try clear hcz23_0
         try clear hcz23_1
         try clear hcz23_2
         try clear hcz27_0
         try clear hcz27_1
         try clear hcz27_2
         try clear hcz28_0
         try clear hcz28_1
         try clear hcz28_2
         try clear hcz33_0
         try clear hcz33_1
         try clear hcz33_2
         try clear hfz10_0
         try clear hfz10_1
         try clear hfz10_2
         try clear hfz12_0
         try clear hfz12_1
         try clear hfz12_2
         try clear hfz23_0
         try clear hfz23_1
         try clear hfz23_2
         try clear hfz27_0
         try clear hfz27_1
         try clear hfz27_2
         try clear hfz28_0
         try clear hfz28_1
         try clear hfz28_2
         try clear hfz33_0
         try clear hfz33_1
         try clear hfz33_2
         try clear hx206_0
         try clear p2
         try clear p206
         try clear q206
         obtain ⟨kq, x66_21, rfl, HA, HJ21, HO_9, BK203, BK214, BK220, HB⟩ := hcut
         cases kq with
         | zero => exact absurd HA.out (by simp [palletlaw06_OscParts.j2])
         | succ kj21 =>
          have H := HA.out
          clear HA
          simp only [palletlaw06_OscParts.j2] at H
          by_cases c35 : x66_21 = true
          ·subst c35
           have H1 : (if true = true then (some (t219 == 2)) else (some false)) = some r := by rw [if_pos rfl] at H; exact H
           clear H
           have H := H1
           clear H1
           have H1 : (some (t219 == 2)) = some r := by first | (rw [if_pos rfl] at H; exact H) | exact H
           clear H
           have H := H1
           clear H1
           obtain rfl := Option.some.inj H
           go_wp2
           go_ret
           exact ⟨by first | rfl | (simp [errW_none, errW_some] <;> rfl) | (simp [*, errW_none, errW_some] <;> rfl), by repeat (first | (with_reducible first | exact HB.out | apply below_alloc | apply pw_below_drewN | apply below_drew1 | refine below_set ?_ GE203.out | refine below_set ?_ GE214.out | refine below_set ?_ GE220.out) | exact HB.out)⟩
          ·replace c35 := Bool.eq_false_iff.mpr c35
           subst c35
           have H1 : (palletlaw06_OscParts.l1 kj21 l1 true t207 t215 0 t207 (t207.length : Int) 0 t210 t211 t212 t216 t217 t218) = some r := by rw [if_neg (show ¬ (false = true) by decide)] at H; exact H
           clear H
           have H := H1
           clear H1
           have H' := Aside0.mk H
           clear H
           obtain ⟨Ao36, co36, eo36⟩ := Kd.R_slice HO_9.out
           subst eo36
           go_wp2
           go_loopg [15, 74] kj21 (fun kq v15 v74 w' => ∃ (x15_4 : Int) (x74_4 : Int), v15 = .int .i64 x15_4 ∧ v74 = .int .i64 x74_4 ∧ Aside0 (palletlaw06_OscParts.l1 kq l1 true t207 t215 x15_4 t207 (t207.length : Int) x74_4 t210 t211 t212 t216 t217 t218 = some r) ∧ Aside0 (kq ≤ kj21) ∧ Aside0 (Kd.R (Kd.int .i64) 2 w' w.heap.size (fun _ => True) (.slice Ao36 t207.length co36) t207) ∧ Aside0 (Kd.R (Kd.int .i64) 2 w' w.heap.size (fun _ => True) (.slice Ao36 t207.length co36) t207) ∧ Aside0 (w'.heap[gb203]? = some (.cells #[.int .i64 a0_0, .int .i64 a0_1, .int .i64 a0_2] 23 (0, 0))) ∧ Aside0 (w'.heap[gb214]? = some (.cells #[.int .i64 t210, .int .i64 t211, .int .i64 t212] 23 (0, 0))) ∧ Aside0 (w'.heap[gb220]? = some (.cells #[.int .i64 t216, .int .i64 t217, .int .i64 t218] 23 (0, 0))) ∧ Aside0 (Below w.heap.size w w'))
           case atStart => exact ⟨(0), (0), (by first | rfl | (simp; done) | (simp [*]; done)), (by first | rfl | (simp; done) | (simp [*]; done)), H', ⟨Nat.le_refl _⟩, ⟨by (with_reducible repeat (first | apply Kd.R_alloc | apply Kd.R_drewN | apply Kd.R_drew)); exact HO_9.out⟩, ⟨by (with_reducible repeat (first | apply Kd.R_alloc | apply Kd.R_drewN | apply Kd.R_drew)); exact HO_9.out⟩, ⟨by (with_reducible repeat (first | refine blk_drewN ?_ _ | refine blk_drew ?_ | refine blk_alloc ?_ _)); exact BK203.out⟩, ⟨by (with_reducible repeat (first | refine blk_drewN ?_ _ | refine blk_drew ?_ | refine blk_alloc ?_ _)); exact BK214.out⟩, ⟨by (with_reducible repeat (first | refine blk_drewN ?_ _ | refine blk_drew ?_ | refine blk_alloc ?_ _)); exact BK220.out⟩, ⟨by repeat (first | (with_reducible first | exact HB.out | apply below_alloc | apply pw_below_drewN | apply below_drew1 | refine below_set ?_ GE203.out | refine below_set ?_ GE214.out | refine below_set ?_ GE220.out) | exact HB.out)⟩⟩
           case round =>
            clear H'
            try clear c1
            try clear c2
            try clear p2
            try clear q2
            try clear hx2
            try clear c3
            try clear c4
            try clear c5
            try clear p6
            try clear c9
            try clear c9b0
            try clear c9b1
            try clear c14
            try clear c15
            try clear c15b0
            try clear c16
            try clear c16b0
            try clear c17
            try clear c17b0
            try clear c18
            try clear c18b0
            try clear c19
            try clear c19b0
            try clear p20
            try clear q20
            try clear hx20
            try clear c26
            try clear c31
            try clear c32
            try clear c34
            try clear c34b0
            try clear c34b1
            try clear c35
            try clear hcz10_0
            try clear hcz10_1
            try clear hcz10_2
            try clear hcz12_0
            try clear hcz12_1
            try clear hcz12_2
            try clear hcz23_0
            try clear hcz23_1
            try clear hcz23_2
            try clear hcz27_0
            try clear hcz27_1
            try clear hcz27_2
            try clear hcz28_0
            try clear hcz28_1
            try clear hcz28_2
            try clear hcz33_0
            try clear hcz33_1
            try clear hcz33_2
            try clear hfz10_0
            try clear hfz10_1
            try clear hfz10_2
            try clear hfz12_0
            try clear hfz12_1
            try clear hfz12_2
            try clear hfz23_0
            try clear hfz23_1
            try clear hfz23_2
            try clear hfz27_0
            try clear hfz27_1
            try clear hfz27_2
            try clear hfz28_0
            try clear hfz28_1
            try clear hfz28_2
            try clear hfz33_0
            try clear hfz33_1
            try clear hfz33_2
            try clear hx206_0
            try clear p2
            try clear p20
            try clear p206
            try clear p6
            try clear q2
            try clear q20
            try clear q206
            obtain ⟨x15_4, x74_4, rfl, rfl, HA, HK4, HO_9, HO_72, BK203, BK214, BK220, HB⟩ := hrel
            cases gk with
            | zero => exact absurd HA.out (by simp [palletlaw06_OscParts.l1])
            | succ k4 =>
             have H := HA.out
             clear HA
             simp only [palletlaw06_OscParts.l1] at H
             by_cases c37 : x74_4 < (t207.length : Int)
             ·rw [if_pos c37] at H
              have c37b0 : decide (x74_4 < (t207.length : Int)) = true := decide_eq_true c37
              clear c37
              by_cases c38 : 0 ≤ x74_4
              ·rw [if_pos c38] at H
               have c38b0 : decide (0 ≤ x74_4) = true := decide_eq_true c38
               clear c38
               by_cases c39 : x74_4 < (t207.length : Int)
               ·rw [if_pos c39] at H
                have c39b0 : decide (x74_4 < (t207.length : Int)) = true := decide_eq_true c39
                clear c39
                have H' := Aside0.mk H
                clear H
                have p221 : 0 ≤ (x74_4 : Int) := of_decide_eq_true (by first | (with_reducible assumption) | assumption)
                have q221 : x74_4 < (t207.length : Int) := of_decide_eq_true (by first | (with_reducible assumption) | assumption)
                obtain ⟨ad221, e221, hx221_0⟩ := Kd.at_int (Kd.R_reads' HO_72.out).2.2 x74_4 p221 q221
                cases e221
                replace p221 := eq_true p221
                replace q221 := eq_true q221
                go_wp2
                go_roundg k4
                case measure => have := HJ4.out; have := HK2.out; have := HJ21.out; have := HK4.out; omega
                case rel => exact ⟨(wrap64 (x15_4 + (rd t207 x74_4))), (wrap64 (x74_4 + 1)), (by first | rfl | (simp; done) | (simp [*]; done)), (by first | rfl | (simp; done) | (simp [*]; done)), H', ⟨by have := HJ4.out; have := HK2.out; have := HJ21.out; have := HK4.out; omega⟩, ⟨by (with_reducible repeat (first | apply Kd.R_alloc | apply Kd.R_drewN | apply Kd.R_drew)); exact HO_9.out⟩, ⟨by (with_reducible repeat (first | apply Kd.R_alloc | apply Kd.R_drewN | apply Kd.R_drew)); exact HO_72.out⟩, ⟨by (with_reducible repeat (first | refine blk_drewN ?_ _ | refine blk_drew ?_ | refine blk_alloc ?_ _)); exact BK203.out⟩, ⟨by (with_reducible repeat (first | refine blk_drewN ?_ _ | refine blk_drew ?_ | refine blk_alloc ?_ _)); exact BK214.out⟩, ⟨by (with_reducible repeat (first | refine blk_drewN ?_ _ | refine blk_drew ?_ | refine blk_alloc ?_ _)); exact BK220.out⟩, ⟨by repeat (first | (with_reducible first | exact HB.out | apply below_alloc | apply pw_below_drewN | apply below_drew1 | refine below_set ?_ GE203.out | refine below_set ?_ GE214.out | refine below_set ?_ GE220.out) | exact HB.out)⟩⟩
               ·rw [if_neg c39] at H
                exact absurd H (by simp)
              ·rw [if_neg c38] at H
               exact absurd H (by simp)
             ·rw [if_neg c37] at H
              have c37b0 : decide (x74_4 < (t207.length : Int)) = false := decide_eq_false c37
              clear c37
              have H1 : (if (t207.length : Int) = (l1.length : Int) then (if x15_4 = t215 then (some (t210 == t216 && (t211 == t217 && (t212 == t218)))) else (some false)) else (some false)) = some r := by first | (rw [if_pos rfl] at H; exact H) | exact H
              clear H
              have H := H1
              clear H1
              by_cases c40 : (t207.length : Int) = (l1.length : Int)
              ·rw [if_pos c40] at H
               have c40b0 : ((t207.length : Int) == (l1.length : Int)) = true := beq_iff_eq.mpr c40
               have c40b1 : ((t207.length : Int) != (l1.length : Int)) = false := bne_eq_false_iff_eq.mpr c40
               have c40b2 : (t207.length == l1.length) = true := by first | simpa using c40 | (simp at c40 ⊢; omega)
               clear c40
               by_cases c41 : x15_4 = t215
               ·rw [if_pos c41] at H
                have c41b0 : (x15_4 == t215) = true := beq_iff_eq.mpr c41
                have c41b1 : (x15_4 != t215) = false := bne_eq_false_iff_eq.mpr c41
                clear c41
                obtain rfl := Option.some.inj H
                have hnb42 := NB214_203.out
                have hnc42 := NB203_214.out
                have hnb43 := NB214_220.out
                have hnc43 := NB220_214.out
                have hcz44_0 : wr.cell? ⟨gb214, 0, none⟩ = some (.int .i64 t210) := (blk_cell BK214.out 0).trans rfl
                have hcz44_1 : wr.cell? ⟨gb214, 1, none⟩ = some (.int .i64 t211) := (blk_cell BK214.out 1).trans rfl
                have hcz44_2 : wr.cell? ⟨gb214, 2, none⟩ = some (.int .i64 t212) := (blk_cell BK214.out 2).trans rfl
                have hfz44_0 := blk_frozen BK214.out 0
                have hfz44_1 := blk_frozen BK214.out 1
                have hfz44_2 := blk_frozen BK214.out 2
                have hnb45 := NB220_203.out
                have hnc45 := NB203_220.out
                have hcz46_0 : wr.cell? ⟨gb220, 0, none⟩ = some (.int .i64 t216) := (blk_cell BK220.out 0).trans rfl
                have hcz46_1 : wr.cell? ⟨gb220, 1, none⟩ = some (.int .i64 t217) := (blk_cell BK220.out 1).trans rfl
                have hcz46_2 : wr.cell? ⟨gb220, 2, none⟩ = some (.int .i64 t218) := (blk_cell BK220.out 2).trans rfl
                have hfz46_0 := blk_frozen BK220.out 0
                have hfz46_1 := blk_frozen BK220.out 1
                have hfz46_2 := blk_frozen BK220.out 2
                go_wp2
                go_ret
                exact ⟨by first | rfl | (simp [errW_none, errW_some] <;> rfl) | (simp [*, errW_none, errW_some] <;> rfl), by repeat (first | (with_reducible first | exact HB.out | apply below_alloc | apply pw_below_drewN | apply below_drew1 | refine below_set ?_ GE203.out | refine below_set ?_ GE214.out | refine below_set ?_ GE220.out) | exact HB.out)⟩
               ·rw [if_neg c41] at H
                have c41b0 : (x15_4 == t215) = false := beq_eq_false_iff_ne.mpr c41
                have c41b1 : (x15_4 != t215) = true := bne_iff_ne.mpr c41
                obtain rfl := Option.some.inj H
                exact absurd hr_.out (by decide)
              ·rw [if_neg c40] at H
               have c40b0 : ((t207.length : Int) == (l1.length : Int)) = false := beq_eq_false_iff_ne.mpr c40
               have c40b1 : ((t207.length : Int) != (l1.length : Int)) = true := bne_iff_ne.mpr c40
               have c40b2 : (t207.length == l1.length) = false := by first | simpa using c40 | (simp at c40 ⊢; omega)
               obtain rfl := Option.some.inj H
               exact absurd hr_.out (by decide)
 ·replace c4 := Bool.eq_false_iff.mpr c4
  subst c4
  have H1 : (some false) = some r := by rw [if_neg (show ¬ (false = true) by decide)] at H; exact H
  clear H
  have H := H1
  clear H1
  obtain rfl := Option.some.inj H
  exact absurd hr_.out (by decide)

end Go.Proofs.Ytmkjljekofondaa.Print
