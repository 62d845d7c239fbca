-- PRINTED by print.py (a twelfth state) out of the translation. Not trusted: Lean checks it.
import Derived.Test.YtogdelhofdelgaaPrint0
namespace Go.Proofs.Ytogdelhofdelgaa.Print
open Go.RowKit Go.Proofs.YtogdelhofdelgaaW.PrintWords Go.Proofs.YtogdelhofdelgaaW.PrintLast Go.Proofs.YtogdelhofdelgaaW.PrintMore Go.Proofs.YtogdelhofdelgaaX
attribute [local go_sem] str_lss str_geq max2_int min2_int max_two min_two max_three min_three max_four min_four   -- for this text's walks alone
set_option linter.unusedVariables false
set_option linter.unusedSimpArgs false

/-! ### frame_Check: function 24 -/
def frame_Check.j0 : Nat → Bool → Int → Int → Int → Int → Option (Int)
 | 0, _, _, _, _, _ => none
 | k + 1, x3, x119000, x119001, x119002, x119003 => if x3 = true then (some 1) else (if x119001 < 0 then (some 1) else (if x119001 ≥ 16 then (some 1) else (if x119002 > 4294967296 then (some 1) else (some 0))))
def frame_Check.f (k : Nat) (a0_0 : Int) (a0_1 : Int) (a0_2 : Int) (a0_3 : Int) : Option (Int) := if a0_0 = 1 then (frame_Check.j0 k false a0_0 a0_1 a0_2 a0_3) else (frame_Check.j0 k (a0_0 != 2) a0_0 a0_1 a0_2 a0_3)
theorem frame_Check.mono_l : ∀ k, (∀ y0 y1 y2 y3 y4, LeO (frame_Check.j0 k y0 y1 y2 y3 y4) (frame_Check.j0 (k + 1) y0 y1 y2 y3 y4))
 | 0 => fun _ _ _ _ _ r h => by simp [frame_Check.j0] at h
 | k + 1 => by
  have ih0 := frame_Check.mono_l k
  ·intro y0 y1 y2 y3 y4
   unfold frame_Check.j0
   repeat' first
   | (with_reducible exact ih0 _ _ _ _ _)
   | (with_reducible exact LeO.refl _)
   | (with_reducible exact LeO.none _)
   | (with_reducible refine LeO.ite ?_ ?_)
   | (with_reducible refine LeO.bind ?_ (fun _ => ?_))
   | exact ih0 _ _ _ _ _
   | exact LeO.none _
   | refine LeO.ite ?_ ?_
   | refine LeO.bind ?_ (fun _ => ?_)
theorem frame_Check.mono : ∀ a0 a1 a2 a3 k, LeO (frame_Check.f k a0 a1 a2 a3) (frame_Check.f (k + 1) a0 a1 a2 a3) := by
 intro a0 a1 a2 a3 k
 have ih0 := frame_Check.mono_l k
 unfold frame_Check.f
 repeat' first
   | (with_reducible exact ih0 _ _ _ _ _)
   | (with_reducible exact LeO.refl _)
   | (with_reducible exact LeO.none _)
   | (with_reducible refine LeO.ite ?_ ?_)
   | (with_reducible refine LeO.bind ?_ (fun _ => ?_))
   | exact ih0 _ _ _ _ _
   | exact LeO.none _
   | refine LeO.ite ?_ ?_
   | refine LeO.bind ?_ (fun _ => ?_)
set_option maxHeartbeats 8000000 in
set_option maxRecDepth 100000 in
theorem frame_Check.calls (k : Nat) (a0_0 : Int) (a0_1 : Int) (a0_2 : Int) (a0_3 : Int) (r : Int) (w : World) (h : frame_Check.f k a0_0 a0_1 a0_2 a0_3 = some r) :
  Calls Try.prog 24 #[.agg #[.int .i64 a0_0, .int .i64 a0_1, .int .u64 a0_2, .int .u16 a0_3]] w fun e w' => e = .returned (.int .i64 r) ∧ Below w.heap.size w w' := by
 have hu25 := Try.underlying25
 have HB := Aside0.mk (Below.refl w.heap.size w)
 have H : (if a0_0 = 1 then (frame_Check.j0 k false a0_0 a0_1 a0_2 a0_3) else (frame_Check.j0 k (a0_0 != 2) a0_0 a0_1 a0_2 a0_3)) = some r := h
 clear h
 have HC2 := Aside0.mk H
 clear H
 go_enter Try.func24, Try.ntmps24
 go_upto_region 1 with (first | ((with_reducible refine gate_dst (N := 1) rfl ?_); refine box_event ?hg (N := 1) ?hd (cs := #[.int .i64 a0_0, .int .i64 a0_1, .int .u64 a0_2, .int .u16 a0_3]) (t := 25) ?hr ?_; (case hd => rfl); (case hg => rfl); (case hr => first | (go_simp; done) | (go_simp; rfl)); intro gb118 hg w3 hbox hb; have n0_ := Aside0.mk (below_step (by repeat (first | (with_reducible first | exact HB.out | apply below_alloc | apply pw_below_drewN | apply below_drew1) | exact HB.out)) hb); have n1_ := Aside0.mk (hbox); have n2_ := Aside0.mk ((by rw [hg]; exact (below_size (by repeat (first | (with_reducible first | exact HB.out | apply below_alloc | apply pw_below_drewN | apply below_drew1) | exact HB.out))) : w.heap.size ≤ gb118)); have n3_ := Aside0.mk ((by rw [hg]; exact (below_size (by repeat (first | (with_reducible first | exact HB.out | apply below_alloc | apply pw_below_drewN | apply below_drew1) | exact HB.out))) : w.heap.size ≤ gb118)); clear HB; have HB := n0_; have BK118 := n1_; have GW118 := n2_; have GE118 := n3_; clear n0_ n1_ n2_ n3_; clear hb hbox hg))
 (try simp only [Act.put, List.setIfInBounds_toArray, List.set_cons_zero, List.set_cons_succ])
 go_cut [3] (fun v3 wc => ∃ (kq : Nat) (x3_1 : Bool), v3 = .bool x3_1 ∧ Aside0 (frame_Check.j0 kq x3_1 a0_0 a0_1 a0_2 a0_3 = some r) ∧ Aside0 (kq ≤ k) ∧ Aside0 (wc.heap[gb118]? = some (.cells #[.int .i64 a0_0, .int .i64 a0_1, .int .u64 a0_2, .int .u16 a0_3] 25 (0, 0))) ∧ Aside0 (Below w.heap.size w wc))
 case first =>
  have H := HC2.out
  clear HC2
  by_cases c4 : a0_0 = 1
  ·rw [if_pos c4] at H
   have c4b0 : (a0_0 == 1) = true := beq_iff_eq.mpr c4
   have c4b1 : (a0_0 != 1) = false := bne_eq_false_iff_eq.mpr c4
   clear c4
   (first | rw [c4b0] | (simp only [i64_w, i32_w]; rw [c4b0]) | skip)
   have H' := Aside0.mk H
   clear H
   have hcz5_0 : w3.cell? ⟨gb118, 0, none⟩ = some (.int .i64 a0_0) := (blk_cell BK118.out 0).trans rfl
   have hcz5_1 : w3.cell? ⟨gb118, 1, none⟩ = some (.int .i64 a0_1) := (blk_cell BK118.out 1).trans rfl
   have hcz5_2 : w3.cell? ⟨gb118, 2, none⟩ = some (.int .u64 a0_2) := (blk_cell BK118.out 2).trans rfl
   have hcz5_3 : w3.cell? ⟨gb118, 3, none⟩ = some (.int .u16 a0_3) := (blk_cell BK118.out 3).trans rfl
   have hfz5_0 := blk_frozen BK118.out 0
   have hfz5_1 := blk_frozen BK118.out 1
   have hfz5_2 := blk_frozen BK118.out 2
   have hfz5_3 := blk_frozen BK118.out 3
   go_wp2
   go_meet
   case rel => exact ⟨_, (false), (by first | rfl | (simp; done) | (simp [*]; done)), H', ⟨by first | omega | exact Nat.le_refl _⟩, ⟨by (with_reducible repeat (first | refine blk_drewN ?_ _ | refine blk_drew ?_ | refine blk_alloc ?_ _)); exact BK118.out⟩, ⟨by repeat (first | (with_reducible first | exact HB.out | apply below_alloc | apply pw_below_drewN | apply below_drew1 | refine below_set ?_ GE118.out) | exact HB.out)⟩⟩
  ·rw [if_neg c4] at H
   have c4b0 : (a0_0 == 1) = false := beq_eq_false_iff_ne.mpr c4
   have c4b1 : (a0_0 != 1) = true := bne_iff_ne.mpr c4
   (first | rw [c4b0] | (simp only [i64_w, i32_w]; rw [c4b0]) | skip)
   have H' := Aside0.mk H
   clear H
   have hcz6_0 : w3.cell? ⟨gb118, 0, none⟩ = some (.int .i64 a0_0) := (blk_cell BK118.out 0).trans rfl
   have hcz6_1 : w3.cell? ⟨gb118, 1, none⟩ = some (.int .i64 a0_1) := (blk_cell BK118.out 1).trans rfl
   have hcz6_2 : w3.cell? ⟨gb118, 2, none⟩ = some (.int .u64 a0_2) := (blk_cell BK118.out 2).trans rfl
   have hcz6_3 : w3.cell? ⟨gb118, 3, none⟩ = some (.int .u16 a0_3) := (blk_cell BK118.out 3).trans rfl
   have hfz6_0 := blk_frozen BK118.out 0
   have hfz6_1 := blk_frozen BK118.out 1
   have hfz6_2 := blk_frozen BK118.out 2
   have hfz6_3 := blk_frozen BK118.out 3
   go_wp2
   go_meet
   case rel => exact ⟨_, ((a0_0 != 2)), (by first | rfl | (simp; done) | (simp [*]; done)), H', ⟨by first | omega | exact Nat.le_refl _⟩, ⟨by (with_reducible repeat (first | refine blk_drewN ?_ _ | refine blk_drew ?_ | refine blk_alloc ?_ _)); exact BK118.out⟩, ⟨by repeat (first | (with_reducible first | exact HB.out | apply below_alloc | apply pw_below_drewN | apply below_drew1 | refine below_set ?_ GE118.out) | exact HB.out)⟩⟩
 case rest =>
  clear HC2
  try clear c2
  try clear p2
  try clear c4
  try clear c4b0
  try clear c4b1
  try clear hcz5_0
  try clear hcz5_1
  try clear hcz5_2
  try clear hcz5_3
  try clear hcz6_0
  try clear hcz6_1
  try clear hcz6_2
  try clear hcz6_3
  try clear hfz5_0
  try clear hfz5_1
  try clear hfz5_2
  try clear hfz5_3
  try clear hfz6_0
  try clear hfz6_1
  try clear hfz6_2
  try clear hfz6_3
  obtain ⟨kq, x3_1, rfl, HA, HJ1, BK118, HB⟩ := hcut
  cases kq with
  | zero => exact absurd HA.out (by simp [frame_Check.j0])
  | succ kj1 =>
   have H := HA.out
   clear HA
   simp only [frame_Check.j0] at H
   by_cases c7 : x3_1 = true
   ·subst c7
    have H1 : (some 1) = some r := by rw [if_pos rfl] at H; exact H
    clear H
    have H := H1
    clear H1
    obtain rfl := Option.some.inj H
    go_wp2
    go_ret
    exact ⟨by first | rfl | (simp [errW_none, errW_some] <;> rfl) | (simp [*, errW_none, errW_some] <;> rfl), by repeat (first | (with_reducible first | exact HB.out | apply below_alloc | apply pw_below_drewN | apply below_drew1 | refine below_set ?_ GE118.out) | exact HB.out)⟩
   ·replace c7 := Bool.eq_false_iff.mpr c7
    subst c7
    have H1 : (if a0_1 < 0 then (some 1) else (if a0_1 ≥ 16 then (some 1) else (if a0_2 > 4294967296 then (some 1) else (some 0)))) = some r := by rw [if_neg (show ¬ (false = true) by decide)] at H; exact H
    clear H
    have H := H1
    clear H1
    by_cases c8 : a0_1 < 0
    ·rw [if_pos c8] at H
     have c8b0 : decide (a0_1 < 0) = true := decide_eq_true c8
     clear c8
     obtain rfl := Option.some.inj H
     have hcz9_0 : wc.cell? ⟨gb118, 0, none⟩ = some (.int .i64 a0_0) := (blk_cell BK118.out 0).trans rfl
     have hcz9_1 : wc.cell? ⟨gb118, 1, none⟩ = some (.int .i64 a0_1) := (blk_cell BK118.out 1).trans rfl
     have hcz9_2 : wc.cell? ⟨gb118, 2, none⟩ = some (.int .u64 a0_2) := (blk_cell BK118.out 2).trans rfl
     have hcz9_3 : wc.cell? ⟨gb118, 3, none⟩ = some (.int .u16 a0_3) := (blk_cell BK118.out 3).trans rfl
     have hfz9_0 := blk_frozen BK118.out 0
     have hfz9_1 := blk_frozen BK118.out 1
     have hfz9_2 := blk_frozen BK118.out 2
     have hfz9_3 := blk_frozen BK118.out 3
     go_wp2
     go_ret
     exact ⟨by first | rfl | (simp [errW_none, errW_some] <;> rfl) | (simp [*, errW_none, errW_some] <;> rfl), by repeat (first | (with_reducible first | exact HB.out | apply below_alloc | apply pw_below_drewN | apply below_drew1 | refine below_set ?_ GE118.out) | exact HB.out)⟩
    ·rw [if_neg c8] at H
     have c8b0 : decide (a0_1 < 0) = false := decide_eq_false c8
     clear c8
     by_cases c10 : a0_1 ≥ 16
     ·rw [if_pos c10] at H
      have c10b0 : decide (16 ≤ a0_1) = true := decide_eq_true c10
      clear c10
      obtain rfl := Option.some.inj H
      have hcz11_0 : wc.cell? ⟨gb118, 0, none⟩ = some (.int .i64 a0_0) := (blk_cell BK118.out 0).trans rfl
      have hcz11_1 : wc.cell? ⟨gb118, 1, none⟩ = some (.int .i64 a0_1) := (blk_cell BK118.out 1).trans rfl
      have hcz11_2 : wc.cell? ⟨gb118, 2, none⟩ = some (.int .u64 a0_2) := (blk_cell BK118.out 2).trans rfl
      have hcz11_3 : wc.cell? ⟨gb118, 3, none⟩ = some (.int .u16 a0_3) := (blk_cell BK118.out 3).trans rfl
      have hfz11_0 := blk_frozen BK118.out 0
      have hfz11_1 := blk_frozen BK118.out 1
      have hfz11_2 := blk_frozen BK118.out 2
      have hfz11_3 := blk_frozen BK118.out 3
      go_wp2
      go_ret
      exact ⟨by first | rfl | (simp [errW_none, errW_some] <;> rfl) | (simp [*, errW_none, errW_some] <;> rfl), by repeat (first | (with_reducible first | exact HB.out | apply below_alloc | apply pw_below_drewN | apply below_drew1 | refine below_set ?_ GE118.out) | exact HB.out)⟩
     ·rw [if_neg c10] at H
      have c10b0 : decide (16 ≤ a0_1) = false := decide_eq_false c10
      clear c10
      by_cases c12 : a0_2 > 4294967296
      ·rw [if_pos c12] at H
       have c12b0 : decide (4294967296 < a0_2) = true := decide_eq_true c12
       clear c12
       obtain rfl := Option.some.inj H
       have hcz13_0 : wc.cell? ⟨gb118, 0, none⟩ = some (.int .i64 a0_0) := (blk_cell BK118.out 0).trans rfl
       have hcz13_1 : wc.cell? ⟨gb118, 1, none⟩ = some (.int .i64 a0_1) := (blk_cell BK118.out 1).trans rfl
       have hcz13_2 : wc.cell? ⟨gb118, 2, none⟩ = some (.int .u64 a0_2) := (blk_cell BK118.out 2).trans rfl
       have hcz13_3 : wc.cell? ⟨gb118, 3, none⟩ = some (.int .u16 a0_3) := (blk_cell BK118.out 3).trans rfl
       have hfz13_0 := blk_frozen BK118.out 0
       have hfz13_1 := blk_frozen BK118.out 1
       have hfz13_2 := blk_frozen BK118.out 2
       have hfz13_3 := blk_frozen BK118.out 3
       go_wp2
       go_ret
       exact ⟨by first | rfl | (simp [errW_none, errW_some] <;> rfl) | (simp [*, errW_none, errW_some] <;> rfl), by repeat (first | (with_reducible first | exact HB.out | apply below_alloc | apply pw_below_drewN | apply below_drew1 | refine below_set ?_ GE118.out) | exact HB.out)⟩
      ·rw [if_neg c12] at H
       have c12b0 : decide (4294967296 < a0_2) = false := decide_eq_false c12
       clear c12
       obtain rfl := Option.some.inj H
       have hcz14_0 : wc.cell? ⟨gb118, 0, none⟩ = some (.int .i64 a0_0) := (blk_cell BK118.out 0).trans rfl
       have hcz14_1 : wc.cell? ⟨gb118, 1, none⟩ = some (.int .i64 a0_1) := (blk_cell BK118.out 1).trans rfl
       have hcz14_2 : wc.cell? ⟨gb118, 2, none⟩ = some (.int .u64 a0_2) := (blk_cell BK118.out 2).trans rfl
       have hcz14_3 : wc.cell? ⟨gb118, 3, none⟩ = some (.int .u16 a0_3) := (blk_cell BK118.out 3).trans rfl
       have hfz14_0 := blk_frozen BK118.out 0
       have hfz14_1 := blk_frozen BK118.out 1
       have hfz14_2 := blk_frozen BK118.out 2
       have hfz14_3 := blk_frozen BK118.out 3
       go_wp2
       go_ret
       exact ⟨by first | rfl | (simp [errW_none, errW_some] <;> rfl) | (simp [*, errW_none, errW_some] <;> rfl), by repeat (first | (with_reducible first | exact HB.out | apply below_alloc | apply pw_below_drewN | apply below_drew1 | refine below_set ?_ GE118.out) | exact HB.out)⟩

/-! ### wire_wide: function 42 -/
def wire_wide.f (a0 : Int) : Option (Bool) := if a0 > 0 then (some (decide (a0 ≤ 8))) else (some false)
set_option maxHeartbeats 8000000 in
set_option maxRecDepth 100000 in
theorem wire_wide.calls (a0 : Int) (r : Bool) (w : World) (h : wire_wide.f a0 = some r) :
  Calls Try.prog 42 #[.int .i64 a0] w fun e w' => e = .returned (.bool r) ∧ Drawn0 w w' := by
 have H : (if a0 > 0 then (some (decide (a0 ≤ 8))) else (some false)) = some r := h
 clear h
 by_cases c2 : a0 > 0
 ·rw [if_pos c2] at H
  have c2b0 : decide (0 < a0) = true := decide_eq_true c2
  clear c2
  obtain rfl := Option.some.inj H
  go_enter Try.func42, Try.ntmps42
  go_wp2
  go_ret
  exact ⟨by first | rfl | (simp; done) | (simp [*]; done), by repeat (first | exact Drawn0.refl _ | apply Drawn0.step)⟩
 ·rw [if_neg c2] at H
  have c2b0 : decide (0 < a0) = false := decide_eq_false c2
  clear c2
  obtain rfl := Option.some.inj H
  go_enter Try.func42, Try.ntmps42
  go_wp2
  go_ret
  exact ⟨by first | rfl | (simp; done) | (simp [*]; done), by repeat (first | exact Drawn0.refl _ | apply Drawn0.step)⟩

end Go.Proofs.Ytogdelhofdelgaa.Print
