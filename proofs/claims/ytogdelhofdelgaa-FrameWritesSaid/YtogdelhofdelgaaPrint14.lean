-- PRINTED by print.py (a twelfth state) out of the translation. Not trusted: Lean checks it.
import Derived.Test.YtogdelhofdelgaaPrint0
namespace Go.Proofs.Ytogdelhofdelgaa.Print
open Go.RowKit Go.Proofs.YtogdelhofdelgaaW.PrintWords Go.Proofs.YtogdelhofdelgaaW.PrintLast Go.Proofs.YtogdelhofdelgaaW.PrintMore Go.Proofs.YtogdelhofdelgaaX
attribute [local go_sem] str_lss str_geq max2_int min2_int max_two min_two max_three min_three max_four min_four   -- for this text's walks alone
set_option linter.unusedVariables false
set_option linter.unusedSimpArgs false

/-! ### palletref08_Check: function 25 -/
def palletref08_Check.f (a0_0 : Int) (a0_1 : Int) (a0_2 : Int) (a0_3 : Int) : Option (Int) := if a0_0 = 1 then (if a0_1 < 0 then (some 1) else (if a0_1 > 15 then (some 1) else (if a0_2 > 4294967296 then (some 1) else (some 0)))) else (if a0_0 = 2 then (if a0_1 < 0 then (some 1) else (if a0_1 > 15 then (some 1) else (if a0_2 > 4294967296 then (some 1) else (some 0)))) else (some 1))
set_option maxHeartbeats 8000000 in
set_option maxRecDepth 100000 in
theorem palletref08_Check.calls (a0_0 : Int) (a0_1 : Int) (a0_2 : Int) (a0_3 : Int) (r : Int) (w : World) (h : palletref08_Check.f a0_0 a0_1 a0_2 a0_3 = some r) :
  Calls Try.prog 25 #[.agg #[.int .i64 a0_0, .int .i64 a0_1, .int .u64 a0_2, .int .u16 a0_3]] w fun e w' => e = .returned (.int .i64 r) ∧ Below w.heap.size w w' := by
 have hu25 := Try.underlying25
 have HB := Aside0.mk (Below.refl w.heap.size w)
 have H : (if a0_0 = 1 then (if a0_1 < 0 then (some 1) else (if a0_1 > 15 then (some 1) else (if a0_2 > 4294967296 then (some 1) else (some 0)))) else (if a0_0 = 2 then (if a0_1 < 0 then (some 1) else (if a0_1 > 15 then (some 1) else (if a0_2 > 4294967296 then (some 1) else (some 0)))) else (some 1))) = some r := h
 clear h
 by_cases c2 : a0_0 = 1
 ·rw [if_pos c2] at H
  have c2b0 : (a0_0 == 1) = true := beq_iff_eq.mpr c2
  have c2b1 : (a0_0 != 1) = false := bne_eq_false_iff_eq.mpr c2
  clear c2
  by_cases c3 : a0_1 < 0
  ·rw [if_pos c3] at H
   have c3b0 : decide (a0_1 < 0) = true := decide_eq_true c3
   clear c3
   obtain rfl := Option.some.inj H
   go_enter Try.func25, Try.ntmps25
   go_wp2_with (first | ((with_reducible refine gate_dst (N := 1) rfl ?_); refine box_event ?hg (N := 1) ?hd (cs := #[.int .i64 a0_0, .int .i64 a0_1, .int .u64 a0_2, .int .u16 a0_3]) (t := 25) ?hr ?_; (case hd => rfl); (case hg => rfl); (case hr => first | (go_simp; done) | (go_simp; rfl)); intro gb249 hg w4 hbox hb; have n0_ := Aside0.mk (below_step (by repeat (first | (with_reducible first | exact HB.out | apply below_alloc | apply pw_below_drewN | apply below_drew1) | exact HB.out)) hb); have n1_ := Aside0.mk (hbox); have n2_ := Aside0.mk ((by rw [hg]; exact (below_size (by repeat (first | (with_reducible first | exact HB.out | apply below_alloc | apply pw_below_drewN | apply below_drew1) | exact HB.out))) : w.heap.size ≤ gb249)); have n3_ := Aside0.mk ((by rw [hg]; exact (below_size (by repeat (first | (with_reducible first | exact HB.out | apply below_alloc | apply pw_below_drewN | apply below_drew1) | exact HB.out))) : w.heap.size ≤ gb249)); clear HB; have HB := n0_; have BK249 := n1_; have GW249 := n2_; have GE249 := n3_; clear n0_ n1_ n2_ n3_; clear hb hbox hg; have hcz5_0 : w4.cell? ⟨gb249, 0, none⟩ = some (.int .i64 a0_0) := (blk_cell BK249.out 0).trans rfl; have hcz5_1 : w4.cell? ⟨gb249, 1, none⟩ = some (.int .i64 a0_1) := (blk_cell BK249.out 1).trans rfl; have hcz5_2 : w4.cell? ⟨gb249, 2, none⟩ = some (.int .u64 a0_2) := (blk_cell BK249.out 2).trans rfl; have hcz5_3 : w4.cell? ⟨gb249, 3, none⟩ = some (.int .u16 a0_3) := (blk_cell BK249.out 3).trans rfl; have hfz5_0 := blk_frozen BK249.out 0; have hfz5_1 := blk_frozen BK249.out 1; have hfz5_2 := blk_frozen BK249.out 2; have hfz5_3 := blk_frozen BK249.out 3))
   go_ret
   exact ⟨by first | rfl | (simp [errW_none, errW_some] <;> rfl) | (simp [*, errW_none, errW_some] <;> rfl), by repeat (first | (with_reducible first | exact HB.out | apply below_alloc | apply pw_below_drewN | apply below_drew1 | refine below_set ?_ GE249.out) | exact HB.out)⟩
  ·rw [if_neg c3] at H
   have c3b0 : decide (a0_1 < 0) = false := decide_eq_false c3
   clear c3
   by_cases c6 : a0_1 > 15
   ·rw [if_pos c6] at H
    have c6b0 : decide (15 < a0_1) = true := decide_eq_true c6
    clear c6
    obtain rfl := Option.some.inj H
    go_enter Try.func25, Try.ntmps25
    go_wp2_with (first | ((with_reducible refine gate_dst (N := 1) rfl ?_); refine box_event ?hg (N := 1) ?hd (cs := #[.int .i64 a0_0, .int .i64 a0_1, .int .u64 a0_2, .int .u16 a0_3]) (t := 25) ?hr ?_; (case hd => rfl); (case hg => rfl); (case hr => first | (go_simp; done) | (go_simp; rfl)); intro gb249 hg w7 hbox hb; have n0_ := Aside0.mk (below_step (by repeat (first | (with_reducible first | exact HB.out | apply below_alloc | apply pw_below_drewN | apply below_drew1) | exact HB.out)) hb); have n1_ := Aside0.mk (hbox); have n2_ := Aside0.mk ((by rw [hg]; exact (below_size (by repeat (first | (with_reducible first | exact HB.out | apply below_alloc | apply pw_below_drewN | apply below_drew1) | exact HB.out))) : w.heap.size ≤ gb249)); have n3_ := Aside0.mk ((by rw [hg]; exact (below_size (by repeat (first | (with_reducible first | exact HB.out | apply below_alloc | apply pw_below_drewN | apply below_drew1) | exact HB.out))) : w.heap.size ≤ gb249)); clear HB; have HB := n0_; have BK249 := n1_; have GW249 := n2_; have GE249 := n3_; clear n0_ n1_ n2_ n3_; clear hb hbox hg; have hcz8_0 : w7.cell? ⟨gb249, 0, none⟩ = some (.int .i64 a0_0) := (blk_cell BK249.out 0).trans rfl; have hcz8_1 : w7.cell? ⟨gb249, 1, none⟩ = some (.int .i64 a0_1) := (blk_cell BK249.out 1).trans rfl; have hcz8_2 : w7.cell? ⟨gb249, 2, none⟩ = some (.int .u64 a0_2) := (blk_cell BK249.out 2).trans rfl; have hcz8_3 : w7.cell? ⟨gb249, 3, none⟩ = some (.int .u16 a0_3) := (blk_cell BK249.out 3).trans rfl; have hfz8_0 := blk_frozen BK249.out 0; have hfz8_1 := blk_frozen BK249.out 1; have hfz8_2 := blk_frozen BK249.out 2; have hfz8_3 := blk_frozen BK249.out 3))
    go_ret
    exact ⟨by first | rfl | (simp [errW_none, errW_some] <;> rfl) | (simp [*, errW_none, errW_some] <;> rfl), by repeat (first | (with_reducible first | exact HB.out | apply below_alloc | apply pw_below_drewN | apply below_drew1 | refine below_set ?_ GE249.out) | exact HB.out)⟩
   ·rw [if_neg c6] at H
    have c6b0 : decide (15 < a0_1) = false := decide_eq_false c6
    clear c6
    by_cases c9 : a0_2 > 4294967296
    ·rw [if_pos c9] at H
     have c9b0 : decide (4294967296 < a0_2) = true := decide_eq_true c9
     clear c9
     obtain rfl := Option.some.inj H
     go_enter Try.func25, Try.ntmps25
     go_wp2_with (first | ((with_reducible refine gate_dst (N := 1) rfl ?_); refine box_event ?hg (N := 1) ?hd (cs := #[.int .i64 a0_0, .int .i64 a0_1, .int .u64 a0_2, .int .u16 a0_3]) (t := 25) ?hr ?_; (case hd => rfl); (case hg => rfl); (case hr => first | (go_simp; done) | (go_simp; rfl)); intro gb249 hg w10 hbox hb; have n0_ := Aside0.mk (below_step (by repeat (first | (with_reducible first | exact HB.out | apply below_alloc | apply pw_below_drewN | apply below_drew1) | exact HB.out)) hb); have n1_ := Aside0.mk (hbox); have n2_ := Aside0.mk ((by rw [hg]; exact (below_size (by repeat (first | (with_reducible first | exact HB.out | apply below_alloc | apply pw_below_drewN | apply below_drew1) | exact HB.out))) : w.heap.size ≤ gb249)); have n3_ := Aside0.mk ((by rw [hg]; exact (below_size (by repeat (first | (with_reducible first | exact HB.out | apply below_alloc | apply pw_below_drewN | apply below_drew1) | exact HB.out))) : w.heap.size ≤ gb249)); clear HB; have HB := n0_; have BK249 := n1_; have GW249 := n2_; have GE249 := n3_; clear n0_ n1_ n2_ n3_; clear hb hbox hg; have hcz11_0 : w10.cell? ⟨gb249, 0, none⟩ = some (.int .i64 a0_0) := (blk_cell BK249.out 0).trans rfl; have hcz11_1 : w10.cell? ⟨gb249, 1, none⟩ = some (.int .i64 a0_1) := (blk_cell BK249.out 1).trans rfl; have hcz11_2 : w10.cell? ⟨gb249, 2, none⟩ = some (.int .u64 a0_2) := (blk_cell BK249.out 2).trans rfl; have hcz11_3 : w10.cell? ⟨gb249, 3, none⟩ = some (.int .u16 a0_3) := (blk_cell BK249.out 3).trans rfl; have hfz11_0 := blk_frozen BK249.out 0; have hfz11_1 := blk_frozen BK249.out 1; have hfz11_2 := blk_frozen BK249.out 2; have hfz11_3 := blk_frozen BK249.out 3))
     go_ret
     exact ⟨by first | rfl | (simp [errW_none, errW_some] <;> rfl) | (simp [*, errW_none, errW_some] <;> rfl), by repeat (first | (with_reducible first | exact HB.out | apply below_alloc | apply pw_below_drewN | apply below_drew1 | refine below_set ?_ GE249.out) | exact HB.out)⟩
    ·rw [if_neg c9] at H
     have c9b0 : decide (4294967296 < a0_2) = false := decide_eq_false c9
     clear c9
     obtain rfl := Option.some.inj H
     go_enter Try.func25, Try.ntmps25
     go_wp2_with (first | ((with_reducible refine gate_dst (N := 1) rfl ?_); refine box_event ?hg (N := 1) ?hd (cs := #[.int .i64 a0_0, .int .i64 a0_1, .int .u64 a0_2, .int .u16 a0_3]) (t := 25) ?hr ?_; (case hd => rfl); (case hg => rfl); (case hr => first | (go_simp; done) | (go_simp; rfl)); intro gb249 hg w12 hbox hb; have n0_ := Aside0.mk (below_step (by repeat (first | (with_reducible first | exact HB.out | apply below_alloc | apply pw_below_drewN | apply below_drew1) | exact HB.out)) hb); have n1_ := Aside0.mk (hbox); have n2_ := Aside0.mk ((by rw [hg]; exact (below_size (by repeat (first | (with_reducible first | exact HB.out | apply below_alloc | apply pw_below_drewN | apply below_drew1) | exact HB.out))) : w.heap.size ≤ gb249)); have n3_ := Aside0.mk ((by rw [hg]; exact (below_size (by repeat (first | (with_reducible first | exact HB.out | apply below_alloc | apply pw_below_drewN | apply below_drew1) | exact HB.out))) : w.heap.size ≤ gb249)); clear HB; have HB := n0_; have BK249 := n1_; have GW249 := n2_; have GE249 := n3_; clear n0_ n1_ n2_ n3_; clear hb hbox hg; have hcz13_0 : w12.cell? ⟨gb249, 0, none⟩ = some (.int .i64 a0_0) := (blk_cell BK249.out 0).trans rfl; have hcz13_1 : w12.cell? ⟨gb249, 1, none⟩ = some (.int .i64 a0_1) := (blk_cell BK249.out 1).trans rfl; have hcz13_2 : w12.cell? ⟨gb249, 2, none⟩ = some (.int .u64 a0_2) := (blk_cell BK249.out 2).trans rfl; have hcz13_3 : w12.cell? ⟨gb249, 3, none⟩ = some (.int .u16 a0_3) := (blk_cell BK249.out 3).trans rfl; have hfz13_0 := blk_frozen BK249.out 0; have hfz13_1 := blk_frozen BK249.out 1; have hfz13_2 := blk_frozen BK249.out 2; have hfz13_3 := blk_frozen BK249.out 3))
     go_ret
     exact ⟨by first | rfl | (simp [errW_none, errW_some] <;> rfl) | (simp [*, errW_none, errW_some] <;> rfl), by repeat (first | (with_reducible first | exact HB.out | apply below_alloc | apply pw_below_drewN | apply below_drew1 | refine below_set ?_ GE249.out) | exact HB.out)⟩
 ·rw [if_neg c2] at H
  have c2b0 : (a0_0 == 1) = false := beq_eq_false_iff_ne.mpr c2
  have c2b1 : (a0_0 != 1) = true := bne_iff_ne.mpr c2
  by_cases c14 : a0_0 = 2
  ·rw [if_pos c14] at H
   have c14b0 : (a0_0 == 2) = true := beq_iff_eq.mpr c14
   have c14b1 : (a0_0 != 2) = false := bne_eq_false_iff_eq.mpr c14
   clear c14
   by_cases c15 : a0_1 < 0
   ·rw [if_pos c15] at H
    have c15b0 : decide (a0_1 < 0) = true := decide_eq_true c15
    clear c15
    obtain rfl := Option.some.inj H
    go_enter Try.func25, Try.ntmps25
    go_wp2_with (first | ((with_reducible refine gate_dst (N := 1) rfl ?_); refine box_event ?hg (N := 1) ?hd (cs := #[.int .i64 a0_0, .int .i64 a0_1, .int .u64 a0_2, .int .u16 a0_3]) (t := 25) ?hr ?_; (case hd => rfl); (case hg => rfl); (case hr => first | (go_simp; done) | (go_simp; rfl)); intro gb249 hg w16 hbox hb; have n0_ := Aside0.mk (below_step (by repeat (first | (with_reducible first | exact HB.out | apply below_alloc | apply pw_below_drewN | apply below_drew1) | exact HB.out)) hb); have n1_ := Aside0.mk (hbox); have n2_ := Aside0.mk ((by rw [hg]; exact (below_size (by repeat (first | (with_reducible first | exact HB.out | apply below_alloc | apply pw_below_drewN | apply below_drew1) | exact HB.out))) : w.heap.size ≤ gb249)); have n3_ := Aside0.mk ((by rw [hg]; exact (below_size (by repeat (first | (with_reducible first | exact HB.out | apply below_alloc | apply pw_below_drewN | apply below_drew1) | exact HB.out))) : w.heap.size ≤ gb249)); clear HB; have HB := n0_; have BK249 := n1_; have GW249 := n2_; have GE249 := n3_; clear n0_ n1_ n2_ n3_; clear hb hbox hg; have hcz17_0 : w16.cell? ⟨gb249, 0, none⟩ = some (.int .i64 a0_0) := (blk_cell BK249.out 0).trans rfl; have hcz17_1 : w16.cell? ⟨gb249, 1, none⟩ = some (.int .i64 a0_1) := (blk_cell BK249.out 1).trans rfl; have hcz17_2 : w16.cell? ⟨gb249, 2, none⟩ = some (.int .u64 a0_2) := (blk_cell BK249.out 2).trans rfl; have hcz17_3 : w16.cell? ⟨gb249, 3, none⟩ = some (.int .u16 a0_3) := (blk_cell BK249.out 3).trans rfl; have hfz17_0 := blk_frozen BK249.out 0; have hfz17_1 := blk_frozen BK249.out 1; have hfz17_2 := blk_frozen BK249.out 2; have hfz17_3 := blk_frozen BK249.out 3))
    go_ret
    exact ⟨by first | rfl | (simp [errW_none, errW_some] <;> rfl) | (simp [*, errW_none, errW_some] <;> rfl), by repeat (first | (with_reducible first | exact HB.out | apply below_alloc | apply pw_below_drewN | apply below_drew1 | refine below_set ?_ GE249.out) | exact HB.out)⟩
   ·rw [if_neg c15] at H
    have c15b0 : decide (a0_1 < 0) = false := decide_eq_false c15
    clear c15
    by_cases c18 : a0_1 > 15
    ·rw [if_pos c18] at H
     have c18b0 : decide (15 < a0_1) = true := decide_eq_true c18
     clear c18
     obtain rfl := Option.some.inj H
     go_enter Try.func25, Try.ntmps25
     go_wp2_with (first | ((with_reducible refine gate_dst (N := 1) rfl ?_); refine box_event ?hg (N := 1) ?hd (cs := #[.int .i64 a0_0, .int .i64 a0_1, .int .u64 a0_2, .int .u16 a0_3]) (t := 25) ?hr ?_; (case hd => rfl); (case hg => rfl); (case hr => first | (go_simp; done) | (go_simp; rfl)); intro gb249 hg w19 hbox hb; have n0_ := Aside0.mk (below_step (by repeat (first | (with_reducible first | exact HB.out | apply below_alloc | apply pw_below_drewN | apply below_drew1) | exact HB.out)) hb); have n1_ := Aside0.mk (hbox); have n2_ := Aside0.mk ((by rw [hg]; exact (below_size (by repeat (first | (with_reducible first | exact HB.out | apply below_alloc | apply pw_below_drewN | apply below_drew1) | exact HB.out))) : w.heap.size ≤ gb249)); have n3_ := Aside0.mk ((by rw [hg]; exact (below_size (by repeat (first | (with_reducible first | exact HB.out | apply below_alloc | apply pw_below_drewN | apply below_drew1) | exact HB.out))) : w.heap.size ≤ gb249)); clear HB; have HB := n0_; have BK249 := n1_; have GW249 := n2_; have GE249 := n3_; clear n0_ n1_ n2_ n3_; clear hb hbox hg; have hcz20_0 : w19.cell? ⟨gb249, 0, none⟩ = some (.int .i64 a0_0) := (blk_cell BK249.out 0).trans rfl; have hcz20_1 : w19.cell? ⟨gb249, 1, none⟩ = some (.int .i64 a0_1) := (blk_cell BK249.out 1).trans rfl; have hcz20_2 : w19.cell? ⟨gb249, 2, none⟩ = some (.int .u64 a0_2) := (blk_cell BK249.out 2).trans rfl; have hcz20_3 : w19.cell? ⟨gb249, 3, none⟩ = some (.int .u16 a0_3) := (blk_cell BK249.out 3).trans rfl; have hfz20_0 := blk_frozen BK249.out 0; have hfz20_1 := blk_frozen BK249.out 1; have hfz20_2 := blk_frozen BK249.out 2; have hfz20_3 := blk_frozen BK249.out 3))
     go_ret
     exact ⟨by first | rfl | (simp [errW_none, errW_some] <;> rfl) | (simp [*, errW_none, errW_some] <;> rfl), by repeat (first | (with_reducible first | exact HB.out | apply below_alloc | apply pw_below_drewN | apply below_drew1 | refine below_set ?_ GE249.out) | exact HB.out)⟩
    ·rw [if_neg c18] at H
     have c18b0 : decide (15 < a0_1) = false := decide_eq_false c18
     clear c18
     by_cases c21 : a0_2 > 4294967296
     ·rw [if_pos c21] at H
      have c21b0 : decide (4294967296 < a0_2) = true := decide_eq_true c21
      clear c21
      obtain rfl := Option.some.inj H
      go_enter Try.func25, Try.ntmps25
      go_wp2_with (first | ((with_reducible refine gate_dst (N := 1) rfl ?_); refine box_event ?hg (N := 1) ?hd (cs := #[.int .i64 a0_0, .int .i64 a0_1, .int .u64 a0_2, .int .u16 a0_3]) (t := 25) ?hr ?_; (case hd => rfl); (case hg => rfl); (case hr => first | (go_simp; done) | (go_simp; rfl)); intro gb249 hg w22 hbox hb; have n0_ := Aside0.mk (below_step (by repeat (first | (with_reducible first | exact HB.out | apply below_alloc | apply pw_below_drewN | apply below_drew1) | exact HB.out)) hb); have n1_ := Aside0.mk (hbox); have n2_ := Aside0.mk ((by rw [hg]; exact (below_size (by repeat (first | (with_reducible first | exact HB.out | apply below_alloc | apply pw_below_drewN | apply below_drew1) | exact HB.out))) : w.heap.size ≤ gb249)); have n3_ := Aside0.mk ((by rw [hg]; exact (below_size (by repeat (first | (with_reducible first | exact HB.out | apply below_alloc | apply pw_below_drewN | apply below_drew1) | exact HB.out))) : w.heap.size ≤ gb249)); clear HB; have HB := n0_; have BK249 := n1_; have GW249 := n2_; have GE249 := n3_; clear n0_ n1_ n2_ n3_; clear hb hbox hg; have hcz23_0 : w22.cell? ⟨gb249, 0, none⟩ = some (.int .i64 a0_0) := (blk_cell BK249.out 0).trans rfl; have hcz23_1 : w22.cell? ⟨gb249, 1, none⟩ = some (.int .i64 a0_1) := (blk_cell BK249.out 1).trans rfl; have hcz23_2 : w22.cell? ⟨gb249, 2, none⟩ = some (.int .u64 a0_2) := (blk_cell BK249.out 2).trans rfl; have hcz23_3 : w22.cell? ⟨gb249, 3, none⟩ = some (.int .u16 a0_3) := (blk_cell BK249.out 3).trans rfl; have hfz23_0 := blk_frozen BK249.out 0; have hfz23_1 := blk_frozen BK249.out 1; have hfz23_2 := blk_frozen BK249.out 2; have hfz23_3 := blk_frozen BK249.out 3))
      go_ret
      exact ⟨by first | rfl | (simp [errW_none, errW_some] <;> rfl) | (simp [*, errW_none, errW_some] <;> rfl), by repeat (first | (with_reducible first | exact HB.out | apply below_alloc | apply pw_below_drewN | apply below_drew1 | refine below_set ?_ GE249.out) | exact HB.out)⟩
     ·rw [if_neg c21] at H
      have c21b0 : decide (4294967296 < a0_2) = false := decide_eq_false c21
      clear c21
      obtain rfl := Option.some.inj H
      go_enter Try.func25, Try.ntmps25
      go_wp2_with (first | ((with_reducible refine gate_dst (N := 1) rfl ?_); refine box_event ?hg (N := 1) ?hd (cs := #[.int .i64 a0_0, .int .i64 a0_1, .int .u64 a0_2, .int .u16 a0_3]) (t := 25) ?hr ?_; (case hd => rfl); (case hg => rfl); (case hr => first | (go_simp; done) | (go_simp; rfl)); intro gb249 hg w24 hbox hb; have n0_ := Aside0.mk (below_step (by repeat (first | (with_reducible first | exact HB.out | apply below_alloc | apply pw_below_drewN | apply below_drew1) | exact HB.out)) hb); have n1_ := Aside0.mk (hbox); have n2_ := Aside0.mk ((by rw [hg]; exact (below_size (by repeat (first | (with_reducible first | exact HB.out | apply below_alloc | apply pw_below_drewN | apply below_drew1) | exact HB.out))) : w.heap.size ≤ gb249)); have n3_ := Aside0.mk ((by rw [hg]; exact (below_size (by repeat (first | (with_reducible first | exact HB.out | apply below_alloc | apply pw_below_drewN | apply below_drew1) | exact HB.out))) : w.heap.size ≤ gb249)); clear HB; have HB := n0_; have BK249 := n1_; have GW249 := n2_; have GE249 := n3_; clear n0_ n1_ n2_ n3_; clear hb hbox hg; have hcz25_0 : w24.cell? ⟨gb249, 0, none⟩ = some (.int .i64 a0_0) := (blk_cell BK249.out 0).trans rfl; have hcz25_1 : w24.cell? ⟨gb249, 1, none⟩ = some (.int .i64 a0_1) := (blk_cell BK249.out 1).trans rfl; have hcz25_2 : w24.cell? ⟨gb249, 2, none⟩ = some (.int .u64 a0_2) := (blk_cell BK249.out 2).trans rfl; have hcz25_3 : w24.cell? ⟨gb249, 3, none⟩ = some (.int .u16 a0_3) := (blk_cell BK249.out 3).trans rfl; have hfz25_0 := blk_frozen BK249.out 0; have hfz25_1 := blk_frozen BK249.out 1; have hfz25_2 := blk_frozen BK249.out 2; have hfz25_3 := blk_frozen BK249.out 3))
      go_ret
      exact ⟨by first | rfl | (simp [errW_none, errW_some] <;> rfl) | (simp [*, errW_none, errW_some] <;> rfl), by repeat (first | (with_reducible first | exact HB.out | apply below_alloc | apply pw_below_drewN | apply below_drew1 | refine below_set ?_ GE249.out) | exact HB.out)⟩
  ·rw [if_neg c14] at H
   have c14b0 : (a0_0 == 2) = false := beq_eq_false_iff_ne.mpr c14
   have c14b1 : (a0_0 != 2) = true := bne_iff_ne.mpr c14
   obtain rfl := Option.some.inj H
   go_enter Try.func25, Try.ntmps25
   go_wp2_with (first | ((with_reducible refine gate_dst (N := 1) rfl ?_); refine box_event ?hg (N := 1) ?hd (cs := #[.int .i64 a0_0, .int .i64 a0_1, .int .u64 a0_2, .int .u16 a0_3]) (t := 25) ?hr ?_; (case hd => rfl); (case hg => rfl); (case hr => first | (go_simp; done) | (go_simp; rfl)); intro gb249 hg w26 hbox hb; have n0_ := Aside0.mk (below_step (by repeat (first | (with_reducible first | exact HB.out | apply below_alloc | apply pw_below_drewN | apply below_drew1) | exact HB.out)) hb); have n1_ := Aside0.mk (hbox); have n2_ := Aside0.mk ((by rw [hg]; exact (below_size (by repeat (first | (with_reducible first | exact HB.out | apply below_alloc | apply pw_below_drewN | apply below_drew1) | exact HB.out))) : w.heap.size ≤ gb249)); have n3_ := Aside0.mk ((by rw [hg]; exact (below_size (by repeat (first | (with_reducible first | exact HB.out | apply below_alloc | apply pw_below_drewN | apply below_drew1) | exact HB.out))) : w.heap.size ≤ gb249)); clear HB; have HB := n0_; have BK249 := n1_; have GW249 := n2_; have GE249 := n3_; clear n0_ n1_ n2_ n3_; clear hb hbox hg; have hcz27_0 : w26.cell? ⟨gb249, 0, none⟩ = some (.int .i64 a0_0) := (blk_cell BK249.out 0).trans rfl; have hcz27_1 : w26.cell? ⟨gb249, 1, none⟩ = some (.int .i64 a0_1) := (blk_cell BK249.out 1).trans rfl; have hcz27_2 : w26.cell? ⟨gb249, 2, none⟩ = some (.int .u64 a0_2) := (blk_cell BK249.out 2).trans rfl; have hcz27_3 : w26.cell? ⟨gb249, 3, none⟩ = some (.int .u16 a0_3) := (blk_cell BK249.out 3).trans rfl; have hfz27_0 := blk_frozen BK249.out 0; have hfz27_1 := blk_frozen BK249.out 1; have hfz27_2 := blk_frozen BK249.out 2; have hfz27_3 := blk_frozen BK249.out 3))
   go_ret
   exact ⟨by first | rfl | (simp [errW_none, errW_some] <;> rfl) | (simp [*, errW_none, errW_some] <;> rfl), by repeat (first | (with_reducible first | exact HB.out | apply below_alloc | apply pw_below_drewN | apply below_drew1 | refine below_set ?_ GE249.out) | exact HB.out)⟩

/-! ### palletref03_Sum24: function 46 -/
mutual
def palletref03_Sum24.l0 : Nat → Int → List Int → Int → Int → Option (Int)
 | 0, _, _, _, _ => none
 | k + 1, x3, x6, x7, x8 => if x8 < x7 then (if 0 ≤ x8 then (if x8 < (x6.length : Int) then (palletref03_Sum24.l1 k (Go.bits .xor .u32 x3 ((((rd x6 x8) % 4294967296) * 65536) % 4294967296)) x6 x7 x8 0) else (none)) else (none)) else (some x3)
def palletref03_Sum24.l1 : Nat → Int → List Int → Int → Int → Int → Option (Int)
 | 0, _, _, _, _, _ => none
 | k + 1, x3, x6, x7, x8, x17 => if x17 < 8 then (if ((x3 * 2) % 4294967296) ≥ 16777216 then (palletref03_Sum24.l1 k (Go.bits .xor .u32 ((((x3 * 2) % 4294967296) - 16777216) % 4294967296) 8801531) x6 x7 x8 (wrap64 (x17 + 1))) else (palletref03_Sum24.l1 k ((x3 * 2) % 4294967296) x6 x7 x8 (wrap64 (x17 + 1)))) else (palletref03_Sum24.l0 k x3 x6 x7 (wrap64 (x8 + 1)))
end
def palletref03_Sum24.f (k : Nat) (l0 : List Int) : Option (Int) := palletref03_Sum24.l0 k 11994318 l0 (l0.length : Int) 0
theorem palletref03_Sum24.mono_l : ∀ k, (∀ y0 y1 y2 y3, LeO (palletref03_Sum24.l0 k y0 y1 y2 y3) (palletref03_Sum24.l0 (k + 1) y0 y1 y2 y3)) ∧ (∀ y0 y1 y2 y3 y4, LeO (palletref03_Sum24.l1 k y0 y1 y2 y3 y4) (palletref03_Sum24.l1 (k + 1) y0 y1 y2 y3 y4))
 | 0 => ⟨fun _ _ _ _ r h => by simp [palletref03_Sum24.l0] at h, fun _ _ _ _ _ r h => by simp [palletref03_Sum24.l1] at h⟩
 | k + 1 => by
  obtain ⟨ih0, ih1⟩ := palletref03_Sum24.mono_l k
  refine ⟨?_, ?_⟩
  ·intro y0 y1 y2 y3
   unfold palletref03_Sum24.l0
   repeat' first
   | (with_reducible exact ih0 _ _ _ _)
   | (with_reducible exact ih1 _ _ _ _ _)
   | (with_reducible exact LeO.refl _)
   | (with_reducible exact LeO.none _)
   | (with_reducible refine LeO.ite ?_ ?_)
   | (with_reducible refine LeO.bind ?_ (fun _ => ?_))
   | exact ih0 _ _ _ _
   | exact ih1 _ _ _ _ _
   | exact LeO.none _
   | refine LeO.ite ?_ ?_
   | refine LeO.bind ?_ (fun _ => ?_)
  ·intro y0 y1 y2 y3 y4
   unfold palletref03_Sum24.l1
   repeat' first
   | (with_reducible exact ih0 _ _ _ _)
   | (with_reducible exact ih1 _ _ _ _ _)
   | (with_reducible exact LeO.refl _)
   | (with_reducible exact LeO.none _)
   | (with_reducible refine LeO.ite ?_ ?_)
   | (with_reducible refine LeO.bind ?_ (fun _ => ?_))
   | exact ih0 _ _ _ _
   | exact ih1 _ _ _ _ _
   | exact LeO.none _
   | refine LeO.ite ?_ ?_
   | refine LeO.bind ?_ (fun _ => ?_)
theorem palletref03_Sum24.mono : ∀ a0 k, LeO (palletref03_Sum24.f k a0) (palletref03_Sum24.f (k + 1) a0) := by
 intro a0 k
 obtain ⟨ih0, ih1⟩ := palletref03_Sum24.mono_l k
 unfold palletref03_Sum24.f
 repeat' first
   | (with_reducible exact ih0 _ _ _ _)
   | (with_reducible exact ih1 _ _ _ _ _)
   | (with_reducible exact LeO.refl _)
   | (with_reducible exact LeO.none _)
   | (with_reducible refine LeO.ite ?_ ?_)
   | (with_reducible refine LeO.bind ?_ (fun _ => ?_))
   | exact ih0 _ _ _ _
   | exact ih1 _ _ _ _ _
   | exact LeO.none _
   | refine LeO.ite ?_ ?_
   | refine LeO.bind ?_ (fun _ => ?_)
set_option maxHeartbeats 8000000 in
set_option maxRecDepth 100000 in
theorem palletref03_Sum24.calls (k : Nat) (A0 : Option Addr) (c0 : Nat) (l0 : List Int) (r : Int) (w : World) (hr0 : Kd.C (Kd.int .u8) w A0 l0.length l0) (hc0 : l0.length ≤ c0) (h : palletref03_Sum24.f k l0 = some r) :
  Calls Try.prog 46 #[.slice A0 l0.length c0] w fun e w' => e = .returned (.int .u32 r) ∧ Drawn0 w w' := by
 have HR0 := Aside0.mk hr0
 have HC0 := Aside0.mk hc0
 clear hr0 hc0
 have H : (palletref03_Sum24.l0 k 11994318 l0 (l0.length : Int) 0) = some r := h
 clear h
 have H' := Aside0.mk H
 clear H
 go_enter Try.func46, Try.ntmps46
 go_wp2
 go_loopg [3, 8] k (fun kq v3 v8 w' => ∃ (x3_1 : Int) (x8_1 : Int), v3 = .int .u32 x3_1 ∧ v8 = .int .i64 x8_1 ∧ Aside0 (palletref03_Sum24.l0 kq x3_1 l0 (l0.length : Int) x8_1 = some r) ∧ Aside0 (kq ≤ k) ∧ Drawn0 w w')
 case atStart => exact ⟨(11994318), (0), (by first | rfl | (simp; done) | (simp [*]; done)), (by first | rfl | (simp; done) | (simp [*]; done)), H', ⟨Nat.le_refl _⟩, by repeat (first | exact Drawn0.refl _ | apply Drawn0.step)⟩
 case round =>
  clear H'
  obtain ⟨x3_1, x8_1, rfl, rfl, HA, HK1, ⟨m1, rfl⟩⟩ := hrel
  cases gk with
  | zero => exact absurd HA.out (by simp [palletref03_Sum24.l0])
  | succ k1 =>
   have H := HA.out
   clear HA
   simp only [palletref03_Sum24.l0] at H
   by_cases c2 : x8_1 < (l0.length : Int)
   ·rw [if_pos c2] at H
    have c2b0 : decide (x8_1 < (l0.length : Int)) = true := decide_eq_true c2
    clear c2
    by_cases c3 : 0 ≤ x8_1
    ·rw [if_pos c3] at H
     have c3b0 : decide (0 ≤ x8_1) = true := decide_eq_true c3
     clear c3
     by_cases c4 : x8_1 < (l0.length : Int)
     ·rw [if_pos c4] at H
      have c4b0 : decide (x8_1 < (l0.length : Int)) = true := decide_eq_true c4
      clear c4
      have H' := Aside0.mk H
      clear H
      have p250 : 0 ≤ (x8_1 : Int) := of_decide_eq_true (by first | (with_reducible assumption) | assumption)
      have q250 : x8_1 < (l0.length : Int) := of_decide_eq_true (by first | (with_reducible assumption) | assumption)
      obtain ⟨ad250, e250, hx250_0⟩ := Kd.at_int HR0.out x8_1 p250 q250
      cases e250
      replace p250 := eq_true p250
      replace q250 := eq_true q250
      go_wp2
      go_loopg [3, 17] k1 (fun kq v3 v17 w' => ∃ (x3_2 : Int) (x17_2 : Int), v3 = .int .u32 x3_2 ∧ v17 = .int .i64 x17_2 ∧ Aside0 (palletref03_Sum24.l1 kq x3_2 l0 (l0.length : Int) x8_1 x17_2 = some r) ∧ Aside0 (kq ≤ k1) ∧ Drawn0 w w')
      case atStart => exact ⟨(Go.bits .xor .u32 x3_1 ((((rd l0 x8_1) % 4294967296) * 65536) % 4294967296)), (0), (by first | rfl | (simp; done) | (simp [*]; done)), (by first | rfl | (simp; done) | (simp [*]; done)), H', ⟨Nat.le_refl _⟩, by repeat (first | exact Drawn0.refl _ | apply Drawn0.step)⟩
      case round =>
       clear H'
       try clear c2
       try clear c2b0
       try clear p2
       try clear q2
       try clear hx2
       try clear c3
       try clear c3b0
       try clear c4
       try clear c4b0
       try clear hx250_0
       try clear p250
       try clear q250
       obtain ⟨x3_2, x17_2, rfl, rfl, HA, HK2, ⟨m2, rfl⟩⟩ := hrel
       cases gk with
       | zero => exact absurd HA.out (by simp [palletref03_Sum24.l1])
       | succ k2 =>
        have H := HA.out
        clear HA
        simp only [palletref03_Sum24.l1] at H
        by_cases c5 : x17_2 < 8
        ·rw [if_pos c5] at H
         have c5b0 : decide (x17_2 < 8) = true := decide_eq_true c5
         clear c5
         by_cases c6 : ((x3_2 * 2) % 4294967296) ≥ 16777216
         ·rw [if_pos c6] at H
          have c6b0 : decide (16777216 ≤ ((x3_2 * 2) % 4294967296)) = true := decide_eq_true c6
          clear c6
          have H' := Aside0.mk H
          clear H
          go_wp2
          go_roundg k2
          case measure => have := HK1.out; have := HK2.out; omega
          case rel => exact ⟨(Go.bits .xor .u32 ((((x3_2 * 2) % 4294967296) - 16777216) % 4294967296) 8801531), (wrap64 (x17_2 + 1)), (by first | rfl | (simp; done) | (simp [*]; done)), (by first | rfl | (simp; done) | (simp [*]; done)), H', ⟨by have := HK1.out; have := HK2.out; omega⟩, by repeat (first | exact Drawn0.refl _ | apply Drawn0.step)⟩
         ·rw [if_neg c6] at H
          have c6b0 : decide (16777216 ≤ ((x3_2 * 2) % 4294967296)) = false := decide_eq_false c6
          clear c6
          have H' := Aside0.mk H
          clear H
          go_wp2
          go_roundg k2
          case measure => have := HK1.out; have := HK2.out; omega
          case rel => exact ⟨((x3_2 * 2) % 4294967296), (wrap64 (x17_2 + 1)), (by first | rfl | (simp; done) | (simp [*]; done)), (by first | rfl | (simp; done) | (simp [*]; done)), H', ⟨by have := HK1.out; have := HK2.out; omega⟩, by repeat (first | exact Drawn0.refl _ | apply Drawn0.step)⟩
        ·rw [if_neg c5] at H
         have c5b0 : decide (x17_2 < 8) = false := decide_eq_false c5
         clear c5
         have H' := Aside0.mk H
         clear H
         go_wp2
         go_roundg k2
         case measure => have := HK1.out; have := HK2.out; omega
         case rel => exact ⟨(x3_2), (wrap64 (x8_1 + 1)), (by first | rfl | (simp; done) | (simp [*]; done)), (by first | rfl | (simp; done) | (simp [*]; done)), H', ⟨by have := HK1.out; have := HK2.out; omega⟩, by repeat (first | exact Drawn0.refl _ | apply Drawn0.step)⟩
     ·rw [if_neg c4] at H
      exact absurd H (by simp)
    ·rw [if_neg c3] at H
     exact absurd H (by simp)
   ·rw [if_neg c2] at H
    have c2b0 : decide (x8_1 < (l0.length : Int)) = false := decide_eq_false c2
    clear c2
    obtain rfl := Option.some.inj H
    go_wp2
    go_ret
    exact ⟨by first | rfl | (simp; done) | (simp [*]; done), by repeat (first | exact Drawn0.refl _ | apply Drawn0.step)⟩

/-! ### palletref03_Seal24: function 32 -/
def palletref03_Seal24.f (k : Nat) (l0 : List Int) : Option (List Int × Int) := if (l0.length : Int) > 1048576 then (some (([] : List Int), 6)) else ((palletref03_Sum24.f k l0).bind fun t251 => (if ([] : List Int).length + l0.length < 140737488355328 then ((some (([] : List Int) ++ l0 : List Int)).bind fun y252 => ((some (([(t251 / 65536) % 256, (t251 / 256) % 256, (t251) % 256] : List Int) : List Int)).bind fun y255 => (if y252.length + y255.length < 140737488355328 then (some ((y252 ++ y255), 0)) else (none)))) else (none)))
theorem palletref03_Seal24.mono : ∀ a0 k, LeO (palletref03_Seal24.f k a0) (palletref03_Seal24.f (k + 1) a0) := by
 intro a0 k
 unfold palletref03_Seal24.f
 repeat' first
   | (with_reducible exact palletref03_Sum24.mono _ _)
   | (with_reducible exact LeO.refl _)
   | (with_reducible exact LeO.none _)
   | (with_reducible refine LeO.ite ?_ ?_)
   | (with_reducible refine LeO.bind ?_ (fun _ => ?_))
   | exact palletref03_Sum24.mono _ _
   | exact LeO.none _
   | refine LeO.ite ?_ ?_
   | refine LeO.bind ?_ (fun _ => ?_)
set_option maxHeartbeats 8000000 in
set_option maxRecDepth 100000 in
theorem palletref03_Seal24.calls (k : Nat) (A0 : Option Addr) (c0 : Nat) (l0 : List Int) (r1 : List Int) (r2 : Int) (w : World) (hr0 : Kd.C (Kd.int .u8) w A0 l0.length l0) (hc0 : l0.length ≤ c0) (h : palletref03_Seal24.f k l0 = some (r1, r2)) :
  Calls Try.prog 32 #[.slice A0 l0.length c0] w fun e w' => ∃ v0_ : Value, e = .returned (.tuple #[v0_, .int .i64 r2]) ∧ Kd.R (Kd.int .u8) 5 w' w.heap.size (fun _ => True) v0_ r1 ∧ Below w.heap.size w w' := by
 have HR0 := Aside0.mk hr0
 have HC0 := Aside0.mk hc0
 clear hr0 hc0
 have HB := Aside0.mk (Below.refl w.heap.size w)
 have H : (if (l0.length : Int) > 1048576 then (some (([] : List Int), 6)) else ((palletref03_Sum24.f k l0).bind fun t251 => (if ([] : List Int).length + l0.length < 140737488355328 then ((some (([] : List Int) ++ l0 : List Int)).bind fun y252 => ((some (([(t251 / 65536) % 256, (t251 / 256) % 256, (t251) % 256] : List Int) : List Int)).bind fun y255 => (if y252.length + y255.length < 140737488355328 then (some ((y252 ++ y255), 0)) else (none)))) else (none)))) = some (r1, r2) := h
 clear h
 by_cases c2 : (l0.length : Int) > 1048576
 ·rw [if_pos c2] at H
  have c2b0 : decide (1048576 < (l0.length : Int)) = true := decide_eq_true c2
  have c2b1 : decide (1048576 < l0.length) = true := decide_eq_true (by omega)
  clear c2
  simp only [Option.some.injEq, Prod.mk.injEq] at H
  obtain ⟨rfl, rfl⟩ := H
  go_enter Try.func32, Try.ntmps32
  go_wp2
  go_ret2
  exact ⟨_, by first | rfl | (simp [errW_none, errW_some] <;> rfl) | (simp [*, errW_none, errW_some] <;> rfl), by first | exact Kd.R_nil _ _ _ _ _ | exact Kd.N_nil _ _ _ _ _ | exact Kd.V_nil _ _ _ _ _ | exact Kd.Q_nil _ _ _ _ _ | exact Kd.S_nil _ _ _ _ _, by repeat (first | (with_reducible first | exact HB.out | apply below_alloc | apply pw_below_drewN | apply below_drew1) | exact HB.out)⟩
 ·rw [if_neg c2] at H
  have c2b0 : decide (1048576 < (l0.length : Int)) = false := decide_eq_false c2
  have c2b1 : decide (1048576 < l0.length) = false := decide_eq_false (by omega)
  clear c2
  replace H := Option.bind_eq_some_iff.mp H
  obtain ⟨t251, A30, H⟩ := H
  replace H : (if ([] : List Int).length + l0.length < 140737488355328 then ((some (([] : List Int) ++ l0 : List Int)).bind fun y252 => ((some (([(t251 / 65536) % 256, (t251 / 256) % 256, (t251) % 256] : List Int) : List Int)).bind fun y255 => (if y252.length + y255.length < 140737488355328 then (some ((y252 ++ y255), 0)) else (none)))) else (none)) = some (r1, r2) := H
  have A3 := Aside0.mk A30
  clear A30
  by_cases c4 : ([] : List Int).length + l0.length < 140737488355328
  ·rw [if_pos c4] at H
   have LMc4 := Aside0.mk c4
   clear c4
   obtain ⟨y252, hy252⟩ : ∃ y_ : List Int, y_ = (([] : List Int) ++ l0) := ⟨_, rfl⟩
   replace H : ((some (([(t251 / 65536) % 256, (t251 / 256) % 256, (t251) % 256] : List Int) : List Int)).bind fun y255 => (if y252.length + y255.length < 140737488355328 then (some ((y252 ++ y255), 0)) else (none))) = some (r1, r2) := by first | (rw [hy252]; with_reducible exact H) | (have H2_ := (Option.bind_some _ _).symm.trans H; rw [hy252]; with_reducible exact H2_) | (have H2_ := (Option.bind_some _ _).symm.trans H; with_reducible exact H2_) | with_reducible exact H | (rw [hy252]; exact H) | exact H
   have Ny252 := Aside0.mk hy252
   clear hy252
   obtain ⟨y255, hy255⟩ : ∃ y_ : List Int, y_ = (([(t251 / 65536) % 256, (t251 / 256) % 256, (t251) % 256] : List Int)) := ⟨_, rfl⟩
   replace H : (if y252.length + y255.length < 140737488355328 then (some ((y252 ++ y255), 0)) else (none)) = some (r1, r2) := by first | (rw [hy255]; with_reducible exact H) | (have H2_ := (Option.bind_some _ _).symm.trans H; rw [hy255]; with_reducible exact H2_) | (have H2_ := (Option.bind_some _ _).symm.trans H; with_reducible exact H2_) | with_reducible exact H | (rw [hy255]; exact H) | exact H
   have Ny255 := Aside0.mk hy255
   clear hy255
   by_cases c5 : y252.length + y255.length < 140737488355328
   ·rw [if_pos c5] at H
    have LMc5 := Aside0.mk c5
    clear c5
    obtain ⟨y258, hy258⟩ : ∃ y_ : List Int, y_ = (y252 ++ y255) := ⟨_, rfl⟩
    replace H : (some (y258, 0)) = some (r1, r2) := by first | (rw [hy258]; with_reducible exact H) | (have H2_ := (Option.bind_some _ _).symm.trans H; rw [hy258]; with_reducible exact H2_) | (have H2_ := (Option.bind_some _ _).symm.trans H; with_reducible exact H2_) | with_reducible exact H | (rw [hy258]; exact H) | exact H
    have Ny258 := Aside0.mk hy258
    clear hy258
    simp only [Option.some.injEq, Prod.mk.injEq] at H
    obtain ⟨rfl, rfl⟩ := H
    go_enter Try.func32, Try.ntmps32
    go_wp2_with (first | ((with_reducible refine gate_callee (f := 46) rfl ?_); refine goesL_ (some 9) rfl rfl Try.func46 (by kernel_rfl) rfl #[.slice A0 l0.length c0] rfl (by (try simp only [List.map_toArray, List.map_cons, List.map_nil]); first | done | rfl | (simp only [List.length_drop, List.length_take]; first | rfl | (rw [Nat.min_eq_left (Int.toNat_le.2 (of_decide_eq_true (by assumption)))]; rfl))) ?_; (with_reducible refine (palletref03_Sum24.calls k _ _ l0 t251 _ ?side1 ?side2 A3.out).mono ?_); (case side1 => repeat (first | exact HR0.out | (with_reducible refine Kd.C_alloc ?_ _) | (with_reducible refine Kd.C_drewN ?_ _) | (with_reducible refine Kd.C_drew ?_))); (case side2 => exact HC0.out); rintro e w' ⟨rfl, ⟨nd, rfl⟩⟩; refine ⟨_, rfl, ?_⟩) | ((with_reducible refine gate_builtin (b := .append) (xs := #[.const (.slice none 0 0), .tmp 10]) rfl ?_); at_builtin; refine Kd.R_append_rows (Kd.int .u8) (w0 := w) w.heap.size rfl (.const (.slice none 0 0)) (.tmp 10) 27 5 (.int .u8 0) 1 rfl Try.underlying27 info5 rfl (by decide) (by omega) (.slice none 0 0) ([] : List Int) l0 _ _ _ (fun _ => True) (fun _ => False) rfl rfl ?aO ?aR (fun _ _ h => h) (fun _ h => h.elim) ?aF ?aB ?aS ?aL ?_; (case aR => repeat (first | exact HR0.out | (with_reducible refine Kd.C_alloc ?_ _) | (with_reducible refine Kd.C_drewN ?_ _) | (with_reducible refine Kd.C_drew ?_))); (case aB => exact (by repeat (first | (with_reducible first | exact HB.out | apply below_alloc | apply pw_below_drewN | apply below_drew1) | exact HB.out))); (case aF => exact (fun _ _ => trivial)); (case aO => exact ((Kd.R_nil _ _ _ _ (fun _ => True)))); (case aS => exact (below_size (by repeat (first | (with_reducible first | exact HB.out | apply below_alloc | apply pw_below_drewN | apply below_drew1) | exact HB.out)))); (case aL => have := LMc4.out; omega); intro v253 w6 ho hb hg hat; rw [← Ny252.out] at ho; have n0_ := Aside0.mk (hb); have n1_ := Aside0.mk (ho); clear HB; have HB := n0_; have HO254 := n1_; clear n0_ n1_; clear ho hb hg hat) | ((with_reducible refine gate_dst (N := 20) rfl ?_); refine Kd.R_lit (Kd.int .u8) _ 5 ?hg (N := 20) ?hd (xs := ([(t251 / 65536) % 256, (t251 / 256) % 256, (t251) % 256] : List Int)) (inner := [.int .u8 ((t251 / 65536) % 256), .int .u8 ((t251 / 256) % 256), .int .u8 ((t251) % 256)]) (ok := fun _ => True) (okp := fun _ => True) ?hr ?hp (fun _ hk => hk) trivial (Below.refl _ _) (Nat.le_refl _) (by simp) ?_; (case hd => rfl); (case hg => rfl); (case hr => first | (go_simp; done) | (go_simp; rfl)); (case hp => exact (Reps.one (show Kd.M (Kd.int .u8) _ _ _ ((t251 / 65536) % 256) [.int .u8 ((t251 / 65536) % 256)] from rfl) (Reps.one (show Kd.M (Kd.int .u8) _ _ _ ((t251 / 256) % 256) [.int .u8 ((t251 / 256) % 256)] from rfl) (Reps.one (show Kd.M (Kd.int .u8) _ _ _ ((t251) % 256) [.int .u8 ((t251) % 256)] from rfl) (Reps.none _ _))))); intro v256 w7 ho8 hb hg_ hnew_; clear hg_ hnew_; (first | rw [← Ny255.out] at ho8 | (simp only [Int.reduceToNat] at ho8; rw [← Ny255.out] at ho8)); have n0_ := Aside0.mk (Kd.R_elder' (by (with_reducible repeat (first | apply Kd.R_alloc | apply Kd.R_drewN | apply Kd.R_drew)); exact HO254.out) (Kd.R_base ho8) hb); have n1_ := Aside0.mk (Kd.R_lower (Kd.R_new' ho8 (Kd.R_lt (by (with_reducible repeat (first | apply Kd.R_alloc | apply Kd.R_drewN | apply Kd.R_drew)); exact HO254.out))) (below_size (by repeat (first | (with_reducible first | exact HB.out | apply below_alloc | apply pw_below_drewN | apply below_drew1) | exact HB.out)))); have n2_ := Aside0.mk (below_step (by repeat (first | (with_reducible first | exact HB.out | apply below_alloc | apply pw_below_drewN | apply below_drew1) | exact HB.out)) hb); clear HO254; clear HB; have HO254 := n0_; have HO257 := n1_; have HB := n2_; clear n0_ n1_ n2_; clear hb ho8; obtain ⟨Ao10, co10, eo10⟩ := Kd.R_slice HO257.out; subst eo10) | ((with_reducible refine gate_builtin (b := .append) (xs := #[.tmp 11, .tmp 20]) rfl ?_); at_builtin; refine Kd.R_append_rows (Kd.int .u8) (w0 := w) w.heap.size rfl (.tmp 11) (.tmp 20) 27 5 (.int .u8 0) 1 rfl Try.underlying27 info5 rfl (by decide) (by omega) v253 y252 y255 _ _ _ (fun k_ => some k_ ≠ (.slice Ao10 y255.length co10 : Value).ownBlock) (fun _ => False) rfl rfl ?aO ?aR (fun _ _ h => h) (fun _ h => h.elim) ?aF ?aB ?aS ?aL ?_; (case aR => repeat (first | exact (Kd.R_reads' HO257.out).2.2 | (with_reducible refine Kd.C_alloc ?_ _) | (with_reducible refine Kd.C_drewN ?_ _) | (with_reducible refine Kd.C_drew ?_))); (case aB => exact (by repeat (first | (with_reducible first | exact HB.out | apply below_alloc | apply pw_below_drewN | apply below_drew1) | exact HB.out))); (case aF => exact (fun k_ hk => Kd.fresh' (Kd.R_lt (by (with_reducible repeat (first | apply Kd.R_alloc | apply Kd.R_drewN | apply Kd.R_drew)); exact HO257.out)) k_ hk)); (case aO => exact (by (with_reducible repeat (first | apply Kd.R_alloc | apply Kd.R_drewN | apply Kd.R_drew)); exact Kd.R_mono HO254.out (fun _ hk => hk.2))); (case aS => exact (below_size (by repeat (first | (with_reducible first | exact HB.out | apply below_alloc | apply pw_below_drewN | apply below_drew1) | exact HB.out)))); (case aL => have := LMc5.out; omega); intro v259 w9 ho hb hg hat; rw [← Ny258.out] at ho; have n0_ := Aside0.mk (Kd.R_after (ok := (fun _ => True)) (by (with_reducible repeat (first | apply Kd.R_alloc | apply Kd.R_drewN | apply Kd.R_drew)); exact HO257.out) hg hat); have n1_ := Aside0.mk (hb); have n2_ := Aside0.mk (ho); clear HO257; clear HB; clear HO254; have HO257 := n0_; have HB := n1_; have HO260 := n2_; clear n0_ n1_ n2_; clear ho hb hg hat))
    go_ret2
    exact ⟨_, by first | rfl | (simp [errW_none, errW_some] <;> rfl) | (simp [*, errW_none, errW_some] <;> rfl), by (with_reducible repeat (first | apply Kd.R_alloc | apply Kd.R_drewN | apply Kd.R_drew)); exact Kd.R_mono HO260.out (fun _ hk => trivial), by repeat (first | (with_reducible first | exact HB.out | apply below_alloc | apply pw_below_drewN | apply below_drew1) | exact HB.out)⟩
   ·rw [if_neg c5] at H
    exact absurd H (by simp)
  ·rw [if_neg c4] at H
   exact absurd H (by simp)

end Go.Proofs.Ytogdelhofdelgaa.Print
