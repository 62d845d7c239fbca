-- PRINTED by print.py (a twelfth state) out of the translation. Not trusted: Lean checks it.
import Derived.Test.YtpfkiljakiiieaaPrint0
import Derived.Test.YtpfkiljakiiieaaPrint11
namespace Go.Proofs.Ytpfkiljakiiieaa.Print
open Go.RowKit Go.Proofs.YtpfkiljakiiieaaW.PrintWords Go.Proofs.YtpfkiljakiiieaaW.PrintLast Go.Proofs.YtpfkiljakiiieaaW.PrintMore Go.Proofs.YtpfkiljakiiieaaX
attribute [local go_sem] max2_int min2_int max_two min_two max_three min_three max_four min_four   -- for this text's walks alone
set_option linter.unusedVariables false
set_option linter.unusedSimpArgs false

/-! ### palletlaw12_GuardSlots: function 7 -/
def palletlaw12_GuardSlots.f (k : Nat) (a0_0 : Int) (a0_1 : Int) (a0_2 : Int) (a0_3 : Int) (a0_4 : Int) (a1 : Int) (a2 : Int) : Option (Bool) := (palletlaw12_live.f k).bind fun t232 => (if t232 = true then ((guard_Slots.f k a0_0 a0_1 a0_2 a0_3 a0_4 a1 a2).bind fun bt233 => (if bt233.2.2 = 0 then (if (wrap64 ((wrap64 (bt233.1 * (wrap64 (a0_1 * a1)))) + bt233.2.1)) = a2 then (if (wrap64 (2 * bt233.2.1)) ≥ (wrap64 (a0_1 * a1)) then (some false) else (if (wrap64 (2 * bt233.2.1)) < (wrap64 (-(wrap64 (a0_1 * a1)))) then (some false) else ((guard_Slots.f k a0_0 a0_1 a0_2 a0_3 a0_4 a1 (wrap64 (a2 + (wrap64 (a0_1 * a1))))).bind fun bt236 => (if bt236.2.2 = 0 then (if bt236.1 = (wrap64 (bt233.1 + 1)) then (some (bt236.2.1 == bt233.2.1)) else (some false)) else (some true))))) else (some false)) else (if bt233.1 = 0 then (some (bt233.2.1 == 0)) else (some false)))) else (some false))
theorem palletlaw12_GuardSlots.mono : ∀ a0 a1 a2 a3 a4 a5 a6 k, LeO (palletlaw12_GuardSlots.f k a0 a1 a2 a3 a4 a5 a6) (palletlaw12_GuardSlots.f (k + 1) a0 a1 a2 a3 a4 a5 a6) := by
  intro a0 a1 a2 a3 a4 a5 a6 k
  unfold palletlaw12_GuardSlots.f
  repeat' first
      | (with_reducible exact guard_Slots.mono _ _ _ _ _ _ _ _)
      | (with_reducible exact palletlaw12_live.mono _)
      | (with_reducible exact LeO.refl _)
      | (with_reducible exact LeO.none _)
      | (with_reducible refine LeO.ite ?_ ?_)
      | (with_reducible refine LeO.bind ?_ (fun _ => ?_))
      | exact guard_Slots.mono _ _ _ _ _ _ _ _
      | exact palletlaw12_live.mono _
      | exact LeO.none _
      | refine LeO.ite ?_ ?_
      | refine LeO.bind ?_ (fun _ => ?_)
set_option maxHeartbeats 8000000 in
set_option maxRecDepth 100000 in
theorem palletlaw12_GuardSlots.calls (k : Nat) (a0_0 : Int) (a0_1 : Int) (a0_2 : Int) (a0_3 : Int) (a0_4 : Int) (a1 : Int) (a2 : Int) (r : Bool) (w : World) (hr_ : Aside0 (r = true)) (h : palletlaw12_GuardSlots.f k a0_0 a0_1 a0_2 a0_3 a0_4 a1 a2 = some r) :
    Calls Try.prog 7 #[.agg #[.int .i64 a0_0, .int .i64 a0_1, .int .i64 a0_2, .int .i64 a0_3, .int .i64 a0_4], .int .i64 a1, .int .i64 a2] w fun e w' => e = .returned (.bool r) ∧ Below w.heap.size w w' := by
  have hu23 := Try.underlying23
  have HB := Aside0.mk (Below.refl w.heap.size w)
  have H : ((palletlaw12_live.f k).bind fun t232 => (if t232 = true then ((guard_Slots.f k a0_0 a0_1 a0_2 a0_3 a0_4 a1 a2).bind fun bt233 => (if bt233.2.2 = 0 then (if (wrap64 ((wrap64 (bt233.1 * (wrap64 (a0_1 * a1)))) + bt233.2.1)) = a2 then (if (wrap64 (2 * bt233.2.1)) ≥ (wrap64 (a0_1 * a1)) then (some false) else (if (wrap64 (2 * bt233.2.1)) < (wrap64 (-(wrap64 (a0_1 * a1)))) then (some false) else ((guard_Slots.f k a0_0 a0_1 a0_2 a0_3 a0_4 a1 (wrap64 (a2 + (wrap64 (a0_1 * a1))))).bind fun bt236 => (if bt236.2.2 = 0 then (if bt236.1 = (wrap64 (bt233.1 + 1)) then (some (bt236.2.1 == bt233.2.1)) else (some false)) else (some true))))) else (some false)) else (if bt233.1 = 0 then (some (bt233.2.1 == 0)) else (some false)))) else (some false))) = some r := h
  clear h
  replace H := Option.bind_eq_some_iff.mp H
  obtain ⟨t232, A40, H⟩ := H
  replace H : (if t232 = true then ((guard_Slots.f k a0_0 a0_1 a0_2 a0_3 a0_4 a1 a2).bind fun bt233 => (if bt233.2.2 = 0 then (if (wrap64 ((wrap64 (bt233.1 * (wrap64 (a0_1 * a1)))) + bt233.2.1)) = a2 then (if (wrap64 (2 * bt233.2.1)) ≥ (wrap64 (a0_1 * a1)) then (some false) else (if (wrap64 (2 * bt233.2.1)) < (wrap64 (-(wrap64 (a0_1 * a1)))) then (some false) else ((guard_Slots.f k a0_0 a0_1 a0_2 a0_3 a0_4 a1 (wrap64 (a2 + (wrap64 (a0_1 * a1))))).bind fun bt236 => (if bt236.2.2 = 0 then (if bt236.1 = (wrap64 (bt233.1 + 1)) then (some (bt236.2.1 == bt233.2.1)) else (some false)) else (some true))))) else (some false)) else (if bt233.1 = 0 then (some (bt233.2.1 == 0)) else (some false)))) else (some false)) = some r := H
  have A4 := Aside0.mk A40
  clear A40
  by_cases c5 : t232 = true
  · subst c5
    have H1 : ((guard_Slots.f k a0_0 a0_1 a0_2 a0_3 a0_4 a1 a2).bind fun bt233 => (if bt233.2.2 = 0 then (if (wrap64 ((wrap64 (bt233.1 * (wrap64 (a0_1 * a1)))) + bt233.2.1)) = a2 then (if (wrap64 (2 * bt233.2.1)) ≥ (wrap64 (a0_1 * a1)) then (some false) else (if (wrap64 (2 * bt233.2.1)) < (wrap64 (-(wrap64 (a0_1 * a1)))) then (some false) else ((guard_Slots.f k a0_0 a0_1 a0_2 a0_3 a0_4 a1 (wrap64 (a2 + (wrap64 (a0_1 * a1))))).bind fun bt236 => (if bt236.2.2 = 0 then (if bt236.1 = (wrap64 (bt233.1 + 1)) then (some (bt236.2.1 == bt233.2.1)) else (some false)) else (some true))))) else (some false)) else (if bt233.1 = 0 then (some (bt233.2.1 == 0)) else (some false)))) = some r := by rw [if_pos rfl] at H; exact H
    clear H
    have H := H1
    clear H1
    replace H := Option.bind_eq_some_iff.mp H
    obtain ⟨⟨t233, t234, t235⟩, A60, H⟩ := H
    replace H : (if t235 = 0 then (if (wrap64 ((wrap64 (t233 * (wrap64 (a0_1 * a1)))) + t234)) = a2 then (if (wrap64 (2 * t234)) ≥ (wrap64 (a0_1 * a1)) then (some false) else (if (wrap64 (2 * t234)) < (wrap64 (-(wrap64 (a0_1 * a1)))) then (some false) else ((guard_Slots.f k a0_0 a0_1 a0_2 a0_3 a0_4 a1 (wrap64 (a2 + (wrap64 (a0_1 * a1))))).bind fun bt236 => (if bt236.2.2 = 0 then (if bt236.1 = (wrap64 (t233 + 1)) then (some (bt236.2.1 == t234)) else (some false)) else (some true))))) else (some false)) else (if t233 = 0 then (some (t234 == 0)) else (some false))) = some r := H
    have A6 := Aside0.mk A60
    clear A60
    by_cases c7 : t235 = 0
    · rw [if_pos c7] at H
      have c7b0 : (t235 == 0) = true := beq_iff_eq.mpr c7
      have c7b1 : (t235 != 0) = false := bne_eq_false_iff_eq.mpr c7
      clear c7
      by_cases c8 : (wrap64 ((wrap64 (t233 * (wrap64 (a0_1 * a1)))) + t234)) = a2
      · rw [if_pos c8] at H
        have c8b0 : ((wrap64 ((wrap64 (t233 * (wrap64 (a0_1 * a1)))) + t234)) == a2) = true := beq_iff_eq.mpr c8
        have c8b1 : ((wrap64 ((wrap64 (t233 * (wrap64 (a0_1 * a1)))) + t234)) != a2) = false := bne_eq_false_iff_eq.mpr c8
        clear c8
        by_cases c9 : (wrap64 (2 * t234)) ≥ (wrap64 (a0_1 * a1))
        · rw [if_pos c9] at H
          have c9b0 : decide ((wrap64 (a0_1 * a1)) ≤ (wrap64 (2 * t234))) = true := decide_eq_true c9
          clear c9
          obtain rfl := Option.some.inj H
          exact absurd hr_.out (by decide)
        · rw [if_neg c9] at H
          have c9b0 : decide ((wrap64 (a0_1 * a1)) ≤ (wrap64 (2 * t234))) = false := decide_eq_false c9
          clear c9
          by_cases c10 : (wrap64 (2 * t234)) < (wrap64 (-(wrap64 (a0_1 * a1))))
          · rw [if_pos c10] at H
            have c10b0 : decide ((wrap64 (2 * t234)) < (wrap64 (-(wrap64 (a0_1 * a1))))) = true := decide_eq_true c10
            clear c10
            obtain rfl := Option.some.inj H
            exact absurd hr_.out (by decide)
          · rw [if_neg c10] at H
            have c10b0 : decide ((wrap64 (2 * t234)) < (wrap64 (-(wrap64 (a0_1 * a1))))) = false := decide_eq_false c10
            clear c10
            replace H := Option.bind_eq_some_iff.mp H
            obtain ⟨⟨t236, t237, t238⟩, A110, H⟩ := H
            replace H : (if t238 = 0 then (if t236 = (wrap64 (t233 + 1)) then (some (t237 == t234)) else (some false)) else (some true)) = some r := H
            have A11 := Aside0.mk A110
            clear A110
            by_cases c12 : t238 = 0
            · rw [if_pos c12] at H
              have c12b0 : (t238 == 0) = true := beq_iff_eq.mpr c12
              have c12b1 : (t238 != 0) = false := bne_eq_false_iff_eq.mpr c12
              clear c12
              by_cases c13 : t236 = (wrap64 (t233 + 1))
              · rw [if_pos c13] at H
                have c13b0 : (t236 == (wrap64 (t233 + 1))) = true := beq_iff_eq.mpr c13
                have c13b1 : (t236 != (wrap64 (t233 + 1))) = false := bne_eq_false_iff_eq.mpr c13
                clear c13
                obtain rfl := Option.some.inj H
                go_enter Try.func7, Try.ntmps7
                go_wp2_with (first | ((with_reducible refine gate_dst (N := 3) rfl ?_); refine box_event ?hg (N := 3) ?hd (cs := #[.int .i64 a0_0, .int .i64 a0_1, .int .i64 a0_2, .int .i64 a0_3, .int .i64 a0_4]) (t := 23) ?hr ?_; (case hd => rfl); (case hg => rfl); (case hr => first | (go_simp; done) | (go_simp; rfl)); intro gb231 hg w14 hbox hb; have n0_ := Aside0.mk (below_step (by repeat (first | (with_reducible first | exact HB.out | apply below_alloc | apply pw_below_drewN | apply below_drew1) | exact HB.out)) hb); have n1_ := Aside0.mk (hbox); have n2_ := Aside0.mk ((by rw [hg]; exact (below_size (by repeat (first | (with_reducible first | exact HB.out | apply below_alloc | apply pw_below_drewN | apply below_drew1) | exact HB.out))) : w.heap.size ≤ gb231)); have n3_ := Aside0.mk ((by rw [hg]; exact (below_size (by repeat (first | (with_reducible first | exact HB.out | apply below_alloc | apply pw_below_drewN | apply below_drew1) | exact HB.out))) : w.heap.size ≤ gb231)); clear HB; have HB := n0_; have BK231 := n1_; have GW231 := n2_; have GE231 := n3_; clear n0_ n1_ n2_ n3_; clear hb hbox hg) | ((with_reducible refine gate_callee (f := 21) rfl ?_); refine goesL_ (some 15) rfl rfl Try.func21 (by kernel_rfl) rfl #[] rfl (by (try simp only [List.map_toArray, List.map_cons, List.map_nil]); first | done | rfl | (simp only [List.length_drop, List.length_take]; rfl)) ?_; (with_reducible refine (palletlaw12_live.calls k  true _ A4.out).mono ?_); rintro e w15 ⟨rfl, hb⟩; refine ⟨_, rfl, ?_⟩; have n0_ := Aside0.mk (blk_below (g := gb231) (o := .cells #[.int .i64 a0_0, .int .i64 a0_1, .int .i64 a0_2, .int .i64 a0_3, .int .i64 a0_4] 23 (0, 0)) (by (with_reducible repeat (first | refine blk_drewN ?_ _ | refine blk_drew ?_ | refine blk_alloc ?_ _)); exact BK231.out) hb); have n1_ := Aside0.mk (below_step (by repeat (first | (with_reducible first | exact HB.out | apply below_alloc | apply pw_below_drewN | apply below_drew1 | refine below_set ?_ GE231.out) | exact HB.out)) hb); clear BK231; clear HB; have BK231 := n0_; have HB := n1_; clear n0_ n1_; (try clear hb); (try clear hb2); (try clear hk); (try clear hi); have hcz16_0 : w15.cell? ⟨gb231, 0, none⟩ = some (.int .i64 a0_0) := (blk_cell BK231.out 0).trans rfl; have hcz16_1 : w15.cell? ⟨gb231, 1, none⟩ = some (.int .i64 a0_1) := (blk_cell BK231.out 1).trans rfl; have hcz16_2 : w15.cell? ⟨gb231, 2, none⟩ = some (.int .i64 a0_2) := (blk_cell BK231.out 2).trans rfl; have hcz16_3 : w15.cell? ⟨gb231, 3, none⟩ = some (.int .i64 a0_3) := (blk_cell BK231.out 3).trans rfl; have hcz16_4 : w15.cell? ⟨gb231, 4, none⟩ = some (.int .i64 a0_4) := (blk_cell BK231.out 4).trans rfl; have hfz16_0 := blk_frozen BK231.out 0; have hfz16_1 := blk_frozen BK231.out 1; have hfz16_2 := blk_frozen BK231.out 2; have hfz16_3 := blk_frozen BK231.out 3; have hfz16_4 := blk_frozen BK231.out 4) | ((with_reducible refine gate_callee (f := 22) rfl ?_); refine goesL_ (some 22) rfl rfl Try.func22 (by kernel_rfl) rfl #[.agg #[.int .i64 a0_0, .int .i64 a0_1, .int .i64 a0_2, .int .i64 a0_3, .int .i64 a0_4], .int .i64 a1, .int .i64 a2] rfl (by (try simp only [List.map_toArray, List.map_cons, List.map_nil]); first | done | rfl | (simp only [List.length_drop, List.length_take]; rfl)) ?_; (with_reducible refine (guard_Slots.calls k a0_0 a0_1 a0_2 a0_3 a0_4 a1 a2 t233 t234 t235 _ A6.out).mono ?_); rintro e w17 ⟨rfl, hb⟩; refine ⟨_, rfl, ?_⟩; have n0_ := Aside0.mk (blk_below (g := gb231) (o := .cells #[.int .i64 a0_0, .int .i64 a0_1, .int .i64 a0_2, .int .i64 a0_3, .int .i64 a0_4] 23 (0, 0)) (by (with_reducible repeat (first | refine blk_drewN ?_ _ | refine blk_drew ?_ | refine blk_alloc ?_ _)); exact BK231.out) hb); have n1_ := Aside0.mk (below_step (by repeat (first | (with_reducible first | exact HB.out | apply below_alloc | apply pw_below_drewN | apply below_drew1 | refine below_set ?_ GE231.out) | exact HB.out)) hb); clear BK231; clear HB; have BK231 := n0_; have HB := n1_; clear n0_ n1_; (try clear hb); (try clear hb2); (try clear hk); (try clear hi); have hcz18_0 : w17.cell? ⟨gb231, 0, none⟩ = some (.int .i64 a0_0) := (blk_cell BK231.out 0).trans rfl; have hcz18_1 : w17.cell? ⟨gb231, 1, none⟩ = some (.int .i64 a0_1) := (blk_cell BK231.out 1).trans rfl; have hcz18_2 : w17.cell? ⟨gb231, 2, none⟩ = some (.int .i64 a0_2) := (blk_cell BK231.out 2).trans rfl; have hcz18_3 : w17.cell? ⟨gb231, 3, none⟩ = some (.int .i64 a0_3) := (blk_cell BK231.out 3).trans rfl; have hcz18_4 : w17.cell? ⟨gb231, 4, none⟩ = some (.int .i64 a0_4) := (blk_cell BK231.out 4).trans rfl; have hfz18_0 := blk_frozen BK231.out 0; have hfz18_1 := blk_frozen BK231.out 1; have hfz18_2 := blk_frozen BK231.out 2; have hfz18_3 := blk_frozen BK231.out 3; have hfz18_4 := blk_frozen BK231.out 4) | ((with_reducible refine gate_callee (f := 22) rfl ?_); refine goesL_ (some 67) rfl rfl Try.func22 (by kernel_rfl) rfl #[.agg #[.int .i64 a0_0, .int .i64 a0_1, .int .i64 a0_2, .int .i64 a0_3, .int .i64 a0_4], .int .i64 a1, .int .i64 (wrap64 (a2 + (wrap64 (a0_1 * a1))))] rfl (by (try simp only [List.map_toArray, List.map_cons, List.map_nil]); first | done | rfl | (simp only [List.length_drop, List.length_take]; rfl)) ?_; (with_reducible refine (guard_Slots.calls k a0_0 a0_1 a0_2 a0_3 a0_4 a1 (wrap64 (a2 + (wrap64 (a0_1 * a1)))) t236 t237 t238 _ A11.out).mono ?_); rintro e w19 ⟨rfl, hb⟩; refine ⟨_, rfl, ?_⟩; have n0_ := Aside0.mk (blk_below (g := gb231) (o := .cells #[.int .i64 a0_0, .int .i64 a0_1, .int .i64 a0_2, .int .i64 a0_3, .int .i64 a0_4] 23 (0, 0)) (by (with_reducible repeat (first | refine blk_drewN ?_ _ | refine blk_drew ?_ | refine blk_alloc ?_ _)); exact BK231.out) hb); have n1_ := Aside0.mk (below_step (by repeat (first | (with_reducible first | exact HB.out | apply below_alloc | apply pw_below_drewN | apply below_drew1 | refine below_set ?_ GE231.out) | exact HB.out)) hb); clear BK231; clear HB; have BK231 := n0_; have HB := n1_; clear n0_ n1_; (try clear hb); (try clear hb2); (try clear hk); (try clear hi)))
                go_ret
                exact ⟨by first | rfl | (simp [errW_none, errW_some] <;> rfl) | (simp [*, errW_none, errW_some] <;> rfl), by repeat (first | (with_reducible first | exact HB.out | apply below_alloc | apply pw_below_drewN | apply below_drew1 | refine below_set ?_ GE231.out) | exact HB.out)⟩
              · rw [if_neg c13] at H
                have c13b0 : (t236 == (wrap64 (t233 + 1))) = false := beq_eq_false_iff_ne.mpr c13
                have c13b1 : (t236 != (wrap64 (t233 + 1))) = true := bne_iff_ne.mpr c13
                obtain rfl := Option.some.inj H
                exact absurd hr_.out (by decide)
            · rw [if_neg c12] at H
              have c12b0 : (t238 == 0) = false := beq_eq_false_iff_ne.mpr c12
              have c12b1 : (t238 != 0) = true := bne_iff_ne.mpr c12
              obtain rfl := Option.some.inj H
              go_enter Try.func7, Try.ntmps7
              go_wp2_with (first | ((with_reducible refine gate_dst (N := 3) rfl ?_); refine box_event ?hg (N := 3) ?hd (cs := #[.int .i64 a0_0, .int .i64 a0_1, .int .i64 a0_2, .int .i64 a0_3, .int .i64 a0_4]) (t := 23) ?hr ?_; (case hd => rfl); (case hg => rfl); (case hr => first | (go_simp; done) | (go_simp; rfl)); intro gb231 hg w20 hbox hb; have n0_ := Aside0.mk (below_step (by repeat (first | (with_reducible first | exact HB.out | apply below_alloc | apply pw_below_drewN | apply below_drew1) | exact HB.out)) hb); have n1_ := Aside0.mk (hbox); have n2_ := Aside0.mk ((by rw [hg]; exact (below_size (by repeat (first | (with_reducible first | exact HB.out | apply below_alloc | apply pw_below_drewN | apply below_drew1) | exact HB.out))) : w.heap.size ≤ gb231)); have n3_ := Aside0.mk ((by rw [hg]; exact (below_size (by repeat (first | (with_reducible first | exact HB.out | apply below_alloc | apply pw_below_drewN | apply below_drew1) | exact HB.out))) : w.heap.size ≤ gb231)); clear HB; have HB := n0_; have BK231 := n1_; have GW231 := n2_; have GE231 := n3_; clear n0_ n1_ n2_ n3_; clear hb hbox hg) | ((with_reducible refine gate_callee (f := 21) rfl ?_); refine goesL_ (some 15) rfl rfl Try.func21 (by kernel_rfl) rfl #[] rfl (by (try simp only [List.map_toArray, List.map_cons, List.map_nil]); first | done | rfl | (simp only [List.length_drop, List.length_take]; rfl)) ?_; (with_reducible refine (palletlaw12_live.calls k  true _ A4.out).mono ?_); rintro e w21 ⟨rfl, hb⟩; refine ⟨_, rfl, ?_⟩; have n0_ := Aside0.mk (blk_below (g := gb231) (o := .cells #[.int .i64 a0_0, .int .i64 a0_1, .int .i64 a0_2, .int .i64 a0_3, .int .i64 a0_4] 23 (0, 0)) (by (with_reducible repeat (first | refine blk_drewN ?_ _ | refine blk_drew ?_ | refine blk_alloc ?_ _)); exact BK231.out) hb); have n1_ := Aside0.mk (below_step (by repeat (first | (with_reducible first | exact HB.out | apply below_alloc | apply pw_below_drewN | apply below_drew1 | refine below_set ?_ GE231.out) | exact HB.out)) hb); clear BK231; clear HB; have BK231 := n0_; have HB := n1_; clear n0_ n1_; (try clear hb); (try clear hb2); (try clear hk); (try clear hi); have hcz22_0 : w21.cell? ⟨gb231, 0, none⟩ = some (.int .i64 a0_0) := (blk_cell BK231.out 0).trans rfl; have hcz22_1 : w21.cell? ⟨gb231, 1, none⟩ = some (.int .i64 a0_1) := (blk_cell BK231.out 1).trans rfl; have hcz22_2 : w21.cell? ⟨gb231, 2, none⟩ = some (.int .i64 a0_2) := (blk_cell BK231.out 2).trans rfl; have hcz22_3 : w21.cell? ⟨gb231, 3, none⟩ = some (.int .i64 a0_3) := (blk_cell BK231.out 3).trans rfl; have hcz22_4 : w21.cell? ⟨gb231, 4, none⟩ = some (.int .i64 a0_4) := (blk_cell BK231.out 4).trans rfl; have hfz22_0 := blk_frozen BK231.out 0; have hfz22_1 := blk_frozen BK231.out 1; have hfz22_2 := blk_frozen BK231.out 2; have hfz22_3 := blk_frozen BK231.out 3; have hfz22_4 := blk_frozen BK231.out 4) | ((with_reducible refine gate_callee (f := 22) rfl ?_); refine goesL_ (some 22) rfl rfl Try.func22 (by kernel_rfl) rfl #[.agg #[.int .i64 a0_0, .int .i64 a0_1, .int .i64 a0_2, .int .i64 a0_3, .int .i64 a0_4], .int .i64 a1, .int .i64 a2] rfl (by (try simp only [List.map_toArray, List.map_cons, List.map_nil]); first | done | rfl | (simp only [List.length_drop, List.length_take]; rfl)) ?_; (with_reducible refine (guard_Slots.calls k a0_0 a0_1 a0_2 a0_3 a0_4 a1 a2 t233 t234 t235 _ A6.out).mono ?_); rintro e w23 ⟨rfl, hb⟩; refine ⟨_, rfl, ?_⟩; have n0_ := Aside0.mk (blk_below (g := gb231) (o := .cells #[.int .i64 a0_0, .int .i64 a0_1, .int .i64 a0_2, .int .i64 a0_3, .int .i64 a0_4] 23 (0, 0)) (by (with_reducible repeat (first | refine blk_drewN ?_ _ | refine blk_drew ?_ | refine blk_alloc ?_ _)); exact BK231.out) hb); have n1_ := Aside0.mk (below_step (by repeat (first | (with_reducible first | exact HB.out | apply below_alloc | apply pw_below_drewN | apply below_drew1 | refine below_set ?_ GE231.out) | exact HB.out)) hb); clear BK231; clear HB; have BK231 := n0_; have HB := n1_; clear n0_ n1_; (try clear hb); (try clear hb2); (try clear hk); (try clear hi); have hcz24_0 : w23.cell? ⟨gb231, 0, none⟩ = some (.int .i64 a0_0) := (blk_cell BK231.out 0).trans rfl; have hcz24_1 : w23.cell? ⟨gb231, 1, none⟩ = some (.int .i64 a0_1) := (blk_cell BK231.out 1).trans rfl; have hcz24_2 : w23.cell? ⟨gb231, 2, none⟩ = some (.int .i64 a0_2) := (blk_cell BK231.out 2).trans rfl; have hcz24_3 : w23.cell? ⟨gb231, 3, none⟩ = some (.int .i64 a0_3) := (blk_cell BK231.out 3).trans rfl; have hcz24_4 : w23.cell? ⟨gb231, 4, none⟩ = some (.int .i64 a0_4) := (blk_cell BK231.out 4).trans rfl; have hfz24_0 := blk_frozen BK231.out 0; have hfz24_1 := blk_frozen BK231.out 1; have hfz24_2 := blk_frozen BK231.out 2; have hfz24_3 := blk_frozen BK231.out 3; have hfz24_4 := blk_frozen BK231.out 4) | ((with_reducible refine gate_callee (f := 22) rfl ?_); refine goesL_ (some 67) rfl rfl Try.func22 (by kernel_rfl) rfl #[.agg #[.int .i64 a0_0, .int .i64 a0_1, .int .i64 a0_2, .int .i64 a0_3, .int .i64 a0_4], .int .i64 a1, .int .i64 (wrap64 (a2 + (wrap64 (a0_1 * a1))))] rfl (by (try simp only [List.map_toArray, List.map_cons, List.map_nil]); first | done | rfl | (simp only [List.length_drop, List.length_take]; rfl)) ?_; (with_reducible refine (guard_Slots.calls k a0_0 a0_1 a0_2 a0_3 a0_4 a1 (wrap64 (a2 + (wrap64 (a0_1 * a1)))) t236 t237 t238 _ A11.out).mono ?_); rintro e w25 ⟨rfl, hb⟩; refine ⟨_, rfl, ?_⟩; have n0_ := Aside0.mk (blk_below (g := gb231) (o := .cells #[.int .i64 a0_0, .int .i64 a0_1, .int .i64 a0_2, .int .i64 a0_3, .int .i64 a0_4] 23 (0, 0)) (by (with_reducible repeat (first | refine blk_drewN ?_ _ | refine blk_drew ?_ | refine blk_alloc ?_ _)); exact BK231.out) hb); have n1_ := Aside0.mk (below_step (by repeat (first | (with_reducible first | exact HB.out | apply below_alloc | apply pw_below_drewN | apply below_drew1 | refine below_set ?_ GE231.out) | exact HB.out)) hb); clear BK231; clear HB; have BK231 := n0_; have HB := n1_; clear n0_ n1_; (try clear hb); (try clear hb2); (try clear hk); (try clear hi)))
              go_ret
              exact ⟨by first | rfl | (simp [errW_none, errW_some] <;> rfl) | (simp [*, errW_none, errW_some] <;> rfl), by repeat (first | (with_reducible first | exact HB.out | apply below_alloc | apply pw_below_drewN | apply below_drew1 | refine below_set ?_ GE231.out) | exact HB.out)⟩
      · rw [if_neg c8] at H
        have c8b0 : ((wrap64 ((wrap64 (t233 * (wrap64 (a0_1 * a1)))) + t234)) == a2) = false := beq_eq_false_iff_ne.mpr c8
        have c8b1 : ((wrap64 ((wrap64 (t233 * (wrap64 (a0_1 * a1)))) + t234)) != a2) = true := bne_iff_ne.mpr c8
        obtain rfl := Option.some.inj H
        exact absurd hr_.out (by decide)
    · rw [if_neg c7] at H
      have c7b0 : (t235 == 0) = false := beq_eq_false_iff_ne.mpr c7
      have c7b1 : (t235 != 0) = true := bne_iff_ne.mpr c7
      by_cases c26 : t233 = 0
      · rw [if_pos c26] at H
        have c26b0 : (t233 == 0) = true := beq_iff_eq.mpr c26
        have c26b1 : (t233 != 0) = false := bne_eq_false_iff_eq.mpr c26
        clear c26
        obtain rfl := Option.some.inj H
        go_enter Try.func7, Try.ntmps7
        go_wp2_with (first | ((with_reducible refine gate_dst (N := 3) rfl ?_); refine box_event ?hg (N := 3) ?hd (cs := #[.int .i64 a0_0, .int .i64 a0_1, .int .i64 a0_2, .int .i64 a0_3, .int .i64 a0_4]) (t := 23) ?hr ?_; (case hd => rfl); (case hg => rfl); (case hr => first | (go_simp; done) | (go_simp; rfl)); intro gb231 hg w27 hbox hb; have n0_ := Aside0.mk (below_step (by repeat (first | (with_reducible first | exact HB.out | apply below_alloc | apply pw_below_drewN | apply below_drew1) | exact HB.out)) hb); have n1_ := Aside0.mk (hbox); have n2_ := Aside0.mk ((by rw [hg]; exact (below_size (by repeat (first | (with_reducible first | exact HB.out | apply below_alloc | apply pw_below_drewN | apply below_drew1) | exact HB.out))) : w.heap.size ≤ gb231)); have n3_ := Aside0.mk ((by rw [hg]; exact (below_size (by repeat (first | (with_reducible first | exact HB.out | apply below_alloc | apply pw_below_drewN | apply below_drew1) | exact HB.out))) : w.heap.size ≤ gb231)); clear HB; have HB := n0_; have BK231 := n1_; have GW231 := n2_; have GE231 := n3_; clear n0_ n1_ n2_ n3_; clear hb hbox hg) | ((with_reducible refine gate_callee (f := 21) rfl ?_); refine goesL_ (some 15) rfl rfl Try.func21 (by kernel_rfl) rfl #[] rfl (by (try simp only [List.map_toArray, List.map_cons, List.map_nil]); first | done | rfl | (simp only [List.length_drop, List.length_take]; rfl)) ?_; (with_reducible refine (palletlaw12_live.calls k  true _ A4.out).mono ?_); rintro e w28 ⟨rfl, hb⟩; refine ⟨_, rfl, ?_⟩; have n0_ := Aside0.mk (blk_below (g := gb231) (o := .cells #[.int .i64 a0_0, .int .i64 a0_1, .int .i64 a0_2, .int .i64 a0_3, .int .i64 a0_4] 23 (0, 0)) (by (with_reducible repeat (first | refine blk_drewN ?_ _ | refine blk_drew ?_ | refine blk_alloc ?_ _)); exact BK231.out) hb); have n1_ := Aside0.mk (below_step (by repeat (first | (with_reducible first | exact HB.out | apply below_alloc | apply pw_below_drewN | apply below_drew1 | refine below_set ?_ GE231.out) | exact HB.out)) hb); clear BK231; clear HB; have BK231 := n0_; have HB := n1_; clear n0_ n1_; (try clear hb); (try clear hb2); (try clear hk); (try clear hi); have hcz29_0 : w28.cell? ⟨gb231, 0, none⟩ = some (.int .i64 a0_0) := (blk_cell BK231.out 0).trans rfl; have hcz29_1 : w28.cell? ⟨gb231, 1, none⟩ = some (.int .i64 a0_1) := (blk_cell BK231.out 1).trans rfl; have hcz29_2 : w28.cell? ⟨gb231, 2, none⟩ = some (.int .i64 a0_2) := (blk_cell BK231.out 2).trans rfl; have hcz29_3 : w28.cell? ⟨gb231, 3, none⟩ = some (.int .i64 a0_3) := (blk_cell BK231.out 3).trans rfl; have hcz29_4 : w28.cell? ⟨gb231, 4, none⟩ = some (.int .i64 a0_4) := (blk_cell BK231.out 4).trans rfl; have hfz29_0 := blk_frozen BK231.out 0; have hfz29_1 := blk_frozen BK231.out 1; have hfz29_2 := blk_frozen BK231.out 2; have hfz29_3 := blk_frozen BK231.out 3; have hfz29_4 := blk_frozen BK231.out 4) | ((with_reducible refine gate_callee (f := 22) rfl ?_); refine goesL_ (some 22) rfl rfl Try.func22 (by kernel_rfl) rfl #[.agg #[.int .i64 a0_0, .int .i64 a0_1, .int .i64 a0_2, .int .i64 a0_3, .int .i64 a0_4], .int .i64 a1, .int .i64 a2] rfl (by (try simp only [List.map_toArray, List.map_cons, List.map_nil]); first | done | rfl | (simp only [List.length_drop, List.length_take]; rfl)) ?_; (with_reducible refine (guard_Slots.calls k a0_0 a0_1 a0_2 a0_3 a0_4 a1 a2 t233 t234 t235 _ A6.out).mono ?_); rintro e w30 ⟨rfl, hb⟩; refine ⟨_, rfl, ?_⟩; have n0_ := Aside0.mk (blk_below (g := gb231) (o := .cells #[.int .i64 a0_0, .int .i64 a0_1, .int .i64 a0_2, .int .i64 a0_3, .int .i64 a0_4] 23 (0, 0)) (by (with_reducible repeat (first | refine blk_drewN ?_ _ | refine blk_drew ?_ | refine blk_alloc ?_ _)); exact BK231.out) hb); have n1_ := Aside0.mk (below_step (by repeat (first | (with_reducible first | exact HB.out | apply below_alloc | apply pw_below_drewN | apply below_drew1 | refine below_set ?_ GE231.out) | exact HB.out)) hb); clear BK231; clear HB; have BK231 := n0_; have HB := n1_; clear n0_ n1_; (try clear hb); (try clear hb2); (try clear hk); (try clear hi)))
        go_ret
        exact ⟨by first | rfl | (simp [errW_none, errW_some] <;> rfl) | (simp [*, errW_none, errW_some] <;> rfl), by repeat (first | (with_reducible first | exact HB.out | apply below_alloc | apply pw_below_drewN | apply below_drew1 | refine below_set ?_ GE231.out) | exact HB.out)⟩
      · rw [if_neg c26] at H
        have c26b0 : (t233 == 0) = false := beq_eq_false_iff_ne.mpr c26
        have c26b1 : (t233 != 0) = true := bne_iff_ne.mpr c26
        obtain rfl := Option.some.inj H
        exact absurd hr_.out (by decide)
  · replace c5 := Bool.eq_false_iff.mpr c5
    subst c5
    have H1 : (some false) = some r := by rw [if_neg (show ¬ (false = true) by decide)] at H; exact H
    clear H
    have H := H1
    clear H1
    obtain rfl := Option.some.inj H
    exact absurd hr_.out (by decide)

end Go.Proofs.Ytpfkiljakiiieaa.Print
