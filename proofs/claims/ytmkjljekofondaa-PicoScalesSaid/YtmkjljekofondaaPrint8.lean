-- PRINTED by print.py (a twelfth state) out of the translation. Not trusted: Lean checks it.
import Derived.Test.YtmkjljekofondaaPrint0
import Derived.Test.YtmkjljekofondaaPrint4
import Derived.Test.YtmkjljekofondaaPrint7
namespace Go.Proofs.Ytmkjljekofondaa.Print
open Go.RowKit Go.Proofs.YtmkjljekofondaaW.PrintWords Go.Proofs.YtmkjljekofondaaW.PrintLast Go.Proofs.YtmkjljekofondaaW.PrintMore Go.Proofs.YtmkjljekofondaaX
attribute [local go_sem] str_lss str_geq max2_int min2_int max_two min_two max_three min_three max_four min_four   -- for this text's walks alone
set_option linter.unusedVariables false
set_option linter.unusedSimpArgs false

/-! ### palletlaw01_PicoScales: function 8 -/
def palletlaw01_PicoScales.f (k : Nat) (a0 : Int) (a1 : Int) (a2 : Int) : Option (Bool) := (palletlaw01_live.f k).bind fun t173 => (if t173 = true then ((pico_Scale.f k a0 a1 a2).bind fun bt174 => (if bt174.2.2 = 0 then (if bt174.2.1 < 0 then (some false) else (if bt174.2.1 ≥ a2 then (some false) else (if (wrap64 ((wrap64 (bt174.1 * a2)) + bt174.2.1)) = (wrap64 (a0 * a1)) then ((pico_Scale.f k a1 a0 a2).bind fun bt177 => (if bt177.1 = bt174.1 then (if bt177.2.1 = bt174.2.1 then (some (bt177.2.2 == 0)) else (some false)) else (some false))) else (some false)))) else (if bt174.1 = 0 then (some (bt174.2.1 == 0)) else (some false)))) else (some false))
theorem palletlaw01_PicoScales.mono : ∀ a0 a1 a2 k, LeO (palletlaw01_PicoScales.f k a0 a1 a2) (palletlaw01_PicoScales.f (k + 1) a0 a1 a2) := by
 intro a0 a1 a2 k
 unfold palletlaw01_PicoScales.f
 repeat' first
   | (with_reducible exact palletlaw01_live.mono _)
   | (with_reducible exact pico_Scale.mono _ _ _ _)
   | (with_reducible exact LeO.refl _)
   | (with_reducible exact LeO.none _)
   | (with_reducible refine LeO.ite ?_ ?_)
   | (with_reducible refine LeO.bind ?_ (fun _ => ?_))
   | exact palletlaw01_live.mono _
   | exact pico_Scale.mono _ _ _ _
   | exact LeO.none _
   | refine LeO.ite ?_ ?_
   | refine LeO.bind ?_ (fun _ => ?_)
set_option maxHeartbeats 8000000 in
set_option maxRecDepth 100000 in
theorem palletlaw01_PicoScales.calls (k : Nat) (a0 : Int) (a1 : Int) (a2 : Int) (r : Bool) (w : World) (hr_ : Aside0 (r = true)) (h : palletlaw01_PicoScales.f k a0 a1 a2 = some r) :
  Calls Try.prog 8 #[.int .i64 a0, .int .i64 a1, .int .i64 a2] w fun e w' => e = .returned (.bool r) ∧ Below w.heap.size w w' := by
 have HB := Aside0.mk (Below.refl w.heap.size w)
 have H : ((palletlaw01_live.f k).bind fun t173 => (if t173 = true then ((pico_Scale.f k a0 a1 a2).bind fun bt174 => (if bt174.2.2 = 0 then (if bt174.2.1 < 0 then (some false) else (if bt174.2.1 ≥ a2 then (some false) else (if (wrap64 ((wrap64 (bt174.1 * a2)) + bt174.2.1)) = (wrap64 (a0 * a1)) then ((pico_Scale.f k a1 a0 a2).bind fun bt177 => (if bt177.1 = bt174.1 then (if bt177.2.1 = bt174.2.1 then (some (bt177.2.2 == 0)) else (some false)) else (some false))) else (some false)))) else (if bt174.1 = 0 then (some (bt174.2.1 == 0)) else (some false)))) else (some false))) = some r := h
 clear h
 replace H := Option.bind_eq_some_iff.mp H
 obtain ⟨t173, A40, H⟩ := H
 replace H : (if t173 = true then ((pico_Scale.f k a0 a1 a2).bind fun bt174 => (if bt174.2.2 = 0 then (if bt174.2.1 < 0 then (some false) else (if bt174.2.1 ≥ a2 then (some false) else (if (wrap64 ((wrap64 (bt174.1 * a2)) + bt174.2.1)) = (wrap64 (a0 * a1)) then ((pico_Scale.f k a1 a0 a2).bind fun bt177 => (if bt177.1 = bt174.1 then (if bt177.2.1 = bt174.2.1 then (some (bt177.2.2 == 0)) else (some false)) else (some false))) else (some false)))) else (if bt174.1 = 0 then (some (bt174.2.1 == 0)) else (some false)))) else (some false)) = some r := H
 have A4 := Aside0.mk A40
 clear A40
 by_cases c5 : t173 = true
 ·subst c5
  have H1 : ((pico_Scale.f k a0 a1 a2).bind fun bt174 => (if bt174.2.2 = 0 then (if bt174.2.1 < 0 then (some false) else (if bt174.2.1 ≥ a2 then (some false) else (if (wrap64 ((wrap64 (bt174.1 * a2)) + bt174.2.1)) = (wrap64 (a0 * a1)) then ((pico_Scale.f k a1 a0 a2).bind fun bt177 => (if bt177.1 = bt174.1 then (if bt177.2.1 = bt174.2.1 then (some (bt177.2.2 == 0)) else (some false)) else (some false))) else (some false)))) else (if bt174.1 = 0 then (some (bt174.2.1 == 0)) else (some false)))) = some r := by rw [if_pos rfl] at H; exact H
  clear H
  have H := H1
  clear H1
  replace H := Option.bind_eq_some_iff.mp H
  obtain ⟨⟨t174, t175, t176⟩, A60, H⟩ := H
  replace H : (if t176 = 0 then (if t175 < 0 then (some false) else (if t175 ≥ a2 then (some false) else (if (wrap64 ((wrap64 (t174 * a2)) + t175)) = (wrap64 (a0 * a1)) then ((pico_Scale.f k a1 a0 a2).bind fun bt177 => (if bt177.1 = t174 then (if bt177.2.1 = t175 then (some (bt177.2.2 == 0)) else (some false)) else (some false))) else (some false)))) else (if t174 = 0 then (some (t175 == 0)) else (some false))) = some r := H
  have A6 := Aside0.mk A60
  clear A60
  by_cases c7 : t176 = 0
  ·rw [if_pos c7] at H
   have c7b0 : (t176 == 0) = true := beq_iff_eq.mpr c7
   have c7b1 : (t176 != 0) = false := bne_eq_false_iff_eq.mpr c7
   clear c7
   by_cases c8 : t175 < 0
   ·rw [if_pos c8] at H
    have c8b0 : decide (t175 < 0) = true := decide_eq_true c8
    clear c8
    obtain rfl := Option.some.inj H
    exact absurd hr_.out (by decide)
   ·rw [if_neg c8] at H
    have c8b0 : decide (t175 < 0) = false := decide_eq_false c8
    clear c8
    by_cases c9 : t175 ≥ a2
    ·rw [if_pos c9] at H
     have c9b0 : decide (a2 ≤ t175) = true := decide_eq_true c9
     clear c9
     obtain rfl := Option.some.inj H
     exact absurd hr_.out (by decide)
    ·rw [if_neg c9] at H
     have c9b0 : decide (a2 ≤ t175) = false := decide_eq_false c9
     clear c9
     by_cases c10 : (wrap64 ((wrap64 (t174 * a2)) + t175)) = (wrap64 (a0 * a1))
     ·rw [if_pos c10] at H
      have c10b0 : ((wrap64 ((wrap64 (t174 * a2)) + t175)) == (wrap64 (a0 * a1))) = true := beq_iff_eq.mpr c10
      have c10b1 : ((wrap64 ((wrap64 (t174 * a2)) + t175)) != (wrap64 (a0 * a1))) = false := bne_eq_false_iff_eq.mpr c10
      clear c10
      replace H := Option.bind_eq_some_iff.mp H
      obtain ⟨⟨t177, t178, t179⟩, A110, H⟩ := H
      replace H : (if t177 = t174 then (if t178 = t175 then (some (t179 == 0)) else (some false)) else (some false)) = some r := H
      have A11 := Aside0.mk A110
      clear A110
      by_cases c12 : t177 = t174
      ·rw [if_pos c12] at H
       have c12b0 : (t177 == t174) = true := beq_iff_eq.mpr c12
       have c12b1 : (t177 != t174) = false := bne_eq_false_iff_eq.mpr c12
       clear c12
       by_cases c13 : t178 = t175
       ·rw [if_pos c13] at H
        have c13b0 : (t178 == t175) = true := beq_iff_eq.mpr c13
        have c13b1 : (t178 != t175) = false := bne_eq_false_iff_eq.mpr c13
        clear c13
        obtain rfl := Option.some.inj H
        go_enter Try.func8, Try.ntmps8
        go_wp2_with (first | ((with_reducible refine gate_callee (f := 20) rfl ?_); refine goesL_ (some 14) rfl rfl Try.func20 (by kernel_rfl) rfl #[] rfl (by (try simp only [List.map_toArray, List.map_cons, List.map_nil]); first | done | rfl | (simp only [List.length_drop, List.length_take]; rfl)) ?_; (with_reducible refine (palletlaw01_live.calls k  true _ A4.out).mono ?_); rintro e w14 ⟨rfl, hb⟩; refine ⟨_, rfl, ?_⟩; have n0_ := Aside0.mk (below_step (by repeat (first | (with_reducible first | exact HB.out | apply below_alloc | apply pw_below_drewN | apply below_drew1) | exact HB.out)) hb); clear HB; have HB := n0_; clear n0_; (try clear hb); (try clear hb2); (try clear hk); (try clear hi)) | ((with_reducible refine gate_callee (f := 21) rfl ?_); refine goesL_ (some 21) rfl rfl Try.func21 (by kernel_rfl) rfl #[.int .i64 a0, .int .i64 a1, .int .i64 a2] rfl (by (try simp only [List.map_toArray, List.map_cons, List.map_nil]); first | done | rfl | (simp only [List.length_drop, List.length_take]; rfl)) ?_; (with_reducible refine (pico_Scale.calls k a0 a1 a2 t174 t175 t176 _ A6.out).mono ?_); rintro e w15 ⟨rfl, hb⟩; refine ⟨_, rfl, ?_⟩; have n0_ := Aside0.mk (below_step (by repeat (first | (with_reducible first | exact HB.out | apply below_alloc | apply pw_below_drewN | apply below_drew1) | exact HB.out)) hb); clear HB; have HB := n0_; clear n0_; (try clear hb); (try clear hb2); (try clear hk); (try clear hi)) | ((with_reducible refine gate_callee (f := 21) rfl ?_); refine goesL_ (some 58) rfl rfl Try.func21 (by kernel_rfl) rfl #[.int .i64 a1, .int .i64 a0, .int .i64 a2] rfl (by (try simp only [List.map_toArray, List.map_cons, List.map_nil]); first | done | rfl | (simp only [List.length_drop, List.length_take]; rfl)) ?_; (with_reducible refine (pico_Scale.calls k a1 a0 a2 t177 t178 t179 _ A11.out).mono ?_); rintro e w16 ⟨rfl, hb⟩; refine ⟨_, rfl, ?_⟩; have n0_ := Aside0.mk (below_step (by repeat (first | (with_reducible first | exact HB.out | apply below_alloc | apply pw_below_drewN | apply below_drew1) | exact HB.out)) hb); clear HB; have HB := n0_; clear n0_; (try clear hb); (try clear hb2); (try clear hk); (try clear hi)))
        go_ret
        exact ⟨by first | rfl | (simp [errW_none, errW_some] <;> rfl) | (simp [*, errW_none, errW_some] <;> rfl), by repeat (first | (with_reducible first | exact HB.out | apply below_alloc | apply pw_below_drewN | apply below_drew1) | exact HB.out)⟩
       ·rw [if_neg c13] at H
        have c13b0 : (t178 == t175) = false := beq_eq_false_iff_ne.mpr c13
        have c13b1 : (t178 != t175) = true := bne_iff_ne.mpr c13
        obtain rfl := Option.some.inj H
        exact absurd hr_.out (by decide)
      ·rw [if_neg c12] at H
       have c12b0 : (t177 == t174) = false := beq_eq_false_iff_ne.mpr c12
       have c12b1 : (t177 != t174) = true := bne_iff_ne.mpr c12
       obtain rfl := Option.some.inj H
       exact absurd hr_.out (by decide)
     ·rw [if_neg c10] at H
      have c10b0 : ((wrap64 ((wrap64 (t174 * a2)) + t175)) == (wrap64 (a0 * a1))) = false := beq_eq_false_iff_ne.mpr c10
      have c10b1 : ((wrap64 ((wrap64 (t174 * a2)) + t175)) != (wrap64 (a0 * a1))) = true := bne_iff_ne.mpr c10
      obtain rfl := Option.some.inj H
      exact absurd hr_.out (by decide)
  ·rw [if_neg c7] at H
   have c7b0 : (t176 == 0) = false := beq_eq_false_iff_ne.mpr c7
   have c7b1 : (t176 != 0) = true := bne_iff_ne.mpr c7
   by_cases c17 : t174 = 0
   ·rw [if_pos c17] at H
    have c17b0 : (t174 == 0) = true := beq_iff_eq.mpr c17
    have c17b1 : (t174 != 0) = false := bne_eq_false_iff_eq.mpr c17
    clear c17
    obtain rfl := Option.some.inj H
    go_enter Try.func8, Try.ntmps8
    go_wp2_with (first | ((with_reducible refine gate_callee (f := 20) rfl ?_); refine goesL_ (some 14) rfl rfl Try.func20 (by kernel_rfl) rfl #[] rfl (by (try simp only [List.map_toArray, List.map_cons, List.map_nil]); first | done | rfl | (simp only [List.length_drop, List.length_take]; rfl)) ?_; (with_reducible refine (palletlaw01_live.calls k  true _ A4.out).mono ?_); rintro e w18 ⟨rfl, hb⟩; refine ⟨_, rfl, ?_⟩; have n0_ := Aside0.mk (below_step (by repeat (first | (with_reducible first | exact HB.out | apply below_alloc | apply pw_below_drewN | apply below_drew1) | exact HB.out)) hb); clear HB; have HB := n0_; clear n0_; (try clear hb); (try clear hb2); (try clear hk); (try clear hi)) | ((with_reducible refine gate_callee (f := 21) rfl ?_); refine goesL_ (some 21) rfl rfl Try.func21 (by kernel_rfl) rfl #[.int .i64 a0, .int .i64 a1, .int .i64 a2] rfl (by (try simp only [List.map_toArray, List.map_cons, List.map_nil]); first | done | rfl | (simp only [List.length_drop, List.length_take]; rfl)) ?_; (with_reducible refine (pico_Scale.calls k a0 a1 a2 t174 t175 t176 _ A6.out).mono ?_); rintro e w19 ⟨rfl, hb⟩; refine ⟨_, rfl, ?_⟩; have n0_ := Aside0.mk (below_step (by repeat (first | (with_reducible first | exact HB.out | apply below_alloc | apply pw_below_drewN | apply below_drew1) | exact HB.out)) hb); clear HB; have HB := n0_; clear n0_; (try clear hb); (try clear hb2); (try clear hk); (try clear hi)))
    go_ret
    exact ⟨by first | rfl | (simp [errW_none, errW_some] <;> rfl) | (simp [*, errW_none, errW_some] <;> rfl), by repeat (first | (with_reducible first | exact HB.out | apply below_alloc | apply pw_below_drewN | apply below_drew1) | exact HB.out)⟩
   ·rw [if_neg c17] at H
    have c17b0 : (t174 == 0) = false := beq_eq_false_iff_ne.mpr c17
    have c17b1 : (t174 != 0) = true := bne_iff_ne.mpr c17
    obtain rfl := Option.some.inj H
    exact absurd hr_.out (by decide)
 ·replace c5 := Bool.eq_false_iff.mpr c5
  subst c5
  have H1 : (some false) = some r := by rw [if_neg (show ¬ (false = true) by decide)] at H; exact H
  clear H
  have H := H1
  clear H1
  obtain rfl := Option.some.inj H
  exact absurd hr_.out (by decide)

end Go.Proofs.Ytmkjljekofondaa.Print
