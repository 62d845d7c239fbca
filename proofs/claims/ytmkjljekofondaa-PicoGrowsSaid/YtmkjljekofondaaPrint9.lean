-- PRINTED by print.py (a twelfth state) out of the translation. Not trusted: Lean checks it.
import Derived.Test.YtmkjljekofondaaPrint0
import Derived.Test.YtmkjljekofondaaPrint4
import Derived.Test.YtmkjljekofondaaPrint7
namespace Go.Proofs.Ytmkjljekofondaa.Print
open Go.RowKit Go.Proofs.YtmkjljekofondaaW.PrintWords Go.Proofs.YtmkjljekofondaaW.PrintLast Go.Proofs.YtmkjljekofondaaW.PrintMore Go.Proofs.YtmkjljekofondaaX
attribute [local go_sem] str_lss str_geq max2_int min2_int max_two min_two max_three min_three max_four min_four   -- for this text's walks alone
set_option linter.unusedVariables false
set_option linter.unusedSimpArgs false

/-! ### palletlaw01_PicoGrows: function 9 -/
def palletlaw01_PicoGrows.f (k : Nat) (a0 : Int) (a1 : Int) (a2 : Int) (a3 : Int) : Option (Bool) := (palletlaw01_live.f k).bind fun t180 => (if t180 = true then ((pico_Scale.f k (wrap64 (mn a0 a1)) (wrap64 (a2)) (wrap64 ((wrap64 (a3)) + 1))).bind fun bt181 => ((pico_Scale.f k (wrap64 (mx a0 a1)) (wrap64 (a2)) (wrap64 ((wrap64 (a3)) + 1))).bind fun bt184 => ((pico_Scale.f k (wrap64 ((wrap64 (a0)) + (wrap64 ((wrap64 (a3)) + 1)))) (wrap64 (a2)) (wrap64 ((wrap64 (a3)) + 1))).bind fun bt187 => ((pico_Scale.f k (wrap64 (a0)) (wrap64 (a2)) (wrap64 ((wrap64 (a3)) + 1))).bind fun bt190 => (if bt181.2.2 = 0 then (if bt184.2.2 = 0 then (if bt187.2.2 = 0 then (if bt190.2.2 = 0 then (if bt181.1 ≤ bt184.1 then (some (bt187.1 == (wrap64 (bt190.1 + (wrap64 (a2)))))) else (some false)) else (some false)) else (some false)) else (some false)) else (some false)))))) else (some false))
theorem palletlaw01_PicoGrows.mono : ∀ a0 a1 a2 a3 k, LeO (palletlaw01_PicoGrows.f k a0 a1 a2 a3) (palletlaw01_PicoGrows.f (k + 1) a0 a1 a2 a3) := by
 intro a0 a1 a2 a3 k
 unfold palletlaw01_PicoGrows.f
 repeat' first
   | (with_reducible exact palletlaw01_live.mono _)
   | (with_reducible exact pico_Scale.mono _ _ _ _)
   | (with_reducible exact LeO.refl _)
   | (with_reducible exact LeO.none _)
   | (with_reducible refine LeO.ite ?_ ?_)
   | (with_reducible refine LeO.bind ?_ (fun _ => ?_))
   | exact palletlaw01_live.mono _
   | exact pico_Scale.mono _ _ _ _
   | exact LeO.none _
   | refine LeO.ite ?_ ?_
   | refine LeO.bind ?_ (fun _ => ?_)
set_option maxHeartbeats 8000000 in
set_option maxRecDepth 100000 in
theorem palletlaw01_PicoGrows.calls (k : Nat) (a0 : Int) (a1 : Int) (a2 : Int) (a3 : Int) (r : Bool) (w : World) (hr_ : Aside0 (r = true)) (h : palletlaw01_PicoGrows.f k a0 a1 a2 a3 = some r) :
  Calls Try.prog 9 #[.int .i32 a0, .int .i32 a1, .int .u16 a2, .int .u16 a3] w fun e w' => e = .returned (.bool r) ∧ Below w.heap.size w w' := by
 have HB := Aside0.mk (Below.refl w.heap.size w)
 have H : ((palletlaw01_live.f k).bind fun t180 => (if t180 = true then ((pico_Scale.f k (wrap64 (mn a0 a1)) (wrap64 (a2)) (wrap64 ((wrap64 (a3)) + 1))).bind fun bt181 => ((pico_Scale.f k (wrap64 (mx a0 a1)) (wrap64 (a2)) (wrap64 ((wrap64 (a3)) + 1))).bind fun bt184 => ((pico_Scale.f k (wrap64 ((wrap64 (a0)) + (wrap64 ((wrap64 (a3)) + 1)))) (wrap64 (a2)) (wrap64 ((wrap64 (a3)) + 1))).bind fun bt187 => ((pico_Scale.f k (wrap64 (a0)) (wrap64 (a2)) (wrap64 ((wrap64 (a3)) + 1))).bind fun bt190 => (if bt181.2.2 = 0 then (if bt184.2.2 = 0 then (if bt187.2.2 = 0 then (if bt190.2.2 = 0 then (if bt181.1 ≤ bt184.1 then (some (bt187.1 == (wrap64 (bt190.1 + (wrap64 (a2)))))) else (some false)) else (some false)) else (some false)) else (some false)) else (some false)))))) else (some false))) = some r := h
 clear h
 replace H := Option.bind_eq_some_iff.mp H
 obtain ⟨t180, A50, H⟩ := H
 replace H : (if t180 = true then ((pico_Scale.f k (wrap64 (mn a0 a1)) (wrap64 (a2)) (wrap64 ((wrap64 (a3)) + 1))).bind fun bt181 => ((pico_Scale.f k (wrap64 (mx a0 a1)) (wrap64 (a2)) (wrap64 ((wrap64 (a3)) + 1))).bind fun bt184 => ((pico_Scale.f k (wrap64 ((wrap64 (a0)) + (wrap64 ((wrap64 (a3)) + 1)))) (wrap64 (a2)) (wrap64 ((wrap64 (a3)) + 1))).bind fun bt187 => ((pico_Scale.f k (wrap64 (a0)) (wrap64 (a2)) (wrap64 ((wrap64 (a3)) + 1))).bind fun bt190 => (if bt181.2.2 = 0 then (if bt184.2.2 = 0 then (if bt187.2.2 = 0 then (if bt190.2.2 = 0 then (if bt181.1 ≤ bt184.1 then (some (bt187.1 == (wrap64 (bt190.1 + (wrap64 (a2)))))) else (some false)) else (some false)) else (some false)) else (some false)) else (some false)))))) else (some false)) = some r := H
 have A5 := Aside0.mk A50
 clear A50
 by_cases c6 : t180 = true
 ·subst c6
  have H1 : ((pico_Scale.f k (wrap64 (mn a0 a1)) (wrap64 (a2)) (wrap64 ((wrap64 (a3)) + 1))).bind fun bt181 => ((pico_Scale.f k (wrap64 (mx a0 a1)) (wrap64 (a2)) (wrap64 ((wrap64 (a3)) + 1))).bind fun bt184 => ((pico_Scale.f k (wrap64 ((wrap64 (a0)) + (wrap64 ((wrap64 (a3)) + 1)))) (wrap64 (a2)) (wrap64 ((wrap64 (a3)) + 1))).bind fun bt187 => ((pico_Scale.f k (wrap64 (a0)) (wrap64 (a2)) (wrap64 ((wrap64 (a3)) + 1))).bind fun bt190 => (if bt181.2.2 = 0 then (if bt184.2.2 = 0 then (if bt187.2.2 = 0 then (if bt190.2.2 = 0 then (if bt181.1 ≤ bt184.1 then (some (bt187.1 == (wrap64 (bt190.1 + (wrap64 (a2)))))) else (some false)) else (some false)) else (some false)) else (some false)) else (some false)))))) = some r := by rw [if_pos rfl] at H; exact H
  clear H
  have H := H1
  clear H1
  obtain ⟨ji7, hji7⟩ : ∃ j_ : Int, (mn a0 a1) = j_ := ⟨_, rfl⟩
  replace H : ((pico_Scale.f k (wrap64 (ji7)) (wrap64 (a2)) (wrap64 ((wrap64 (a3)) + 1))).bind fun bt181 => ((pico_Scale.f k (wrap64 (mx a0 a1)) (wrap64 (a2)) (wrap64 ((wrap64 (a3)) + 1))).bind fun bt184 => ((pico_Scale.f k (wrap64 ((wrap64 (a0)) + (wrap64 ((wrap64 (a3)) + 1)))) (wrap64 (a2)) (wrap64 ((wrap64 (a3)) + 1))).bind fun bt187 => ((pico_Scale.f k (wrap64 (a0)) (wrap64 (a2)) (wrap64 ((wrap64 (a3)) + 1))).bind fun bt190 => (if bt181.2.2 = 0 then (if bt184.2.2 = 0 then (if bt187.2.2 = 0 then (if bt190.2.2 = 0 then (if bt181.1 ≤ bt184.1 then (some (bt187.1 == (wrap64 (bt190.1 + (wrap64 (a2)))))) else (some false)) else (some false)) else (some false)) else (some false)) else (some false)))))) = some r := by first | (rw [hji7] at H; exact H) | (simp only [hji7] at H ⊢; exact H)
  (try rw [hji7] at A5)
  have hji7_ : (if a1 < a0 then a1 else a0) = ji7 := hji7
  replace H := Option.bind_eq_some_iff.mp H
  obtain ⟨⟨t181, t182, t183⟩, A80, H⟩ := H
  replace H : ((pico_Scale.f k (wrap64 (mx a0 a1)) (wrap64 (a2)) (wrap64 ((wrap64 (a3)) + 1))).bind fun bt184 => ((pico_Scale.f k (wrap64 ((wrap64 (a0)) + (wrap64 ((wrap64 (a3)) + 1)))) (wrap64 (a2)) (wrap64 ((wrap64 (a3)) + 1))).bind fun bt187 => ((pico_Scale.f k (wrap64 (a0)) (wrap64 (a2)) (wrap64 ((wrap64 (a3)) + 1))).bind fun bt190 => (if t183 = 0 then (if bt184.2.2 = 0 then (if bt187.2.2 = 0 then (if bt190.2.2 = 0 then (if t181 ≤ bt184.1 then (some (bt187.1 == (wrap64 (bt190.1 + (wrap64 (a2)))))) else (some false)) else (some false)) else (some false)) else (some false)) else (some false))))) = some r := H
  have A8 := Aside0.mk A80
  clear A80
  obtain ⟨ji9, hji9⟩ : ∃ j_ : Int, (mx a0 a1) = j_ := ⟨_, rfl⟩
  replace H : ((pico_Scale.f k (wrap64 (ji9)) (wrap64 (a2)) (wrap64 ((wrap64 (a3)) + 1))).bind fun bt184 => ((pico_Scale.f k (wrap64 ((wrap64 (a0)) + (wrap64 ((wrap64 (a3)) + 1)))) (wrap64 (a2)) (wrap64 ((wrap64 (a3)) + 1))).bind fun bt187 => ((pico_Scale.f k (wrap64 (a0)) (wrap64 (a2)) (wrap64 ((wrap64 (a3)) + 1))).bind fun bt190 => (if t183 = 0 then (if bt184.2.2 = 0 then (if bt187.2.2 = 0 then (if bt190.2.2 = 0 then (if t181 ≤ bt184.1 then (some (bt187.1 == (wrap64 (bt190.1 + (wrap64 (a2)))))) else (some false)) else (some false)) else (some false)) else (some false)) else (some false))))) = some r := by first | (rw [hji9] at H; exact H) | (simp only [hji9] at H ⊢; exact H)
  (try rw [hji9] at A5)
  (try rw [hji9] at A8)
  have hji9_ : (if a0 < a1 then a1 else a0) = ji9 := hji9
  replace H := Option.bind_eq_some_iff.mp H
  obtain ⟨⟨t184, t185, t186⟩, A100, H⟩ := H
  replace H : ((pico_Scale.f k (wrap64 ((wrap64 (a0)) + (wrap64 ((wrap64 (a3)) + 1)))) (wrap64 (a2)) (wrap64 ((wrap64 (a3)) + 1))).bind fun bt187 => ((pico_Scale.f k (wrap64 (a0)) (wrap64 (a2)) (wrap64 ((wrap64 (a3)) + 1))).bind fun bt190 => (if t183 = 0 then (if t186 = 0 then (if bt187.2.2 = 0 then (if bt190.2.2 = 0 then (if t181 ≤ t184 then (some (bt187.1 == (wrap64 (bt190.1 + (wrap64 (a2)))))) else (some false)) else (some false)) else (some false)) else (some false)) else (some false)))) = some r := H
  have A10 := Aside0.mk A100
  clear A100
  replace H := Option.bind_eq_some_iff.mp H
  obtain ⟨⟨t187, t188, t189⟩, A110, H⟩ := H
  replace H : ((pico_Scale.f k (wrap64 (a0)) (wrap64 (a2)) (wrap64 ((wrap64 (a3)) + 1))).bind fun bt190 => (if t183 = 0 then (if t186 = 0 then (if t189 = 0 then (if bt190.2.2 = 0 then (if t181 ≤ t184 then (some (t187 == (wrap64 (bt190.1 + (wrap64 (a2)))))) else (some false)) else (some false)) else (some false)) else (some false)) else (some false))) = some r := H
  have A11 := Aside0.mk A110
  clear A110
  replace H := Option.bind_eq_some_iff.mp H
  obtain ⟨⟨t190, t191, t192⟩, A120, H⟩ := H
  replace H : (if t183 = 0 then (if t186 = 0 then (if t189 = 0 then (if t192 = 0 then (if t181 ≤ t184 then (some (t187 == (wrap64 (t190 + (wrap64 (a2)))))) else (some false)) else (some false)) else (some false)) else (some false)) else (some false)) = some r := H
  have A12 := Aside0.mk A120
  clear A120
  by_cases c13 : t183 = 0
  ·rw [if_pos c13] at H
   have c13b0 : (t183 == 0) = true := beq_iff_eq.mpr c13
   have c13b1 : (t183 != 0) = false := bne_eq_false_iff_eq.mpr c13
   clear c13
   by_cases c14 : t186 = 0
   ·rw [if_pos c14] at H
    have c14b0 : (t186 == 0) = true := beq_iff_eq.mpr c14
    have c14b1 : (t186 != 0) = false := bne_eq_false_iff_eq.mpr c14
    clear c14
    by_cases c15 : t189 = 0
    ·rw [if_pos c15] at H
     have c15b0 : (t189 == 0) = true := beq_iff_eq.mpr c15
     have c15b1 : (t189 != 0) = false := bne_eq_false_iff_eq.mpr c15
     clear c15
     by_cases c16 : t192 = 0
     ·rw [if_pos c16] at H
      have c16b0 : (t192 == 0) = true := beq_iff_eq.mpr c16
      have c16b1 : (t192 != 0) = false := bne_eq_false_iff_eq.mpr c16
      clear c16
      by_cases c17 : t181 ≤ t184
      ·rw [if_pos c17] at H
       have c17b0 : decide (t181 ≤ t184) = true := decide_eq_true c17
       clear c17
       obtain rfl := Option.some.inj H
       go_enter Try.func9, Try.ntmps9
       go_wp2_with (first | ((with_reducible refine gate_callee (f := 20) rfl ?_); refine goesL_ (some 23) rfl rfl Try.func20 (by kernel_rfl) rfl #[] rfl (by (try simp only [List.map_toArray, List.map_cons, List.map_nil]); first | done | rfl | (simp only [List.length_drop, List.length_take]; rfl)) ?_; (with_reducible refine (palletlaw01_live.calls k  true _ A5.out).mono ?_); rintro e w18 ⟨rfl, hb⟩; refine ⟨_, rfl, ?_⟩; have n0_ := Aside0.mk (below_step (by repeat (first | (with_reducible first | exact HB.out | apply below_alloc | apply pw_below_drewN | apply below_drew1) | exact HB.out)) hb); clear HB; have HB := n0_; clear n0_; (try clear hb); (try clear hb2); (try clear hk); (try clear hi)) | ((with_reducible refine gate_callee (f := 21) rfl ?_); refine goesL_ (some 37) rfl rfl Try.func21 (by kernel_rfl) rfl #[.int .i64 (wrap64 (ji7)), .int .i64 (wrap64 (a2)), .int .i64 (wrap64 ((wrap64 (a3)) + 1))] rfl (by (try simp only [List.map_toArray, List.map_cons, List.map_nil]); first | done | (simp only [hji7]; rfl) | rfl | (simp only [List.length_drop, List.length_take]; rfl)) ?_; (with_reducible refine (pico_Scale.calls k (wrap64 (ji7)) (wrap64 (a2)) (wrap64 ((wrap64 (a3)) + 1)) t181 t182 t183 _ A8.out).mono ?_); rintro e w19 ⟨rfl, hb⟩; refine ⟨_, rfl, ?_⟩; have n0_ := Aside0.mk (below_step (by repeat (first | (with_reducible first | exact HB.out | apply below_alloc | apply pw_below_drewN | apply below_drew1) | exact HB.out)) hb); clear HB; have HB := n0_; clear n0_; (try clear hb); (try clear hb2); (try clear hk); (try clear hi)) | ((with_reducible refine gate_callee (f := 21) rfl ?_); refine goesL_ (some 49) rfl rfl Try.func21 (by kernel_rfl) rfl #[.int .i64 (wrap64 (ji9)), .int .i64 (wrap64 (a2)), .int .i64 (wrap64 ((wrap64 (a3)) + 1))] rfl (by (try simp only [List.map_toArray, List.map_cons, List.map_nil]); first | done | (simp only [hji9]; rfl) | rfl | (simp only [List.length_drop, List.length_take]; rfl)) ?_; (with_reducible refine (pico_Scale.calls k (wrap64 (ji9)) (wrap64 (a2)) (wrap64 ((wrap64 (a3)) + 1)) t184 t185 t186 _ A10.out).mono ?_); rintro e w20 ⟨rfl, hb⟩; refine ⟨_, rfl, ?_⟩; have n0_ := Aside0.mk (below_step (by repeat (first | (with_reducible first | exact HB.out | apply below_alloc | apply pw_below_drewN | apply below_drew1) | exact HB.out)) hb); clear HB; have HB := n0_; clear n0_; (try clear hb); (try clear hb2); (try clear hk); (try clear hi)) | ((with_reducible refine gate_callee (f := 21) rfl ?_); refine goesL_ (some 61) rfl rfl Try.func21 (by kernel_rfl) rfl #[.int .i64 (wrap64 ((wrap64 (a0)) + (wrap64 ((wrap64 (a3)) + 1)))), .int .i64 (wrap64 (a2)), .int .i64 (wrap64 ((wrap64 (a3)) + 1))] rfl (by (try simp only [List.map_toArray, List.map_cons, List.map_nil]); first | done | rfl | (simp only [List.length_drop, List.length_take]; rfl)) ?_; (with_reducible refine (pico_Scale.calls k (wrap64 ((wrap64 (a0)) + (wrap64 ((wrap64 (a3)) + 1)))) (wrap64 (a2)) (wrap64 ((wrap64 (a3)) + 1)) t187 t188 t189 _ A11.out).mono ?_); rintro e w21 ⟨rfl, hb⟩; refine ⟨_, rfl, ?_⟩; have n0_ := Aside0.mk (below_step (by repeat (first | (with_reducible first | exact HB.out | apply below_alloc | apply pw_below_drewN | apply below_drew1) | exact HB.out)) hb); clear HB; have HB := n0_; clear n0_; (try clear hb); (try clear hb2); (try clear hk); (try clear hi)) | ((with_reducible refine gate_callee (f := 21) rfl ?_); refine goesL_ (some 71) rfl rfl Try.func21 (by kernel_rfl) rfl #[.int .i64 (wrap64 (a0)), .int .i64 (wrap64 (a2)), .int .i64 (wrap64 ((wrap64 (a3)) + 1))] rfl (by (try simp only [List.map_toArray, List.map_cons, List.map_nil]); first | done | rfl | (simp only [List.length_drop, List.length_take]; rfl)) ?_; (with_reducible refine (pico_Scale.calls k (wrap64 (a0)) (wrap64 (a2)) (wrap64 ((wrap64 (a3)) + 1)) t190 t191 t192 _ A12.out).mono ?_); rintro e w22 ⟨rfl, hb⟩; refine ⟨_, rfl, ?_⟩; have n0_ := Aside0.mk (below_step (by repeat (first | (with_reducible first | exact HB.out | apply below_alloc | apply pw_below_drewN | apply below_drew1) | exact HB.out)) hb); clear HB; have HB := n0_; clear n0_; (try clear hb); (try clear hb2); (try clear hk); (try clear hi)))
       go_ret
       exact ⟨by first | rfl | (simp [errW_none, errW_some] <;> rfl) | (simp only [← hji7, ← hji9]; first | rfl | (simp [errW_none, errW_some] <;> rfl)) | (simp [*, errW_none, errW_some] <;> rfl), by repeat (first | (with_reducible first | exact HB.out | apply below_alloc | apply pw_below_drewN | apply below_drew1) | exact HB.out)⟩
      ·rw [if_neg c17] at H
       have c17b0 : decide (t181 ≤ t184) = false := decide_eq_false c17
       clear c17
       obtain rfl := Option.some.inj H
       exact absurd hr_.out (by decide)
     ·rw [if_neg c16] at H
      have c16b0 : (t192 == 0) = false := beq_eq_false_iff_ne.mpr c16
      have c16b1 : (t192 != 0) = true := bne_iff_ne.mpr c16
      obtain rfl := Option.some.inj H
      exact absurd hr_.out (by decide)
    ·rw [if_neg c15] at H
     have c15b0 : (t189 == 0) = false := beq_eq_false_iff_ne.mpr c15
     have c15b1 : (t189 != 0) = true := bne_iff_ne.mpr c15
     obtain rfl := Option.some.inj H
     exact absurd hr_.out (by decide)
   ·rw [if_neg c14] at H
    have c14b0 : (t186 == 0) = false := beq_eq_false_iff_ne.mpr c14
    have c14b1 : (t186 != 0) = true := bne_iff_ne.mpr c14
    obtain rfl := Option.some.inj H
    exact absurd hr_.out (by decide)
  ·rw [if_neg c13] at H
   have c13b0 : (t183 == 0) = false := beq_eq_false_iff_ne.mpr c13
   have c13b1 : (t183 != 0) = true := bne_iff_ne.mpr c13
   obtain rfl := Option.some.inj H
   exact absurd hr_.out (by decide)
 ·replace c6 := Bool.eq_false_iff.mpr c6
  subst c6
  have H1 : (some false) = some r := by rw [if_neg (show ¬ (false = true) by decide)] at H; exact H
  clear H
  have H := H1
  clear H1
  obtain rfl := Option.some.inj H
  exact absurd hr_.out (by decide)

end Go.Proofs.Ytmkjljekofondaa.Print
