-- PRINTED by print.py (a twelfth state) out of the translation. Not trusted: Lean checks it.
import Derived.Test.YtmkjljekofondaaPrint0
import Derived.Test.YtmkjljekofondaaPrint4
import Derived.Test.YtmkjljekofondaaPrint7
namespace Go.Proofs.Ytmkjljekofondaa.Print
open Go.RowKit Go.Proofs.YtmkjljekofondaaW.PrintWords Go.Proofs.YtmkjljekofondaaW.PrintLast Go.Proofs.YtmkjljekofondaaW.PrintMore Go.Proofs.YtmkjljekofondaaX
attribute [local go_sem] str_lss str_geq max2_int min2_int max_two min_two max_three min_three max_four min_four   -- for this text's walks alone
set_option linter.unusedVariables false
set_option linter.unusedSimpArgs false

/-! ### palletlaw01_PicoSigns: function 10 -/
def palletlaw01_PicoSigns.j0 : Nat → Bool → Int → Int → Int → Int → Int → Bool → Option (Bool)
 | 0, _, _, _, _, _, _, _ => none
 | k + 1, x9, x10, x12, x13, x15, x16, x86 => if x86 = true then (some false) else (if x13 = 0 then (if x9 = true then (if x15 = (wrap64 (-x12)) then (some (x16 == 0)) else (some false)) else (some false)) else (if x9 = true then (if x15 = (wrap64 ((wrap64 (-x12)) - 1)) then (some (x16 == (wrap64 (x10 - x13)))) else (some false)) else (some false)))
def palletlaw01_PicoSigns.f (k : Nat) (a0 : Int) (a1 : Int) (a2 : Int) (a3 : Int) : Option (Bool) := (palletlaw01_live.f k).bind fun t193 => (if t193 = true then ((pico_Scale.f k (wrap64 (a0)) (wrap64 (a1)) (wrap64 ((wrap64 (a2)) + 1))).bind fun bt194 => ((pico_Scale.f k (wrap64 (-(wrap64 (a0)))) (wrap64 (a1)) (wrap64 ((wrap64 (a2)) + 1))).bind fun bt197 => ((pico_Scale.f k (wrap64 (a0)) (wrap64 ((wrap64 ((wrap64 (a3)) + 1)) * (wrap64 (a1)))) (wrap64 ((wrap64 ((wrap64 (a3)) + 1)) * (wrap64 ((wrap64 (a2)) + 1))))).bind fun bt200 => (if bt194.2.2 = 0 then (if bt197.2.2 = 0 then (if bt200.2.2 = 0 then (if bt200.1 = bt194.1 then (palletlaw01_PicoSigns.j0 k t193 (wrap64 ((wrap64 (a2)) + 1)) bt194.1 bt194.2.1 bt197.1 bt197.2.1 (bt200.2.1 != (wrap64 ((wrap64 ((wrap64 (a3)) + 1)) * bt194.2.1)))) else (palletlaw01_PicoSigns.j0 k t193 (wrap64 ((wrap64 (a2)) + 1)) bt194.1 bt194.2.1 bt197.1 bt197.2.1 true)) else (palletlaw01_PicoSigns.j0 k t193 (wrap64 ((wrap64 (a2)) + 1)) bt194.1 bt194.2.1 bt197.1 bt197.2.1 true)) else (palletlaw01_PicoSigns.j0 k t193 (wrap64 ((wrap64 (a2)) + 1)) bt194.1 bt194.2.1 bt197.1 bt197.2.1 true)) else (palletlaw01_PicoSigns.j0 k t193 (wrap64 ((wrap64 (a2)) + 1)) bt194.1 bt194.2.1 bt197.1 bt197.2.1 true))))) else (some false))
theorem palletlaw01_PicoSigns.mono_l : ∀ k, (∀ y0 y1 y2 y3 y4 y5 y6, LeO (palletlaw01_PicoSigns.j0 k y0 y1 y2 y3 y4 y5 y6) (palletlaw01_PicoSigns.j0 (k + 1) y0 y1 y2 y3 y4 y5 y6))
 | 0 => fun _ _ _ _ _ _ _ r h => by simp [palletlaw01_PicoSigns.j0] at h
 | k + 1 => by
  have ih0 := palletlaw01_PicoSigns.mono_l k
  ·intro y0 y1 y2 y3 y4 y5 y6
   unfold palletlaw01_PicoSigns.j0
   repeat' first
   | (with_reducible exact ih0 _ _ _ _ _ _ _)
   | (with_reducible exact palletlaw01_live.mono _)
   | (with_reducible exact pico_Scale.mono _ _ _ _)
   | (with_reducible exact LeO.refl _)
   | (with_reducible exact LeO.none _)
   | (with_reducible refine LeO.ite ?_ ?_)
   | (with_reducible refine LeO.bind ?_ (fun _ => ?_))
   | exact ih0 _ _ _ _ _ _ _
   | exact palletlaw01_live.mono _
   | exact pico_Scale.mono _ _ _ _
   | exact LeO.none _
   | refine LeO.ite ?_ ?_
   | refine LeO.bind ?_ (fun _ => ?_)
theorem palletlaw01_PicoSigns.mono : ∀ a0 a1 a2 a3 k, LeO (palletlaw01_PicoSigns.f k a0 a1 a2 a3) (palletlaw01_PicoSigns.f (k + 1) a0 a1 a2 a3) := by
 intro a0 a1 a2 a3 k
 have ih0 := palletlaw01_PicoSigns.mono_l k
 unfold palletlaw01_PicoSigns.f
 repeat' first
   | (with_reducible exact ih0 _ _ _ _ _ _ _)
   | (with_reducible exact palletlaw01_live.mono _)
   | (with_reducible exact pico_Scale.mono _ _ _ _)
   | (with_reducible exact LeO.refl _)
   | (with_reducible exact LeO.none _)
   | (with_reducible refine LeO.ite ?_ ?_)
   | (with_reducible refine LeO.bind ?_ (fun _ => ?_))
   | exact ih0 _ _ _ _ _ _ _
   | exact palletlaw01_live.mono _
   | exact pico_Scale.mono _ _ _ _
   | exact LeO.none _
   | refine LeO.ite ?_ ?_
   | refine LeO.bind ?_ (fun _ => ?_)
set_option maxHeartbeats 8000000 in
set_option maxRecDepth 100000 in
theorem palletlaw01_PicoSigns.calls (k : Nat) (a0 : Int) (a1 : Int) (a2 : Int) (a3 : Int) (r : Bool) (w : World) (hr_ : Aside0 (r = true)) (h : palletlaw01_PicoSigns.f k a0 a1 a2 a3 = some r) :
  Calls Try.prog 10 #[.int .i32 a0, .int .u16 a1, .int .u16 a2, .int .u8 a3] w fun e w' => e = .returned (.bool r) ∧ Below w.heap.size w w' := by
 have HB := Aside0.mk (Below.refl w.heap.size w)
 have H : ((palletlaw01_live.f k).bind fun t193 => (if t193 = true then ((pico_Scale.f k (wrap64 (a0)) (wrap64 (a1)) (wrap64 ((wrap64 (a2)) + 1))).bind fun bt194 => ((pico_Scale.f k (wrap64 (-(wrap64 (a0)))) (wrap64 (a1)) (wrap64 ((wrap64 (a2)) + 1))).bind fun bt197 => ((pico_Scale.f k (wrap64 (a0)) (wrap64 ((wrap64 ((wrap64 (a3)) + 1)) * (wrap64 (a1)))) (wrap64 ((wrap64 ((wrap64 (a3)) + 1)) * (wrap64 ((wrap64 (a2)) + 1))))).bind fun bt200 => (if bt194.2.2 = 0 then (if bt197.2.2 = 0 then (if bt200.2.2 = 0 then (if bt200.1 = bt194.1 then (palletlaw01_PicoSigns.j0 k t193 (wrap64 ((wrap64 (a2)) + 1)) bt194.1 bt194.2.1 bt197.1 bt197.2.1 (bt200.2.1 != (wrap64 ((wrap64 ((wrap64 (a3)) + 1)) * bt194.2.1)))) else (palletlaw01_PicoSigns.j0 k t193 (wrap64 ((wrap64 (a2)) + 1)) bt194.1 bt194.2.1 bt197.1 bt197.2.1 true)) else (palletlaw01_PicoSigns.j0 k t193 (wrap64 ((wrap64 (a2)) + 1)) bt194.1 bt194.2.1 bt197.1 bt197.2.1 true)) else (palletlaw01_PicoSigns.j0 k t193 (wrap64 ((wrap64 (a2)) + 1)) bt194.1 bt194.2.1 bt197.1 bt197.2.1 true)) else (palletlaw01_PicoSigns.j0 k t193 (wrap64 ((wrap64 (a2)) + 1)) bt194.1 bt194.2.1 bt197.1 bt197.2.1 true))))) else (some false))) = some r := h
 clear h
 replace H := Option.bind_eq_some_iff.mp H
 obtain ⟨t193, A50, H⟩ := H
 replace H : (if t193 = true then ((pico_Scale.f k (wrap64 (a0)) (wrap64 (a1)) (wrap64 ((wrap64 (a2)) + 1))).bind fun bt194 => ((pico_Scale.f k (wrap64 (-(wrap64 (a0)))) (wrap64 (a1)) (wrap64 ((wrap64 (a2)) + 1))).bind fun bt197 => ((pico_Scale.f k (wrap64 (a0)) (wrap64 ((wrap64 ((wrap64 (a3)) + 1)) * (wrap64 (a1)))) (wrap64 ((wrap64 ((wrap64 (a3)) + 1)) * (wrap64 ((wrap64 (a2)) + 1))))).bind fun bt200 => (if bt194.2.2 = 0 then (if bt197.2.2 = 0 then (if bt200.2.2 = 0 then (if bt200.1 = bt194.1 then (palletlaw01_PicoSigns.j0 k t193 (wrap64 ((wrap64 (a2)) + 1)) bt194.1 bt194.2.1 bt197.1 bt197.2.1 (bt200.2.1 != (wrap64 ((wrap64 ((wrap64 (a3)) + 1)) * bt194.2.1)))) else (palletlaw01_PicoSigns.j0 k t193 (wrap64 ((wrap64 (a2)) + 1)) bt194.1 bt194.2.1 bt197.1 bt197.2.1 true)) else (palletlaw01_PicoSigns.j0 k t193 (wrap64 ((wrap64 (a2)) + 1)) bt194.1 bt194.2.1 bt197.1 bt197.2.1 true)) else (palletlaw01_PicoSigns.j0 k t193 (wrap64 ((wrap64 (a2)) + 1)) bt194.1 bt194.2.1 bt197.1 bt197.2.1 true)) else (palletlaw01_PicoSigns.j0 k t193 (wrap64 ((wrap64 (a2)) + 1)) bt194.1 bt194.2.1 bt197.1 bt197.2.1 true))))) else (some false)) = some r := H
 have A5 := Aside0.mk A50
 clear A50
 by_cases c6 : t193 = true
 ·subst c6
  have H1 : ((pico_Scale.f k (wrap64 (a0)) (wrap64 (a1)) (wrap64 ((wrap64 (a2)) + 1))).bind fun bt194 => ((pico_Scale.f k (wrap64 (-(wrap64 (a0)))) (wrap64 (a1)) (wrap64 ((wrap64 (a2)) + 1))).bind fun bt197 => ((pico_Scale.f k (wrap64 (a0)) (wrap64 ((wrap64 ((wrap64 (a3)) + 1)) * (wrap64 (a1)))) (wrap64 ((wrap64 ((wrap64 (a3)) + 1)) * (wrap64 ((wrap64 (a2)) + 1))))).bind fun bt200 => (if bt194.2.2 = 0 then (if bt197.2.2 = 0 then (if bt200.2.2 = 0 then (if bt200.1 = bt194.1 then (palletlaw01_PicoSigns.j0 k true (wrap64 ((wrap64 (a2)) + 1)) bt194.1 bt194.2.1 bt197.1 bt197.2.1 (bt200.2.1 != (wrap64 ((wrap64 ((wrap64 (a3)) + 1)) * bt194.2.1)))) else (palletlaw01_PicoSigns.j0 k true (wrap64 ((wrap64 (a2)) + 1)) bt194.1 bt194.2.1 bt197.1 bt197.2.1 true)) else (palletlaw01_PicoSigns.j0 k true (wrap64 ((wrap64 (a2)) + 1)) bt194.1 bt194.2.1 bt197.1 bt197.2.1 true)) else (palletlaw01_PicoSigns.j0 k true (wrap64 ((wrap64 (a2)) + 1)) bt194.1 bt194.2.1 bt197.1 bt197.2.1 true)) else (palletlaw01_PicoSigns.j0 k true (wrap64 ((wrap64 (a2)) + 1)) bt194.1 bt194.2.1 bt197.1 bt197.2.1 true))))) = some r := by rw [if_pos rfl] at H; exact H
  clear H
  have H := H1
  clear H1
  replace H := Option.bind_eq_some_iff.mp H
  obtain ⟨⟨t194, t195, t196⟩, A70, H⟩ := H
  replace H : ((pico_Scale.f k (wrap64 (-(wrap64 (a0)))) (wrap64 (a1)) (wrap64 ((wrap64 (a2)) + 1))).bind fun bt197 => ((pico_Scale.f k (wrap64 (a0)) (wrap64 ((wrap64 ((wrap64 (a3)) + 1)) * (wrap64 (a1)))) (wrap64 ((wrap64 ((wrap64 (a3)) + 1)) * (wrap64 ((wrap64 (a2)) + 1))))).bind fun bt200 => (if t196 = 0 then (if bt197.2.2 = 0 then (if bt200.2.2 = 0 then (if bt200.1 = t194 then (palletlaw01_PicoSigns.j0 k true (wrap64 ((wrap64 (a2)) + 1)) t194 t195 bt197.1 bt197.2.1 (bt200.2.1 != (wrap64 ((wrap64 ((wrap64 (a3)) + 1)) * t195)))) else (palletlaw01_PicoSigns.j0 k true (wrap64 ((wrap64 (a2)) + 1)) t194 t195 bt197.1 bt197.2.1 true)) else (palletlaw01_PicoSigns.j0 k true (wrap64 ((wrap64 (a2)) + 1)) t194 t195 bt197.1 bt197.2.1 true)) else (palletlaw01_PicoSigns.j0 k true (wrap64 ((wrap64 (a2)) + 1)) t194 t195 bt197.1 bt197.2.1 true)) else (palletlaw01_PicoSigns.j0 k true (wrap64 ((wrap64 (a2)) + 1)) t194 t195 bt197.1 bt197.2.1 true)))) = some r := H
  have A7 := Aside0.mk A70
  clear A70
  replace H := Option.bind_eq_some_iff.mp H
  obtain ⟨⟨t197, t198, t199⟩, A80, H⟩ := H
  replace H : ((pico_Scale.f k (wrap64 (a0)) (wrap64 ((wrap64 ((wrap64 (a3)) + 1)) * (wrap64 (a1)))) (wrap64 ((wrap64 ((wrap64 (a3)) + 1)) * (wrap64 ((wrap64 (a2)) + 1))))).bind fun bt200 => (if t196 = 0 then (if t199 = 0 then (if bt200.2.2 = 0 then (if bt200.1 = t194 then (palletlaw01_PicoSigns.j0 k true (wrap64 ((wrap64 (a2)) + 1)) t194 t195 t197 t198 (bt200.2.1 != (wrap64 ((wrap64 ((wrap64 (a3)) + 1)) * t195)))) else (palletlaw01_PicoSigns.j0 k true (wrap64 ((wrap64 (a2)) + 1)) t194 t195 t197 t198 true)) else (palletlaw01_PicoSigns.j0 k true (wrap64 ((wrap64 (a2)) + 1)) t194 t195 t197 t198 true)) else (palletlaw01_PicoSigns.j0 k true (wrap64 ((wrap64 (a2)) + 1)) t194 t195 t197 t198 true)) else (palletlaw01_PicoSigns.j0 k true (wrap64 ((wrap64 (a2)) + 1)) t194 t195 t197 t198 true))) = some r := H
  have A8 := Aside0.mk A80
  clear A80
  replace H := Option.bind_eq_some_iff.mp H
  obtain ⟨⟨t200, t201, t202⟩, A90, H⟩ := H
  replace H : (if t196 = 0 then (if t199 = 0 then (if t202 = 0 then (if t200 = t194 then (palletlaw01_PicoSigns.j0 k true (wrap64 ((wrap64 (a2)) + 1)) t194 t195 t197 t198 (t201 != (wrap64 ((wrap64 ((wrap64 (a3)) + 1)) * t195)))) else (palletlaw01_PicoSigns.j0 k true (wrap64 ((wrap64 (a2)) + 1)) t194 t195 t197 t198 true)) else (palletlaw01_PicoSigns.j0 k true (wrap64 ((wrap64 (a2)) + 1)) t194 t195 t197 t198 true)) else (palletlaw01_PicoSigns.j0 k true (wrap64 ((wrap64 (a2)) + 1)) t194 t195 t197 t198 true)) else (palletlaw01_PicoSigns.j0 k true (wrap64 ((wrap64 (a2)) + 1)) t194 t195 t197 t198 true)) = some r := H
  have A9 := Aside0.mk A90
  clear A90
  have HC10 := Aside0.mk H
  clear H
  go_enter Try.func10, Try.ntmps10
  go_upto_region 9 with (first | ((with_reducible refine gate_callee (f := 20) rfl ?_); refine goesL_ (some 21) rfl rfl Try.func20 (by kernel_rfl) rfl #[] rfl (by (try simp only [List.map_toArray, List.map_cons, List.map_nil]); first | done | rfl | (simp only [List.length_drop, List.length_take]; rfl)) ?_; (with_reducible refine (palletlaw01_live.calls k  true _ A5.out).mono ?_); rintro e w11 ⟨rfl, hb⟩; refine ⟨_, rfl, ?_⟩; have n0_ := Aside0.mk (below_step (by repeat (first | (with_reducible first | exact HB.out | apply below_alloc | apply pw_below_drewN | apply below_drew1) | exact HB.out)) hb); clear HB; have HB := n0_; clear n0_; (try clear hb); (try clear hb2); (try clear hk); (try clear hi)) | ((with_reducible refine gate_callee (f := 21) rfl ?_); refine goesL_ (some 36) rfl rfl Try.func21 (by kernel_rfl) rfl #[.int .i64 (wrap64 (a0)), .int .i64 (wrap64 (a1)), .int .i64 (wrap64 ((wrap64 (a2)) + 1))] rfl (by (try simp only [List.map_toArray, List.map_cons, List.map_nil]); first | done | rfl | (simp only [List.length_drop, List.length_take]; rfl)) ?_; (with_reducible refine (pico_Scale.calls k (wrap64 (a0)) (wrap64 (a1)) (wrap64 ((wrap64 (a2)) + 1)) t194 t195 t196 _ A7.out).mono ?_); rintro e w12 ⟨rfl, hb⟩; refine ⟨_, rfl, ?_⟩; have n0_ := Aside0.mk (below_step (by repeat (first | (with_reducible first | exact HB.out | apply below_alloc | apply pw_below_drewN | apply below_drew1) | exact HB.out)) hb); clear HB; have HB := n0_; clear n0_; (try clear hb); (try clear hb2); (try clear hk); (try clear hi)) | ((with_reducible refine gate_callee (f := 21) rfl ?_); refine goesL_ (some 47) rfl rfl Try.func21 (by kernel_rfl) rfl #[.int .i64 (wrap64 (-(wrap64 (a0)))), .int .i64 (wrap64 (a1)), .int .i64 (wrap64 ((wrap64 (a2)) + 1))] rfl (by (try simp only [List.map_toArray, List.map_cons, List.map_nil]); first | done | rfl | (simp only [List.length_drop, List.length_take]; rfl)) ?_; (with_reducible refine (pico_Scale.calls k (wrap64 (-(wrap64 (a0)))) (wrap64 (a1)) (wrap64 ((wrap64 (a2)) + 1)) t197 t198 t199 _ A8.out).mono ?_); rintro e w13 ⟨rfl, hb⟩; refine ⟨_, rfl, ?_⟩; have n0_ := Aside0.mk (below_step (by repeat (first | (with_reducible first | exact HB.out | apply below_alloc | apply pw_below_drewN | apply below_drew1) | exact HB.out)) hb); clear HB; have HB := n0_; clear n0_; (try clear hb); (try clear hb2); (try clear hk); (try clear hi)) | ((with_reducible refine gate_callee (f := 21) rfl ?_); refine goesL_ (some 61) rfl rfl Try.func21 (by kernel_rfl) rfl #[.int .i64 (wrap64 (a0)), .int .i64 (wrap64 ((wrap64 ((wrap64 (a3)) + 1)) * (wrap64 (a1)))), .int .i64 (wrap64 ((wrap64 ((wrap64 (a3)) + 1)) * (wrap64 ((wrap64 (a2)) + 1))))] rfl (by (try simp only [List.map_toArray, List.map_cons, List.map_nil]); first | done | rfl | (simp only [List.length_drop, List.length_take]; rfl)) ?_; (with_reducible refine (pico_Scale.calls k (wrap64 (a0)) (wrap64 ((wrap64 ((wrap64 (a3)) + 1)) * (wrap64 (a1)))) (wrap64 ((wrap64 ((wrap64 (a3)) + 1)) * (wrap64 ((wrap64 (a2)) + 1)))) t200 t201 t202 _ A9.out).mono ?_); rintro e w14 ⟨rfl, hb⟩; refine ⟨_, rfl, ?_⟩; have n0_ := Aside0.mk (below_step (by repeat (first | (with_reducible first | exact HB.out | apply below_alloc | apply pw_below_drewN | apply below_drew1) | exact HB.out)) hb); clear HB; have HB := n0_; clear n0_; (try clear hb); (try clear hb2); (try clear hk); (try clear hi)))
  (try simp only [Act.put, List.setIfInBounds_toArray, List.set_cons_zero, List.set_cons_succ])
  go_cut [86] (fun v86 wc => ∃ (kq : Nat) (x86_9 : Bool), v86 = .bool x86_9 ∧ Aside0 (palletlaw01_PicoSigns.j0 kq true (wrap64 ((wrap64 (a2)) + 1)) t194 t195 t197 t198 x86_9 = some r) ∧ Aside0 (kq ≤ k) ∧ Aside0 (Below w.heap.size w wc))
  case first =>
   have H := HC10.out
   clear HC10
   by_cases c15 : t196 = 0
   ·rw [if_pos c15] at H
    have c15b0 : (t196 == 0) = true := beq_iff_eq.mpr c15
    have c15b1 : (t196 != 0) = false := bne_eq_false_iff_eq.mpr c15
    clear c15
    (first | rw [c15b0] | (simp only [i64_w, i32_w]; rw [c15b0]) | skip)
    by_cases c16 : t199 = 0
    ·rw [if_pos c16] at H
     have c16b0 : (t199 == 0) = true := beq_iff_eq.mpr c16
     have c16b1 : (t199 != 0) = false := bne_eq_false_iff_eq.mpr c16
     clear c16
     by_cases c17 : t202 = 0
     ·rw [if_pos c17] at H
      have c17b0 : (t202 == 0) = true := beq_iff_eq.mpr c17
      have c17b1 : (t202 != 0) = false := bne_eq_false_iff_eq.mpr c17
      clear c17
      by_cases c18 : t200 = t194
      ·rw [if_pos c18] at H
       have c18b0 : (t200 == t194) = true := beq_iff_eq.mpr c18
       have c18b1 : (t200 != t194) = false := bne_eq_false_iff_eq.mpr c18
       clear c18
       have H' := Aside0.mk H
       clear H
       go_wp2
       go_meet
       case rel => exact ⟨_, ((t201 != (wrap64 ((wrap64 ((wrap64 (a3)) + 1)) * t195)))), (by first | rfl | (simp; done) | (simp [*]; done)), H', ⟨by first | omega | exact Nat.le_refl _⟩, ⟨by repeat (first | (with_reducible first | exact HB.out | apply below_alloc | apply pw_below_drewN | apply below_drew1) | exact HB.out)⟩⟩
      ·rw [if_neg c18] at H
       have c18b0 : (t200 == t194) = false := beq_eq_false_iff_ne.mpr c18
       have c18b1 : (t200 != t194) = true := bne_iff_ne.mpr c18
       have H' := Aside0.mk H
       clear H
       go_wp2
       go_meet
       case rel => exact ⟨_, (true), (by first | rfl | (simp; done) | (simp [*]; done)), H', ⟨by first | omega | exact Nat.le_refl _⟩, ⟨by repeat (first | (with_reducible first | exact HB.out | apply below_alloc | apply pw_below_drewN | apply below_drew1) | exact HB.out)⟩⟩
     ·rw [if_neg c17] at H
      have c17b0 : (t202 == 0) = false := beq_eq_false_iff_ne.mpr c17
      have c17b1 : (t202 != 0) = true := bne_iff_ne.mpr c17
      have H' := Aside0.mk H
      clear H
      go_wp2
      go_meet
      case rel => exact ⟨_, (true), (by first | rfl | (simp; done) | (simp [*]; done)), H', ⟨by first | omega | exact Nat.le_refl _⟩, ⟨by repeat (first | (with_reducible first | exact HB.out | apply below_alloc | apply pw_below_drewN | apply below_drew1) | exact HB.out)⟩⟩
    ·rw [if_neg c16] at H
     have c16b0 : (t199 == 0) = false := beq_eq_false_iff_ne.mpr c16
     have c16b1 : (t199 != 0) = true := bne_iff_ne.mpr c16
     have H' := Aside0.mk H
     clear H
     go_wp2
     go_meet
     case rel => exact ⟨_, (true), (by first | rfl | (simp; done) | (simp [*]; done)), H', ⟨by first | omega | exact Nat.le_refl _⟩, ⟨by repeat (first | (with_reducible first | exact HB.out | apply below_alloc | apply pw_below_drewN | apply below_drew1) | exact HB.out)⟩⟩
   ·rw [if_neg c15] at H
    have c15b0 : (t196 == 0) = false := beq_eq_false_iff_ne.mpr c15
    have c15b1 : (t196 != 0) = true := bne_iff_ne.mpr c15
    (first | rw [c15b0] | (simp only [i64_w, i32_w]; rw [c15b0]) | skip)
    have H' := Aside0.mk H
    clear H
    go_wp2
    go_meet
    case rel => exact ⟨_, (true), (by first | rfl | (simp; done) | (simp [*]; done)), H', ⟨by first | omega | exact Nat.le_refl _⟩, ⟨by repeat (first | (with_reducible first | exact HB.out | apply below_alloc | apply pw_below_drewN | apply below_drew1) | exact HB.out)⟩⟩
  case rest =>
   clear HC10
   try clear c1
   try clear c2
   try clear p2
   try clear c6
   try clear p6
   try clear c10
   try clear c15
   try clear c15b0
   try clear c15b1
   try clear c16
   try clear c16b0
   try clear c16b1
   try clear c17
   try clear c17b0
   try clear c17b1
   try clear c18
   try clear c18b0
   try clear c18b1
   obtain ⟨kq, x86_9, rfl, HA, HJ9, HB⟩ := hcut
   cases kq with
   | zero => exact absurd HA.out (by simp [palletlaw01_PicoSigns.j0])
   | succ kj9 =>
    have H := HA.out
    clear HA
    simp only [palletlaw01_PicoSigns.j0] at H
    by_cases c19 : x86_9 = true
    ·subst c19
     have H1 : (some false) = some r := by rw [if_pos rfl] at H; exact H
     clear H
     have H := H1
     clear H1
     obtain rfl := Option.some.inj H
     exact absurd hr_.out (by decide)
    ·replace c19 := Bool.eq_false_iff.mpr c19
     subst c19
     have H1 : (if t195 = 0 then (if true = true then (if t197 = (wrap64 (-t194)) then (some (t198 == 0)) else (some false)) else (some false)) else (if true = true then (if t197 = (wrap64 ((wrap64 (-t194)) - 1)) then (some (t198 == (wrap64 ((wrap64 ((wrap64 (a2)) + 1)) - t195)))) else (some false)) else (some false))) = some r := by rw [if_neg (show ¬ (false = true) by decide)] at H; exact H
     clear H
     have H := H1
     clear H1
     by_cases c20 : t195 = 0
     ·rw [if_pos c20] at H
      have c20b0 : (t195 == 0) = true := beq_iff_eq.mpr c20
      have c20b1 : (t195 != 0) = false := bne_eq_false_iff_eq.mpr c20
      clear c20
      have H1 : (if t197 = (wrap64 (-t194)) then (some (t198 == 0)) else (some false)) = some r := by first | (rw [if_pos rfl] at H; exact H) | exact H
      clear H
      have H := H1
      clear H1
      by_cases c21 : t197 = (wrap64 (-t194))
      ·rw [if_pos c21] at H
       have c21b0 : (t197 == (wrap64 (-t194))) = true := beq_iff_eq.mpr c21
       have c21b1 : (t197 != (wrap64 (-t194))) = false := bne_eq_false_iff_eq.mpr c21
       clear c21
       obtain rfl := Option.some.inj H
       go_wp2
       go_ret
       exact ⟨by first | rfl | (simp [errW_none, errW_some] <;> rfl) | (simp [*, errW_none, errW_some] <;> rfl), by repeat (first | (with_reducible first | exact HB.out | apply below_alloc | apply pw_below_drewN | apply below_drew1) | exact HB.out)⟩
      ·rw [if_neg c21] at H
       have c21b0 : (t197 == (wrap64 (-t194))) = false := beq_eq_false_iff_ne.mpr c21
       have c21b1 : (t197 != (wrap64 (-t194))) = true := bne_iff_ne.mpr c21
       obtain rfl := Option.some.inj H
       exact absurd hr_.out (by decide)
     ·rw [if_neg c20] at H
      have c20b0 : (t195 == 0) = false := beq_eq_false_iff_ne.mpr c20
      have c20b1 : (t195 != 0) = true := bne_iff_ne.mpr c20
      have H1 : (if t197 = (wrap64 ((wrap64 (-t194)) - 1)) then (some (t198 == (wrap64 ((wrap64 ((wrap64 (a2)) + 1)) - t195)))) else (some false)) = some r := by first | (rw [if_pos rfl] at H; exact H) | exact H
      clear H
      have H := H1
      clear H1
      by_cases c22 : t197 = (wrap64 ((wrap64 (-t194)) - 1))
      ·rw [if_pos c22] at H
       have c22b0 : (t197 == (wrap64 ((wrap64 (-t194)) - 1))) = true := beq_iff_eq.mpr c22
       have c22b1 : (t197 != (wrap64 ((wrap64 (-t194)) - 1))) = false := bne_eq_false_iff_eq.mpr c22
       clear c22
       obtain rfl := Option.some.inj H
       go_wp2
       go_ret
       exact ⟨by first | rfl | (simp [errW_none, errW_some] <;> rfl) | (simp [*, errW_none, errW_some] <;> rfl), by repeat (first | (with_reducible first | exact HB.out | apply below_alloc | apply pw_below_drewN | apply below_drew1) | exact HB.out)⟩
      ·rw [if_neg c22] at H
       have c22b0 : (t197 == (wrap64 ((wrap64 (-t194)) - 1))) = false := beq_eq_false_iff_ne.mpr c22
       have c22b1 : (t197 != (wrap64 ((wrap64 (-t194)) - 1))) = true := bne_iff_ne.mpr c22
       obtain rfl := Option.some.inj H
       exact absurd hr_.out (by decide)
 ·replace c6 := Bool.eq_false_iff.mpr c6
  subst c6
  have H1 : (some false) = some r := by rw [if_neg (show ¬ (false = true) by decide)] at H; exact H
  clear H
  have H := H1
  clear H1
  obtain rfl := Option.some.inj H
  exact absurd hr_.out (by decide)

end Go.Proofs.Ytmkjljekofondaa.Print
