-- PRINTED by print.py (a twelfth state) out of the translation. Not trusted: Lean checks it.
import Derived.Test.YtogdelhofdelgaaPrint0
import Derived.Test.YtogdelhofdelgaaPrint8
import Derived.Test.YtogdelhofdelgaaPrint10
import Derived.Test.YtogdelhofdelgaaPrint11
namespace Go.Proofs.Ytogdelhofdelgaa.Print
open Go.RowKit Go.Proofs.YtogdelhofdelgaaW.PrintWords Go.Proofs.YtogdelhofdelgaaW.PrintLast Go.Proofs.YtogdelhofdelgaaW.PrintMore Go.Proofs.YtogdelhofdelgaaX
attribute [local go_sem] str_lss str_geq max2_int min2_int max_two min_two max_three min_three max_four min_four   -- for this text's walks alone
set_option linter.unusedVariables false
set_option linter.unusedSimpArgs false

/-! ### palletlaw08_FrameMembers: function 4 -/
def palletlaw08_FrameMembers.f (k : Nat) (a0 : Int) (a1 : Int) : Option (Bool) := (palletlaw08_live.f k).bind fun t221 => (if t221 = true then ((frame_Has.f a0 a1).bind fun t222 => ((palletref08_Has.f a0 a1).bind fun t223 => (if (t222 == t223) = true then ((frame_With.f a0 a1).bind fun t224 => ((palletref08_With.f a0 a1).bind fun t225 => (if t224 = t225 then ((frame_Without.f a0 a1).bind fun t226 => ((palletref08_Without.f a0 a1).bind fun t227 => (if t226 = t227 then ((frame_Count.f a0).bind fun t228 => ((palletref08_Count.f k a0).bind fun t229 => (some (t228 == t229)))) else (some false)))) else (some false)))) else (some false)))) else (some false))
theorem palletlaw08_FrameMembers.mono : ∀ a0 a1 k, LeO (palletlaw08_FrameMembers.f k a0 a1) (palletlaw08_FrameMembers.f (k + 1) a0 a1) := by
 intro a0 a1 k
 unfold palletlaw08_FrameMembers.f
 repeat' first
   | (with_reducible exact palletlaw08_live.mono _)
   | (with_reducible exact palletref08_Count.mono _ _)
   | (with_reducible exact LeO.refl _)
   | (with_reducible exact LeO.none _)
   | (with_reducible refine LeO.ite ?_ ?_)
   | (with_reducible refine LeO.bind ?_ (fun _ => ?_))
   | exact palletlaw08_live.mono _
   | exact palletref08_Count.mono _ _
   | exact LeO.none _
   | refine LeO.ite ?_ ?_
   | refine LeO.bind ?_ (fun _ => ?_)
set_option maxHeartbeats 8000000 in
set_option maxRecDepth 100000 in
theorem palletlaw08_FrameMembers.calls (k : Nat) (a0 : Int) (a1 : Int) (r : Bool) (w : World) (hr_ : Aside0 (r = true)) (h : palletlaw08_FrameMembers.f k a0 a1 = some r) :
  Calls Try.prog 4 #[.int .u16 a0, .int .i64 a1] w fun e w' => e = .returned (.bool r) ∧ Below w.heap.size w w' := by
 have HB := Aside0.mk (Below.refl w.heap.size w)
 have H : ((palletlaw08_live.f k).bind fun t221 => (if t221 = true then ((frame_Has.f a0 a1).bind fun t222 => ((palletref08_Has.f a0 a1).bind fun t223 => (if (t222 == t223) = true then ((frame_With.f a0 a1).bind fun t224 => ((palletref08_With.f a0 a1).bind fun t225 => (if t224 = t225 then ((frame_Without.f a0 a1).bind fun t226 => ((palletref08_Without.f a0 a1).bind fun t227 => (if t226 = t227 then ((frame_Count.f a0).bind fun t228 => ((palletref08_Count.f k a0).bind fun t229 => (some (t228 == t229)))) else (some false)))) else (some false)))) else (some false)))) else (some false))) = some r := h
 clear h
 replace H := Option.bind_eq_some_iff.mp H
 obtain ⟨t221, A30, H⟩ := H
 replace H : (if t221 = true then ((frame_Has.f a0 a1).bind fun t222 => ((palletref08_Has.f a0 a1).bind fun t223 => (if (t222 == t223) = true then ((frame_With.f a0 a1).bind fun t224 => ((palletref08_With.f a0 a1).bind fun t225 => (if t224 = t225 then ((frame_Without.f a0 a1).bind fun t226 => ((palletref08_Without.f a0 a1).bind fun t227 => (if t226 = t227 then ((frame_Count.f a0).bind fun t228 => ((palletref08_Count.f k a0).bind fun t229 => (some (t228 == t229)))) else (some false)))) else (some false)))) else (some false)))) else (some false)) = some r := H
 have A3 := Aside0.mk A30
 clear A30
 by_cases c4 : t221 = true
 ·subst c4
  have H1 : ((frame_Has.f a0 a1).bind fun t222 => ((palletref08_Has.f a0 a1).bind fun t223 => (if (t222 == t223) = true then ((frame_With.f a0 a1).bind fun t224 => ((palletref08_With.f a0 a1).bind fun t225 => (if t224 = t225 then ((frame_Without.f a0 a1).bind fun t226 => ((palletref08_Without.f a0 a1).bind fun t227 => (if t226 = t227 then ((frame_Count.f a0).bind fun t228 => ((palletref08_Count.f k a0).bind fun t229 => (some (t228 == t229)))) else (some false)))) else (some false)))) else (some false)))) = some r := by rw [if_pos rfl] at H; exact H
  clear H
  have H := H1
  clear H1
  replace H := Option.bind_eq_some_iff.mp H
  obtain ⟨t222, A50, H⟩ := H
  replace H : ((palletref08_Has.f a0 a1).bind fun t223 => (if (t222 == t223) = true then ((frame_With.f a0 a1).bind fun t224 => ((palletref08_With.f a0 a1).bind fun t225 => (if t224 = t225 then ((frame_Without.f a0 a1).bind fun t226 => ((palletref08_Without.f a0 a1).bind fun t227 => (if t226 = t227 then ((frame_Count.f a0).bind fun t228 => ((palletref08_Count.f k a0).bind fun t229 => (some (t228 == t229)))) else (some false)))) else (some false)))) else (some false))) = some r := H
  have A5 := Aside0.mk A50
  clear A50
  replace H := Option.bind_eq_some_iff.mp H
  obtain ⟨t223, A60, H⟩ := H
  replace H : (if (t222 == t223) = true then ((frame_With.f a0 a1).bind fun t224 => ((palletref08_With.f a0 a1).bind fun t225 => (if t224 = t225 then ((frame_Without.f a0 a1).bind fun t226 => ((palletref08_Without.f a0 a1).bind fun t227 => (if t226 = t227 then ((frame_Count.f a0).bind fun t228 => ((palletref08_Count.f k a0).bind fun t229 => (some (t228 == t229)))) else (some false)))) else (some false)))) else (some false)) = some r := H
  have A6 := Aside0.mk A60
  clear A60
  by_cases c7 : (t222 == t223) = true
  ·rw [if_pos c7] at H
   have c7b0 : (t222 == t223) = true := c7
   (try (have c7b1 : decide (t222 = t223) = true := by simpa using c7))
   (try (have c7b2 : (t222 == t223) = true := by simpa using c7))
   clear c7
   replace H := Option.bind_eq_some_iff.mp H
   obtain ⟨t224, A80, H⟩ := H
   replace H : ((palletref08_With.f a0 a1).bind fun t225 => (if t224 = t225 then ((frame_Without.f a0 a1).bind fun t226 => ((palletref08_Without.f a0 a1).bind fun t227 => (if t226 = t227 then ((frame_Count.f a0).bind fun t228 => ((palletref08_Count.f k a0).bind fun t229 => (some (t228 == t229)))) else (some false)))) else (some false))) = some r := H
   have A8 := Aside0.mk A80
   clear A80
   replace H := Option.bind_eq_some_iff.mp H
   obtain ⟨t225, A90, H⟩ := H
   replace H : (if t224 = t225 then ((frame_Without.f a0 a1).bind fun t226 => ((palletref08_Without.f a0 a1).bind fun t227 => (if t226 = t227 then ((frame_Count.f a0).bind fun t228 => ((palletref08_Count.f k a0).bind fun t229 => (some (t228 == t229)))) else (some false)))) else (some false)) = some r := H
   have A9 := Aside0.mk A90
   clear A90
   by_cases c10 : t224 = t225
   ·rw [if_pos c10] at H
    have c10b0 : (t224 == t225) = true := beq_iff_eq.mpr c10
    have c10b1 : (t224 != t225) = false := bne_eq_false_iff_eq.mpr c10
    clear c10
    replace H := Option.bind_eq_some_iff.mp H
    obtain ⟨t226, A110, H⟩ := H
    replace H : ((palletref08_Without.f a0 a1).bind fun t227 => (if t226 = t227 then ((frame_Count.f a0).bind fun t228 => ((palletref08_Count.f k a0).bind fun t229 => (some (t228 == t229)))) else (some false))) = some r := H
    have A11 := Aside0.mk A110
    clear A110
    replace H := Option.bind_eq_some_iff.mp H
    obtain ⟨t227, A120, H⟩ := H
    replace H : (if t226 = t227 then ((frame_Count.f a0).bind fun t228 => ((palletref08_Count.f k a0).bind fun t229 => (some (t228 == t229)))) else (some false)) = some r := H
    have A12 := Aside0.mk A120
    clear A120
    by_cases c13 : t226 = t227
    ·rw [if_pos c13] at H
     have c13b0 : (t226 == t227) = true := beq_iff_eq.mpr c13
     have c13b1 : (t226 != t227) = false := bne_eq_false_iff_eq.mpr c13
     clear c13
     replace H := Option.bind_eq_some_iff.mp H
     obtain ⟨t228, A140, H⟩ := H
     replace H : ((palletref08_Count.f k a0).bind fun t229 => (some (t228 == t229))) = some r := H
     have A14 := Aside0.mk A140
     clear A140
     replace H := Option.bind_eq_some_iff.mp H
     obtain ⟨t229, A150, H⟩ := H
     replace H : (some (t228 == t229)) = some r := H
     have A15 := Aside0.mk A150
     clear A150
     obtain rfl := Option.some.inj H
     go_enter Try.func4, Try.ntmps4
     go_wp2_with (first | ((with_reducible refine gate_callee (f := 8) rfl ?_); refine goesL_ (some 6) rfl rfl Try.func8 (by kernel_rfl) rfl #[] rfl (by (try simp only [List.map_toArray, List.map_cons, List.map_nil]); first | done | rfl | (simp only [List.length_drop, List.length_take]; first | rfl | (rw [Nat.min_eq_left (Int.toNat_le.2 (of_decide_eq_true (by assumption)))]; rfl))) ?_; (with_reducible refine (palletlaw08_live.calls k  true _ A3.out).mono ?_); rintro e w16 ⟨rfl, hb⟩; refine ⟨_, rfl, ?_⟩; have n0_ := Aside0.mk (below_step (by repeat (first | (with_reducible first | exact HB.out | apply below_alloc | apply pw_below_drewN | apply below_drew1) | exact HB.out)) hb); clear HB; have HB := n0_; clear n0_; (try clear hb); (try clear hb2); (try clear hk); (try clear hi)) | (go_at_call 12; (with_reducible refine (frame_Has.calls a0 a1 t222 _ A5.out).mono ?_); rintro e w' ⟨rfl, ⟨nd, rfl⟩⟩) | (go_at_call 13; (with_reducible refine (palletref08_Has.calls a0 a1 t223 _ A6.out).mono ?_); rintro e w' ⟨rfl, ⟨nd, rfl⟩⟩) | (go_at_call 14; (with_reducible refine (frame_With.calls a0 a1 t224 _ A8.out).mono ?_); rintro e w' ⟨rfl, ⟨nd, rfl⟩⟩) | (go_at_call 15; (with_reducible refine (palletref08_With.calls a0 a1 t225 _ A9.out).mono ?_); rintro e w' ⟨rfl, ⟨nd, rfl⟩⟩) | (go_at_call 16; (with_reducible refine (frame_Without.calls a0 a1 t226 _ A11.out).mono ?_); rintro e w' ⟨rfl, ⟨nd, rfl⟩⟩) | (go_at_call 17; (with_reducible refine (palletref08_Without.calls a0 a1 t227 _ A12.out).mono ?_); rintro e w' ⟨rfl, ⟨nd, rfl⟩⟩) | (go_at_call 18; (with_reducible refine (frame_Count.calls a0 t228 _ A14.out).mono ?_); rintro e w' ⟨rfl, ⟨nd, rfl⟩⟩) | (go_at_call 19; (with_reducible refine (palletref08_Count.calls k a0 t229 _ A15.out).mono ?_); rintro e w' ⟨rfl, ⟨nd, rfl⟩⟩))
     go_ret
     exact ⟨by first | rfl | (simp [errW_none, errW_some] <;> rfl) | (simp [*, errW_none, errW_some] <;> rfl), by repeat (first | (with_reducible first | exact HB.out | apply below_alloc | apply pw_below_drewN | apply below_drew1) | exact HB.out)⟩
    ·rw [if_neg c13] at H
     have c13b0 : (t226 == t227) = false := beq_eq_false_iff_ne.mpr c13
     have c13b1 : (t226 != t227) = true := bne_iff_ne.mpr c13
     obtain rfl := Option.some.inj H
     exact absurd hr_.out (by decide)
   ·rw [if_neg c10] at H
    have c10b0 : (t224 == t225) = false := beq_eq_false_iff_ne.mpr c10
    have c10b1 : (t224 != t225) = true := bne_iff_ne.mpr c10
    obtain rfl := Option.some.inj H
    exact absurd hr_.out (by decide)
  ·rw [if_neg c7] at H
   have c7b0 : (t222 == t223) = false := by simpa using c7
   (try (have c7b1 : decide (t222 = t223) = false := by simpa using c7))
   (try (have c7b2 : (t222 == t223) = false := by simpa using c7))
   (try (have c7b3 : ¬ (t222 = t223) := by simpa using c7))
   clear c7
   obtain rfl := Option.some.inj H
   exact absurd hr_.out (by decide)
 ·replace c4 := Bool.eq_false_iff.mpr c4
  subst c4
  have H1 : (some false) = some r := by rw [if_neg (show ¬ (false = true) by decide)] at H; exact H
  clear H
  have H := H1
  clear H1
  obtain rfl := Option.some.inj H
  exact absurd hr_.out (by decide)

end Go.Proofs.Ytogdelhofdelgaa.Print
