-- PRINTED by print.py (a twelfth state) out of the translation. Not trusted: Lean checks it.
import Derived.Test.YtogdelhofdelgaaPrint0
import Derived.Test.YtogdelhofdelgaaPrint8
import Derived.Test.YtogdelhofdelgaaPrint10
namespace Go.Proofs.Ytogdelhofdelgaa.Print
open Go.RowKit Go.Proofs.YtogdelhofdelgaaW.PrintWords Go.Proofs.YtogdelhofdelgaaW.PrintLast Go.Proofs.YtogdelhofdelgaaW.PrintMore Go.Proofs.YtogdelhofdelgaaX
attribute [local go_sem] str_lss str_geq max2_int min2_int max_two min_two max_three min_three max_four min_four   -- for this text's walks alone
set_option linter.unusedVariables false
set_option linter.unusedSimpArgs false

/-! ### palletlaw08_FrameSets: function 5 -/
mutual
def palletlaw08_FrameSets.j0 : Nat → Int → Int → Int → Bool → Int → Int → Bool → Option (Bool)
 | 0, _, _, _, _, _, _, _ => none
 | k + 1, x0, x1, x2, x7, x8, x9, x44 => if x44 = true then (some false) else (palletlaw08_FrameSets.l0 k x0 x1 x2 x7 x8 x9 0)
def palletlaw08_FrameSets.l0 : Nat → Int → Int → Int → Bool → Int → Int → Int → Option (Bool)
 | 0, _, _, _, _, _, _, _ => none
 | k + 1, x0, x1, x2, x7, x8, x9, x45 => if x45 < 16 then (if x45 = x1 then (palletlaw08_FrameSets.l0 k x0 x1 x2 x7 x8 x9 (wrap64 (x45 + 1))) else ((frame_Has.f x8 x45).bind fun t237 => ((frame_Has.f x0 x45).bind fun t238 => (if (t237 != t238) = true then (some false) else ((frame_Has.f x9 x45).bind fun t239 => ((frame_Has.f x0 x45).bind fun t240 => (if (t239 != t240) = true then (some false) else (palletlaw08_FrameSets.l0 k x0 x1 x2 x7 x8 x9 (wrap64 (x45 + 1)))))))))) else (if x7 = true then ((frame_With.f x0 x1).bind fun t241 => ((frame_With.f t241 x2).bind fun t242 => ((frame_With.f x0 x2).bind fun t243 => ((frame_With.f t243 x1).bind fun t244 => (if t242 = t244 then ((frame_Without.f x0 x1).bind fun t245 => ((frame_Without.f t245 x2).bind fun t246 => ((frame_Without.f x0 x2).bind fun t247 => ((frame_Without.f t247 x1).bind fun t248 => (some (t246 == t248)))))) else (some false)))))) else (some false))
end
def palletlaw08_FrameSets.f (k : Nat) (a0 : Int) (a1 : Int) (a2 : Int) : Option (Bool) := (palletlaw08_live.f k).bind fun t230 => (if t230 = true then ((frame_With.f a0 (Int.tmod (wrap64 ((Int.tmod a1 16) + 16)) 16)).bind fun t231 => ((frame_Without.f a0 (Int.tmod (wrap64 ((Int.tmod a1 16) + 16)) 16)).bind fun t232 => ((frame_Has.f t231 (Int.tmod (wrap64 ((Int.tmod a1 16) + 16)) 16)).bind fun t233 => (if t233 = true then ((frame_Has.f t232 (Int.tmod (wrap64 ((Int.tmod a1 16) + 16)) 16)).bind fun t234 => (if t234 = true then (palletlaw08_FrameSets.j0 k a0 (Int.tmod (wrap64 ((Int.tmod a1 16) + 16)) 16) (Int.tmod (wrap64 ((Int.tmod a2 16) + 16)) 16) t230 t231 t232 true) else ((frame_Count.f t231).bind fun t235 => ((frame_Count.f t232).bind fun t236 => (palletlaw08_FrameSets.j0 k a0 (Int.tmod (wrap64 ((Int.tmod a1 16) + 16)) 16) (Int.tmod (wrap64 ((Int.tmod a2 16) + 16)) 16) t230 t231 t232 (t235 != (wrap64 (t236 + 1)))))))) else (palletlaw08_FrameSets.j0 k a0 (Int.tmod (wrap64 ((Int.tmod a1 16) + 16)) 16) (Int.tmod (wrap64 ((Int.tmod a2 16) + 16)) 16) t230 t231 t232 true))))) else (some false))
theorem palletlaw08_FrameSets.mono_l : ∀ k, (∀ y0 y1 y2 y3 y4 y5 y6, LeO (palletlaw08_FrameSets.j0 k y0 y1 y2 y3 y4 y5 y6) (palletlaw08_FrameSets.j0 (k + 1) y0 y1 y2 y3 y4 y5 y6)) ∧ (∀ y0 y1 y2 y3 y4 y5 y6, LeO (palletlaw08_FrameSets.l0 k y0 y1 y2 y3 y4 y5 y6) (palletlaw08_FrameSets.l0 (k + 1) y0 y1 y2 y3 y4 y5 y6))
 | 0 => ⟨fun _ _ _ _ _ _ _ r h => by simp [palletlaw08_FrameSets.j0] at h, fun _ _ _ _ _ _ _ r h => by simp [palletlaw08_FrameSets.l0] at h⟩
 | k + 1 => by
  obtain ⟨ih0, ih1⟩ := palletlaw08_FrameSets.mono_l k
  refine ⟨?_, ?_⟩
  ·intro y0 y1 y2 y3 y4 y5 y6
   unfold palletlaw08_FrameSets.j0
   repeat' first
   | (with_reducible exact ih0 _ _ _ _ _ _ _)
   | (with_reducible exact ih1 _ _ _ _ _ _ _)
   | (with_reducible exact palletlaw08_live.mono _)
   | (with_reducible exact LeO.refl _)
   | (with_reducible exact LeO.none _)
   | (with_reducible refine LeO.ite ?_ ?_)
   | (with_reducible refine LeO.bind ?_ (fun _ => ?_))
   | exact ih0 _ _ _ _ _ _ _
   | exact ih1 _ _ _ _ _ _ _
   | exact palletlaw08_live.mono _
   | exact LeO.none _
   | refine LeO.ite ?_ ?_
   | refine LeO.bind ?_ (fun _ => ?_)
  ·intro y0 y1 y2 y3 y4 y5 y6
   unfold palletlaw08_FrameSets.l0
   repeat' first
   | (with_reducible exact ih0 _ _ _ _ _ _ _)
   | (with_reducible exact ih1 _ _ _ _ _ _ _)
   | (with_reducible exact palletlaw08_live.mono _)
   | (with_reducible exact LeO.refl _)
   | (with_reducible exact LeO.none _)
   | (with_reducible refine LeO.ite ?_ ?_)
   | (with_reducible refine LeO.bind ?_ (fun _ => ?_))
   | exact ih0 _ _ _ _ _ _ _
   | exact ih1 _ _ _ _ _ _ _
   | exact palletlaw08_live.mono _
   | exact LeO.none _
   | refine LeO.ite ?_ ?_
   | refine LeO.bind ?_ (fun _ => ?_)
theorem palletlaw08_FrameSets.mono : ∀ a0 a1 a2 k, LeO (palletlaw08_FrameSets.f k a0 a1 a2) (palletlaw08_FrameSets.f (k + 1) a0 a1 a2) := by
 intro a0 a1 a2 k
 obtain ⟨ih0, ih1⟩ := palletlaw08_FrameSets.mono_l k
 unfold palletlaw08_FrameSets.f
 repeat' first
   | (with_reducible exact ih0 _ _ _ _ _ _ _)
   | (with_reducible exact ih1 _ _ _ _ _ _ _)
   | (with_reducible exact palletlaw08_live.mono _)
   | (with_reducible exact LeO.refl _)
   | (with_reducible exact LeO.none _)
   | (with_reducible refine LeO.ite ?_ ?_)
   | (with_reducible refine LeO.bind ?_ (fun _ => ?_))
   | exact ih0 _ _ _ _ _ _ _
   | exact ih1 _ _ _ _ _ _ _
   | exact palletlaw08_live.mono _
   | exact LeO.none _
   | refine LeO.ite ?_ ?_
   | refine LeO.bind ?_ (fun _ => ?_)
set_option maxHeartbeats 8000000 in
set_option maxRecDepth 100000 in
theorem palletlaw08_FrameSets.calls (k : Nat) (a0 : Int) (a1 : Int) (a2 : Int) (r : Bool) (w : World) (hr_ : Aside0 (r = true)) (h : palletlaw08_FrameSets.f k a0 a1 a2 = some r) :
  Calls Try.prog 5 #[.int .u16 a0, .int .i64 a1, .int .i64 a2] w fun e w' => e = .returned (.bool r) ∧ Below w.heap.size w w' := by
 have HB := Aside0.mk (Below.refl w.heap.size w)
 have H : ((palletlaw08_live.f k).bind fun t230 => (if t230 = true then ((frame_With.f a0 (Int.tmod (wrap64 ((Int.tmod a1 16) + 16)) 16)).bind fun t231 => ((frame_Without.f a0 (Int.tmod (wrap64 ((Int.tmod a1 16) + 16)) 16)).bind fun t232 => ((frame_Has.f t231 (Int.tmod (wrap64 ((Int.tmod a1 16) + 16)) 16)).bind fun t233 => (if t233 = true then ((frame_Has.f t232 (Int.tmod (wrap64 ((Int.tmod a1 16) + 16)) 16)).bind fun t234 => (if t234 = true then (palletlaw08_FrameSets.j0 k a0 (Int.tmod (wrap64 ((Int.tmod a1 16) + 16)) 16) (Int.tmod (wrap64 ((Int.tmod a2 16) + 16)) 16) t230 t231 t232 true) else ((frame_Count.f t231).bind fun t235 => ((frame_Count.f t232).bind fun t236 => (palletlaw08_FrameSets.j0 k a0 (Int.tmod (wrap64 ((Int.tmod a1 16) + 16)) 16) (Int.tmod (wrap64 ((Int.tmod a2 16) + 16)) 16) t230 t231 t232 (t235 != (wrap64 (t236 + 1)))))))) else (palletlaw08_FrameSets.j0 k a0 (Int.tmod (wrap64 ((Int.tmod a1 16) + 16)) 16) (Int.tmod (wrap64 ((Int.tmod a2 16) + 16)) 16) t230 t231 t232 true))))) else (some false))) = some r := h
 clear h
 replace H := Option.bind_eq_some_iff.mp H
 obtain ⟨t230, A40, H⟩ := H
 replace H : (if t230 = true then ((frame_With.f a0 (Int.tmod (wrap64 ((Int.tmod a1 16) + 16)) 16)).bind fun t231 => ((frame_Without.f a0 (Int.tmod (wrap64 ((Int.tmod a1 16) + 16)) 16)).bind fun t232 => ((frame_Has.f t231 (Int.tmod (wrap64 ((Int.tmod a1 16) + 16)) 16)).bind fun t233 => (if t233 = true then ((frame_Has.f t232 (Int.tmod (wrap64 ((Int.tmod a1 16) + 16)) 16)).bind fun t234 => (if t234 = true then (palletlaw08_FrameSets.j0 k a0 (Int.tmod (wrap64 ((Int.tmod a1 16) + 16)) 16) (Int.tmod (wrap64 ((Int.tmod a2 16) + 16)) 16) t230 t231 t232 true) else ((frame_Count.f t231).bind fun t235 => ((frame_Count.f t232).bind fun t236 => (palletlaw08_FrameSets.j0 k a0 (Int.tmod (wrap64 ((Int.tmod a1 16) + 16)) 16) (Int.tmod (wrap64 ((Int.tmod a2 16) + 16)) 16) t230 t231 t232 (t235 != (wrap64 (t236 + 1)))))))) else (palletlaw08_FrameSets.j0 k a0 (Int.tmod (wrap64 ((Int.tmod a1 16) + 16)) 16) (Int.tmod (wrap64 ((Int.tmod a2 16) + 16)) 16) t230 t231 t232 true))))) else (some false)) = some r := H
 have A4 := Aside0.mk A40
 clear A40
 by_cases c5 : t230 = true
 ·subst c5
  have H1 : ((frame_With.f a0 (Int.tmod (wrap64 ((Int.tmod a1 16) + 16)) 16)).bind fun t231 => ((frame_Without.f a0 (Int.tmod (wrap64 ((Int.tmod a1 16) + 16)) 16)).bind fun t232 => ((frame_Has.f t231 (Int.tmod (wrap64 ((Int.tmod a1 16) + 16)) 16)).bind fun t233 => (if t233 = true then ((frame_Has.f t232 (Int.tmod (wrap64 ((Int.tmod a1 16) + 16)) 16)).bind fun t234 => (if t234 = true then (palletlaw08_FrameSets.j0 k a0 (Int.tmod (wrap64 ((Int.tmod a1 16) + 16)) 16) (Int.tmod (wrap64 ((Int.tmod a2 16) + 16)) 16) true t231 t232 true) else ((frame_Count.f t231).bind fun t235 => ((frame_Count.f t232).bind fun t236 => (palletlaw08_FrameSets.j0 k a0 (Int.tmod (wrap64 ((Int.tmod a1 16) + 16)) 16) (Int.tmod (wrap64 ((Int.tmod a2 16) + 16)) 16) true t231 t232 (t235 != (wrap64 (t236 + 1)))))))) else (palletlaw08_FrameSets.j0 k a0 (Int.tmod (wrap64 ((Int.tmod a1 16) + 16)) 16) (Int.tmod (wrap64 ((Int.tmod a2 16) + 16)) 16) true t231 t232 true))))) = some r := by rw [if_pos rfl] at H; exact H
  clear H
  have H := H1
  clear H1
  replace H := Option.bind_eq_some_iff.mp H
  obtain ⟨t231, A60, H⟩ := H
  replace H : ((frame_Without.f a0 (Int.tmod (wrap64 ((Int.tmod a1 16) + 16)) 16)).bind fun t232 => ((frame_Has.f t231 (Int.tmod (wrap64 ((Int.tmod a1 16) + 16)) 16)).bind fun t233 => (if t233 = true then ((frame_Has.f t232 (Int.tmod (wrap64 ((Int.tmod a1 16) + 16)) 16)).bind fun t234 => (if t234 = true then (palletlaw08_FrameSets.j0 k a0 (Int.tmod (wrap64 ((Int.tmod a1 16) + 16)) 16) (Int.tmod (wrap64 ((Int.tmod a2 16) + 16)) 16) true t231 t232 true) else ((frame_Count.f t231).bind fun t235 => ((frame_Count.f t232).bind fun t236 => (palletlaw08_FrameSets.j0 k a0 (Int.tmod (wrap64 ((Int.tmod a1 16) + 16)) 16) (Int.tmod (wrap64 ((Int.tmod a2 16) + 16)) 16) true t231 t232 (t235 != (wrap64 (t236 + 1)))))))) else (palletlaw08_FrameSets.j0 k a0 (Int.tmod (wrap64 ((Int.tmod a1 16) + 16)) 16) (Int.tmod (wrap64 ((Int.tmod a2 16) + 16)) 16) true t231 t232 true)))) = some r := H
  have A6 := Aside0.mk A60
  clear A60
  replace H := Option.bind_eq_some_iff.mp H
  obtain ⟨t232, A70, H⟩ := H
  replace H : ((frame_Has.f t231 (Int.tmod (wrap64 ((Int.tmod a1 16) + 16)) 16)).bind fun t233 => (if t233 = true then ((frame_Has.f t232 (Int.tmod (wrap64 ((Int.tmod a1 16) + 16)) 16)).bind fun t234 => (if t234 = true then (palletlaw08_FrameSets.j0 k a0 (Int.tmod (wrap64 ((Int.tmod a1 16) + 16)) 16) (Int.tmod (wrap64 ((Int.tmod a2 16) + 16)) 16) true t231 t232 true) else ((frame_Count.f t231).bind fun t235 => ((frame_Count.f t232).bind fun t236 => (palletlaw08_FrameSets.j0 k a0 (Int.tmod (wrap64 ((Int.tmod a1 16) + 16)) 16) (Int.tmod (wrap64 ((Int.tmod a2 16) + 16)) 16) true t231 t232 (t235 != (wrap64 (t236 + 1)))))))) else (palletlaw08_FrameSets.j0 k a0 (Int.tmod (wrap64 ((Int.tmod a1 16) + 16)) 16) (Int.tmod (wrap64 ((Int.tmod a2 16) + 16)) 16) true t231 t232 true))) = some r := H
  have A7 := Aside0.mk A70
  clear A70
  have HC8 := Aside0.mk H
  clear H
  go_enter Try.func5, Try.ntmps5
  go_upto_region 8 with (first | ((with_reducible refine gate_callee (f := 8) rfl ?_); refine goesL_ (some 11) rfl rfl Try.func8 (by kernel_rfl) rfl #[] rfl (by (try simp only [List.map_toArray, List.map_cons, List.map_nil]); first | done | rfl | (simp only [List.length_drop, List.length_take]; first | rfl | (rw [Nat.min_eq_left (Int.toNat_le.2 (of_decide_eq_true (by assumption)))]; rfl))) ?_; (with_reducible refine (palletlaw08_live.calls k  true _ A4.out).mono ?_); rintro e w9 ⟨rfl, hb⟩; refine ⟨_, rfl, ?_⟩; have n0_ := Aside0.mk (below_step (by repeat (first | (with_reducible first | exact HB.out | apply below_alloc | apply pw_below_drewN | apply below_drew1) | exact HB.out)) hb); clear HB; have HB := n0_; clear n0_; (try clear hb); (try clear hb2); (try clear hk); (try clear hi)) | ((with_reducible refine gate_callee (f := 14) rfl ?_); refine goesL_ (some 24) rfl rfl Try.func14 (by kernel_rfl) rfl #[.int .u16 a0, .int .i64 (Int.tmod (wrap64 ((Int.tmod a1 16) + 16)) 16)] rfl (by (try simp only [List.map_toArray, List.map_cons, List.map_nil]); first | done | rfl | (simp only [List.length_drop, List.length_take]; first | rfl | (rw [Nat.min_eq_left (Int.toNat_le.2 (of_decide_eq_true (by assumption)))]; rfl))) ?_; (with_reducible refine (frame_With.calls a0 (Int.tmod (wrap64 ((Int.tmod a1 16) + 16)) 16) t231 _ A6.out).mono ?_); rintro e w' ⟨rfl, ⟨nd, rfl⟩⟩; refine ⟨_, rfl, ?_⟩) | ((with_reducible refine gate_callee (f := 16) rfl ?_); refine goesL_ (some 27) rfl rfl Try.func16 (by kernel_rfl) rfl #[.int .u16 a0, .int .i64 (Int.tmod (wrap64 ((Int.tmod a1 16) + 16)) 16)] rfl (by (try simp only [List.map_toArray, List.map_cons, List.map_nil]); first | done | rfl | (simp only [List.length_drop, List.length_take]; first | rfl | (rw [Nat.min_eq_left (Int.toNat_le.2 (of_decide_eq_true (by assumption)))]; rfl))) ?_; (with_reducible refine (frame_Without.calls a0 (Int.tmod (wrap64 ((Int.tmod a1 16) + 16)) 16) t232 _ A7.out).mono ?_); rintro e w' ⟨rfl, ⟨nd, rfl⟩⟩; refine ⟨_, rfl, ?_⟩))
  (try simp only [Act.put, List.setIfInBounds_toArray, List.set_cons_zero, List.set_cons_succ])
  go_cut [44] (fun v44 wc => ∃ (kq : Nat) (x44_7 : Bool), v44 = .bool x44_7 ∧ Aside0 (palletlaw08_FrameSets.j0 kq a0 (Int.tmod (wrap64 ((Int.tmod a1 16) + 16)) 16) (Int.tmod (wrap64 ((Int.tmod a2 16) + 16)) 16) true t231 t232 x44_7 = some r) ∧ Aside0 (kq ≤ k) ∧ Aside0 (Below w.heap.size w wc))
  case first =>
   have H := HC8.out
   clear HC8
   replace H := Option.bind_eq_some_iff.mp H
   obtain ⟨t233, A100, H⟩ := H
   replace H : (if t233 = true then ((frame_Has.f t232 (Int.tmod (wrap64 ((Int.tmod a1 16) + 16)) 16)).bind fun t234 => (if t234 = true then (palletlaw08_FrameSets.j0 k a0 (Int.tmod (wrap64 ((Int.tmod a1 16) + 16)) 16) (Int.tmod (wrap64 ((Int.tmod a2 16) + 16)) 16) true t231 t232 true) else ((frame_Count.f t231).bind fun t235 => ((frame_Count.f t232).bind fun t236 => (palletlaw08_FrameSets.j0 k a0 (Int.tmod (wrap64 ((Int.tmod a1 16) + 16)) 16) (Int.tmod (wrap64 ((Int.tmod a2 16) + 16)) 16) true t231 t232 (t235 != (wrap64 (t236 + 1)))))))) else (palletlaw08_FrameSets.j0 k a0 (Int.tmod (wrap64 ((Int.tmod a1 16) + 16)) 16) (Int.tmod (wrap64 ((Int.tmod a2 16) + 16)) 16) true t231 t232 true)) = some r := H
   have A10 := Aside0.mk A100
   clear A100
   by_cases c11 : t233 = true
   ·subst c11
    have H1 : ((frame_Has.f t232 (Int.tmod (wrap64 ((Int.tmod a1 16) + 16)) 16)).bind fun t234 => (if t234 = true then (palletlaw08_FrameSets.j0 k a0 (Int.tmod (wrap64 ((Int.tmod a1 16) + 16)) 16) (Int.tmod (wrap64 ((Int.tmod a2 16) + 16)) 16) true t231 t232 true) else ((frame_Count.f t231).bind fun t235 => ((frame_Count.f t232).bind fun t236 => (palletlaw08_FrameSets.j0 k a0 (Int.tmod (wrap64 ((Int.tmod a1 16) + 16)) 16) (Int.tmod (wrap64 ((Int.tmod a2 16) + 16)) 16) true t231 t232 (t235 != (wrap64 (t236 + 1)))))))) = some r := by rw [if_pos rfl] at H; exact H
    clear H
    have H := H1
    clear H1
    replace H := Option.bind_eq_some_iff.mp H
    obtain ⟨t234, A120, H⟩ := H
    replace H : (if t234 = true then (palletlaw08_FrameSets.j0 k a0 (Int.tmod (wrap64 ((Int.tmod a1 16) + 16)) 16) (Int.tmod (wrap64 ((Int.tmod a2 16) + 16)) 16) true t231 t232 true) else ((frame_Count.f t231).bind fun t235 => ((frame_Count.f t232).bind fun t236 => (palletlaw08_FrameSets.j0 k a0 (Int.tmod (wrap64 ((Int.tmod a1 16) + 16)) 16) (Int.tmod (wrap64 ((Int.tmod a2 16) + 16)) 16) true t231 t232 (t235 != (wrap64 (t236 + 1))))))) = some r := H
    have A12 := Aside0.mk A120
    clear A120
    by_cases c13 : t234 = true
    ·subst c13
     have H1 : (palletlaw08_FrameSets.j0 k a0 (Int.tmod (wrap64 ((Int.tmod a1 16) + 16)) 16) (Int.tmod (wrap64 ((Int.tmod a2 16) + 16)) 16) true t231 t232 true) = some r := by rw [if_pos rfl] at H; exact H
     clear H
     have H := H1
     clear H1
     have H' := Aside0.mk H
     clear H
     go_wp2_with (first | ((with_reducible refine gate_callee (f := 12) rfl ?_); refine goesL_ (some 30) rfl rfl Try.func12 (by kernel_rfl) rfl #[.int .u16 t231, .int .i64 (Int.tmod (wrap64 ((Int.tmod a1 16) + 16)) 16)] rfl (by (try simp only [List.map_toArray, List.map_cons, List.map_nil]); first | done | rfl | (simp only [List.length_drop, List.length_take]; first | rfl | (rw [Nat.min_eq_left (Int.toNat_le.2 (of_decide_eq_true (by assumption)))]; rfl))) ?_; (with_reducible refine (frame_Has.calls t231 (Int.tmod (wrap64 ((Int.tmod a1 16) + 16)) 16) true _ A10.out).mono ?_); rintro e w' ⟨rfl, ⟨nd, rfl⟩⟩; refine ⟨_, rfl, ?_⟩) | (go_at_call 12; (with_reducible refine (frame_Has.calls t232 (Int.tmod (wrap64 ((Int.tmod a1 16) + 16)) 16) true _ A12.out).mono ?_); rintro e w' ⟨rfl, ⟨nd, rfl⟩⟩))
     go_meet
     case rel => exact ⟨_, (true), (by first | rfl | (simp; done) | (simp [*]; done)), H', ⟨by first | omega | exact Nat.le_refl _⟩, ⟨by repeat (first | (with_reducible first | exact HB.out | apply below_alloc | apply pw_below_drewN | apply below_drew1) | exact HB.out)⟩⟩
    ·replace c13 := Bool.eq_false_iff.mpr c13
     subst c13
     have H1 : ((frame_Count.f t231).bind fun t235 => ((frame_Count.f t232).bind fun t236 => (palletlaw08_FrameSets.j0 k a0 (Int.tmod (wrap64 ((Int.tmod a1 16) + 16)) 16) (Int.tmod (wrap64 ((Int.tmod a2 16) + 16)) 16) true t231 t232 (t235 != (wrap64 (t236 + 1)))))) = some r := by rw [if_neg (show ¬ (false = true) by decide)] at H; exact H
     clear H
     have H := H1
     clear H1
     replace H := Option.bind_eq_some_iff.mp H
     obtain ⟨t235, A140, H⟩ := H
     replace H : ((frame_Count.f t232).bind fun t236 => (palletlaw08_FrameSets.j0 k a0 (Int.tmod (wrap64 ((Int.tmod a1 16) + 16)) 16) (Int.tmod (wrap64 ((Int.tmod a2 16) + 16)) 16) true t231 t232 (t235 != (wrap64 (t236 + 1))))) = some r := H
     have A14 := Aside0.mk A140
     clear A140
     replace H := Option.bind_eq_some_iff.mp H
     obtain ⟨t236, A150, H⟩ := H
     replace H : (palletlaw08_FrameSets.j0 k a0 (Int.tmod (wrap64 ((Int.tmod a1 16) + 16)) 16) (Int.tmod (wrap64 ((Int.tmod a2 16) + 16)) 16) true t231 t232 (t235 != (wrap64 (t236 + 1)))) = some r := H
     have A15 := Aside0.mk A150
     clear A150
     have H' := Aside0.mk H
     clear H
     go_wp2_with (first | ((with_reducible refine gate_callee (f := 12) rfl ?_); refine goesL_ (some 30) rfl rfl Try.func12 (by kernel_rfl) rfl #[.int .u16 t231, .int .i64 (Int.tmod (wrap64 ((Int.tmod a1 16) + 16)) 16)] rfl (by (try simp only [List.map_toArray, List.map_cons, List.map_nil]); first | done | rfl | (simp only [List.length_drop, List.length_take]; first | rfl | (rw [Nat.min_eq_left (Int.toNat_le.2 (of_decide_eq_true (by assumption)))]; rfl))) ?_; (with_reducible refine (frame_Has.calls t231 (Int.tmod (wrap64 ((Int.tmod a1 16) + 16)) 16) true _ A10.out).mono ?_); rintro e w' ⟨rfl, ⟨nd, rfl⟩⟩; refine ⟨_, rfl, ?_⟩) | (go_at_call 12; (with_reducible refine (frame_Has.calls t232 (Int.tmod (wrap64 ((Int.tmod a1 16) + 16)) 16) false _ A12.out).mono ?_); rintro e w' ⟨rfl, ⟨nd, rfl⟩⟩) | (go_at_call 18; (with_reducible refine (frame_Count.calls t231 t235 _ A14.out).mono ?_); rintro e w' ⟨rfl, ⟨nd, rfl⟩⟩) | (go_at_call 18; (with_reducible refine (frame_Count.calls t232 t236 _ A15.out).mono ?_); rintro e w' ⟨rfl, ⟨nd, rfl⟩⟩))
     go_meet
     case rel => exact ⟨_, ((t235 != (wrap64 (t236 + 1)))), (by first | rfl | (simp; done) | (simp [*]; done)), H', ⟨by first | omega | exact Nat.le_refl _⟩, ⟨by repeat (first | (with_reducible first | exact HB.out | apply below_alloc | apply pw_below_drewN | apply below_drew1) | exact HB.out)⟩⟩
   ·replace c11 := Bool.eq_false_iff.mpr c11
    subst c11
    have H1 : (palletlaw08_FrameSets.j0 k a0 (Int.tmod (wrap64 ((Int.tmod a1 16) + 16)) 16) (Int.tmod (wrap64 ((Int.tmod a2 16) + 16)) 16) true t231 t232 true) = some r := by rw [if_neg (show ¬ (false = true) by decide)] at H; exact H
    clear H
    have H := H1
    clear H1
    have H' := Aside0.mk H
    clear H
    go_wp2_with (first | ((with_reducible refine gate_callee (f := 12) rfl ?_); refine goesL_ (some 30) rfl rfl Try.func12 (by kernel_rfl) rfl #[.int .u16 t231, .int .i64 (Int.tmod (wrap64 ((Int.tmod a1 16) + 16)) 16)] rfl (by (try simp only [List.map_toArray, List.map_cons, List.map_nil]); first | done | rfl | (simp only [List.length_drop, List.length_take]; first | rfl | (rw [Nat.min_eq_left (Int.toNat_le.2 (of_decide_eq_true (by assumption)))]; rfl))) ?_; (with_reducible refine (frame_Has.calls t231 (Int.tmod (wrap64 ((Int.tmod a1 16) + 16)) 16) false _ A10.out).mono ?_); rintro e w' ⟨rfl, ⟨nd, rfl⟩⟩; refine ⟨_, rfl, ?_⟩))
    go_meet
    case rel => exact ⟨_, (true), (by first | rfl | (simp; done) | (simp [*]; done)), H', ⟨by first | omega | exact Nat.le_refl _⟩, ⟨by repeat (first | (with_reducible first | exact HB.out | apply below_alloc | apply pw_below_drewN | apply below_drew1) | exact HB.out)⟩⟩
  case rest =>
   clear HC8
   try clear c1
   try clear p2
   try clear c5
   try clear p6
   try clear c8
   try clear c11
   try clear c12
   try clear c13
   try clear c14
   obtain ⟨kq, x44_7, rfl, HA, HJ7, HB⟩ := hcut
   cases kq with
   | zero => exact absurd HA.out (by simp [palletlaw08_FrameSets.j0])
   | succ kj7 =>
    have H := HA.out
    clear HA
    simp only [palletlaw08_FrameSets.j0] at H
    by_cases c16 : x44_7 = true
    ·subst c16
     have H1 : (some false) = some r := by rw [if_pos rfl] at H; exact H
     clear H
     have H := H1
     clear H1
     obtain rfl := Option.some.inj H
     exact absurd hr_.out (by decide)
    ·replace c16 := Bool.eq_false_iff.mpr c16
     subst c16
     have H1 : (palletlaw08_FrameSets.l0 kj7 a0 (Int.tmod (wrap64 ((Int.tmod a1 16) + 16)) 16) (Int.tmod (wrap64 ((Int.tmod a2 16) + 16)) 16) true t231 t232 0) = some r := by rw [if_neg (show ¬ (false = true) by decide)] at H; exact H
     clear H
     have H := H1
     clear H1
     have H' := Aside0.mk H
     clear H
     go_wp2
     go_loopg [45] kj7 (fun kq v45 w' => ∃ (x45_2 : Int), v45 = .int .i64 x45_2 ∧ Aside0 (palletlaw08_FrameSets.l0 kq a0 (Int.tmod (wrap64 ((Int.tmod a1 16) + 16)) 16) (Int.tmod (wrap64 ((Int.tmod a2 16) + 16)) 16) true t231 t232 x45_2 = some r) ∧ Aside0 (kq ≤ kj7) ∧ Aside0 (Below w.heap.size w w'))
     case atStart => exact ⟨(0), (by first | rfl | (simp; done) | (simp [*]; done)), H', ⟨Nat.le_refl _⟩, ⟨by repeat (first | (with_reducible first | exact HB.out | apply below_alloc | apply pw_below_drewN | apply below_drew1) | exact HB.out)⟩⟩
     case round =>
      clear H'
      try clear c1
      try clear p2
      try clear c5
      try clear p6
      try clear c8
      try clear c11
      try clear c12
      try clear c13
      try clear c14
      try clear c16
      try clear p2
      try clear p6
      obtain ⟨x45_2, rfl, HA, HK2, HB⟩ := hrel
      cases gk with
      | zero => exact absurd HA.out (by simp [palletlaw08_FrameSets.l0])
      | succ k2 =>
       have H := HA.out
       clear HA
       simp only [palletlaw08_FrameSets.l0] at H
       by_cases c17 : x45_2 < 16
       ·rw [if_pos c17] at H
        have c17b0 : decide (x45_2 < 16) = true := decide_eq_true c17
        clear c17
        by_cases c18 : x45_2 = (Int.tmod (wrap64 ((Int.tmod a1 16) + 16)) 16)
        ·rw [if_pos c18] at H
         have c18b0 : (x45_2 == (Int.tmod (wrap64 ((Int.tmod a1 16) + 16)) 16)) = true := beq_iff_eq.mpr c18
         have c18b1 : (x45_2 != (Int.tmod (wrap64 ((Int.tmod a1 16) + 16)) 16)) = false := bne_eq_false_iff_eq.mpr c18
         clear c18
         have H' := Aside0.mk H
         clear H
         go_wp2
         go_roundg k2
         case measure => have := HJ7.out; have := HK2.out; omega
         case rel => exact ⟨(wrap64 (x45_2 + 1)), (by first | rfl | (simp; done) | (simp [*]; done)), H', ⟨by have := HJ7.out; have := HK2.out; omega⟩, ⟨by repeat (first | (with_reducible first | exact HB.out | apply below_alloc | apply pw_below_drewN | apply below_drew1) | exact HB.out)⟩⟩
        ·rw [if_neg c18] at H
         have c18b0 : (x45_2 == (Int.tmod (wrap64 ((Int.tmod a1 16) + 16)) 16)) = false := beq_eq_false_iff_ne.mpr c18
         have c18b1 : (x45_2 != (Int.tmod (wrap64 ((Int.tmod a1 16) + 16)) 16)) = true := bne_iff_ne.mpr c18
         replace H := Option.bind_eq_some_iff.mp H
         obtain ⟨t237, A190, H⟩ := H
         replace H : ((frame_Has.f a0 x45_2).bind fun t238 => (if (t237 != t238) = true then (some false) else ((frame_Has.f t232 x45_2).bind fun t239 => ((frame_Has.f a0 x45_2).bind fun t240 => (if (t239 != t240) = true then (some false) else (palletlaw08_FrameSets.l0 k2 a0 (Int.tmod (wrap64 ((Int.tmod a1 16) + 16)) 16) (Int.tmod (wrap64 ((Int.tmod a2 16) + 16)) 16) true t231 t232 (wrap64 (x45_2 + 1)))))))) = some r := H
         have A19 := Aside0.mk A190
         clear A190
         replace H := Option.bind_eq_some_iff.mp H
         obtain ⟨t238, A200, H⟩ := H
         replace H : (if (t237 != t238) = true then (some false) else ((frame_Has.f t232 x45_2).bind fun t239 => ((frame_Has.f a0 x45_2).bind fun t240 => (if (t239 != t240) = true then (some false) else (palletlaw08_FrameSets.l0 k2 a0 (Int.tmod (wrap64 ((Int.tmod a1 16) + 16)) 16) (Int.tmod (wrap64 ((Int.tmod a2 16) + 16)) 16) true t231 t232 (wrap64 (x45_2 + 1))))))) = some r := H
         have A20 := Aside0.mk A200
         clear A200
         by_cases c21 : (t237 != t238) = true
         ·rw [if_pos c21] at H
          have c21b0 : (t237 != t238) = true := c21
          (try (have c21b1 : decide (t237 = t238) = false := by simpa using c21))
          (try (have c21b2 : (t237 == t238) = false := by simpa using c21))
          (try (have c21b3 : ¬ (t237 = t238) := by simpa using c21))
          clear c21
          obtain rfl := Option.some.inj H
          exact absurd hr_.out (by decide)
         ·rw [if_neg c21] at H
          have c21b0 : (t237 != t238) = false := by simpa using c21
          (try (have c21b1 : decide (t237 = t238) = true := by simpa using c21))
          (try (have c21b2 : (t237 == t238) = true := by simpa using c21))
          clear c21
          replace H := Option.bind_eq_some_iff.mp H
          obtain ⟨t239, A220, H⟩ := H
          replace H : ((frame_Has.f a0 x45_2).bind fun t240 => (if (t239 != t240) = true then (some false) else (palletlaw08_FrameSets.l0 k2 a0 (Int.tmod (wrap64 ((Int.tmod a1 16) + 16)) 16) (Int.tmod (wrap64 ((Int.tmod a2 16) + 16)) 16) true t231 t232 (wrap64 (x45_2 + 1))))) = some r := H
          have A22 := Aside0.mk A220
          clear A220
          replace H := Option.bind_eq_some_iff.mp H
          obtain ⟨t240, A230, H⟩ := H
          replace H : (if (t239 != t240) = true then (some false) else (palletlaw08_FrameSets.l0 k2 a0 (Int.tmod (wrap64 ((Int.tmod a1 16) + 16)) 16) (Int.tmod (wrap64 ((Int.tmod a2 16) + 16)) 16) true t231 t232 (wrap64 (x45_2 + 1)))) = some r := H
          have A23 := Aside0.mk A230
          clear A230
          by_cases c24 : (t239 != t240) = true
          ·rw [if_pos c24] at H
           have c24b0 : (t239 != t240) = true := c24
           (try (have c24b1 : decide (t239 = t240) = false := by simpa using c24))
           (try (have c24b2 : (t239 == t240) = false := by simpa using c24))
           (try (have c24b3 : ¬ (t239 = t240) := by simpa using c24))
           clear c24
           obtain rfl := Option.some.inj H
           exact absurd hr_.out (by decide)
          ·rw [if_neg c24] at H
           have c24b0 : (t239 != t240) = false := by simpa using c24
           (try (have c24b1 : decide (t239 = t240) = true := by simpa using c24))
           (try (have c24b2 : (t239 == t240) = true := by simpa using c24))
           clear c24
           have H' := Aside0.mk H
           clear H
           obtain rfl : t240 = t238 := Option.some.inj (A23.out.symm.trans A20.out)
           go_wp2_with (first | (go_at_call 12; (with_reducible refine (frame_Has.calls t231 x45_2 t237 _ A19.out).mono ?_); rintro e w' ⟨rfl, ⟨nd, rfl⟩⟩) | (go_at_call 12; (with_reducible refine (frame_Has.calls a0 x45_2 t238 _ A20.out).mono ?_); rintro e w' ⟨rfl, ⟨nd, rfl⟩⟩) | (go_at_call 12; (with_reducible refine (frame_Has.calls t232 x45_2 t239 _ A22.out).mono ?_); rintro e w' ⟨rfl, ⟨nd, rfl⟩⟩) | (go_at_call 12; (with_reducible refine (frame_Has.calls a0 x45_2 t240 _ A23.out).mono ?_); rintro e w' ⟨rfl, ⟨nd, rfl⟩⟩))
           go_roundg k2
           case measure => have := HJ7.out; have := HK2.out; omega
           case rel => exact ⟨(wrap64 (x45_2 + 1)), (by first | rfl | (simp; done) | (simp [*]; done)), H', ⟨by have := HJ7.out; have := HK2.out; omega⟩, ⟨by repeat (first | (with_reducible first | exact HB.out | apply below_alloc | apply pw_below_drewN | apply below_drew1) | exact HB.out)⟩⟩
       ·rw [if_neg c17] at H
        have c17b0 : decide (x45_2 < 16) = false := decide_eq_false c17
        clear c17
        have H1 : ((frame_With.f a0 (Int.tmod (wrap64 ((Int.tmod a1 16) + 16)) 16)).bind fun t241 => ((frame_With.f t241 (Int.tmod (wrap64 ((Int.tmod a2 16) + 16)) 16)).bind fun t242 => ((frame_With.f a0 (Int.tmod (wrap64 ((Int.tmod a2 16) + 16)) 16)).bind fun t243 => ((frame_With.f t243 (Int.tmod (wrap64 ((Int.tmod a1 16) + 16)) 16)).bind fun t244 => (if t242 = t244 then ((frame_Without.f a0 (Int.tmod (wrap64 ((Int.tmod a1 16) + 16)) 16)).bind fun t245 => ((frame_Without.f t245 (Int.tmod (wrap64 ((Int.tmod a2 16) + 16)) 16)).bind fun t246 => ((frame_Without.f a0 (Int.tmod (wrap64 ((Int.tmod a2 16) + 16)) 16)).bind fun t247 => ((frame_Without.f t247 (Int.tmod (wrap64 ((Int.tmod a1 16) + 16)) 16)).bind fun t248 => (some (t246 == t248)))))) else (some false)))))) = some r := by first | (rw [if_pos rfl] at H; exact H) | exact H
        clear H
        have H := H1
        clear H1
        replace H := Option.bind_eq_some_iff.mp H
        obtain ⟨t241, A250, H⟩ := H
        replace H : ((frame_With.f t241 (Int.tmod (wrap64 ((Int.tmod a2 16) + 16)) 16)).bind fun t242 => ((frame_With.f a0 (Int.tmod (wrap64 ((Int.tmod a2 16) + 16)) 16)).bind fun t243 => ((frame_With.f t243 (Int.tmod (wrap64 ((Int.tmod a1 16) + 16)) 16)).bind fun t244 => (if t242 = t244 then ((frame_Without.f a0 (Int.tmod (wrap64 ((Int.tmod a1 16) + 16)) 16)).bind fun t245 => ((frame_Without.f t245 (Int.tmod (wrap64 ((Int.tmod a2 16) + 16)) 16)).bind fun t246 => ((frame_Without.f a0 (Int.tmod (wrap64 ((Int.tmod a2 16) + 16)) 16)).bind fun t247 => ((frame_Without.f t247 (Int.tmod (wrap64 ((Int.tmod a1 16) + 16)) 16)).bind fun t248 => (some (t246 == t248)))))) else (some false))))) = some r := H
        have A25 := Aside0.mk A250
        clear A250
        replace H := Option.bind_eq_some_iff.mp H
        obtain ⟨t242, A260, H⟩ := H
        replace H : ((frame_With.f a0 (Int.tmod (wrap64 ((Int.tmod a2 16) + 16)) 16)).bind fun t243 => ((frame_With.f t243 (Int.tmod (wrap64 ((Int.tmod a1 16) + 16)) 16)).bind fun t244 => (if t242 = t244 then ((frame_Without.f a0 (Int.tmod (wrap64 ((Int.tmod a1 16) + 16)) 16)).bind fun t245 => ((frame_Without.f t245 (Int.tmod (wrap64 ((Int.tmod a2 16) + 16)) 16)).bind fun t246 => ((frame_Without.f a0 (Int.tmod (wrap64 ((Int.tmod a2 16) + 16)) 16)).bind fun t247 => ((frame_Without.f t247 (Int.tmod (wrap64 ((Int.tmod a1 16) + 16)) 16)).bind fun t248 => (some (t246 == t248)))))) else (some false)))) = some r := H
        have A26 := Aside0.mk A260
        clear A260
        replace H := Option.bind_eq_some_iff.mp H
        obtain ⟨t243, A270, H⟩ := H
        replace H : ((frame_With.f t243 (Int.tmod (wrap64 ((Int.tmod a1 16) + 16)) 16)).bind fun t244 => (if t242 = t244 then ((frame_Without.f a0 (Int.tmod (wrap64 ((Int.tmod a1 16) + 16)) 16)).bind fun t245 => ((frame_Without.f t245 (Int.tmod (wrap64 ((Int.tmod a2 16) + 16)) 16)).bind fun t246 => ((frame_Without.f a0 (Int.tmod (wrap64 ((Int.tmod a2 16) + 16)) 16)).bind fun t247 => ((frame_Without.f t247 (Int.tmod (wrap64 ((Int.tmod a1 16) + 16)) 16)).bind fun t248 => (some (t246 == t248)))))) else (some false))) = some r := H
        have A27 := Aside0.mk A270
        clear A270
        replace H := Option.bind_eq_some_iff.mp H
        obtain ⟨t244, A280, H⟩ := H
        replace H : (if t242 = t244 then ((frame_Without.f a0 (Int.tmod (wrap64 ((Int.tmod a1 16) + 16)) 16)).bind fun t245 => ((frame_Without.f t245 (Int.tmod (wrap64 ((Int.tmod a2 16) + 16)) 16)).bind fun t246 => ((frame_Without.f a0 (Int.tmod (wrap64 ((Int.tmod a2 16) + 16)) 16)).bind fun t247 => ((frame_Without.f t247 (Int.tmod (wrap64 ((Int.tmod a1 16) + 16)) 16)).bind fun t248 => (some (t246 == t248)))))) else (some false)) = some r := H
        have A28 := Aside0.mk A280
        clear A280
        by_cases c29 : t242 = t244
        ·rw [if_pos c29] at H
         have c29b0 : (t242 == t244) = true := beq_iff_eq.mpr c29
         have c29b1 : (t242 != t244) = false := bne_eq_false_iff_eq.mpr c29
         clear c29
         replace H := Option.bind_eq_some_iff.mp H
         obtain ⟨t245, A300, H⟩ := H
         replace H : ((frame_Without.f t245 (Int.tmod (wrap64 ((Int.tmod a2 16) + 16)) 16)).bind fun t246 => ((frame_Without.f a0 (Int.tmod (wrap64 ((Int.tmod a2 16) + 16)) 16)).bind fun t247 => ((frame_Without.f t247 (Int.tmod (wrap64 ((Int.tmod a1 16) + 16)) 16)).bind fun t248 => (some (t246 == t248))))) = some r := H
         have A30 := Aside0.mk A300
         clear A300
         replace H := Option.bind_eq_some_iff.mp H
         obtain ⟨t246, A310, H⟩ := H
         replace H : ((frame_Without.f a0 (Int.tmod (wrap64 ((Int.tmod a2 16) + 16)) 16)).bind fun t247 => ((frame_Without.f t247 (Int.tmod (wrap64 ((Int.tmod a1 16) + 16)) 16)).bind fun t248 => (some (t246 == t248)))) = some r := H
         have A31 := Aside0.mk A310
         clear A310
         replace H := Option.bind_eq_some_iff.mp H
         obtain ⟨t247, A320, H⟩ := H
         replace H : ((frame_Without.f t247 (Int.tmod (wrap64 ((Int.tmod a1 16) + 16)) 16)).bind fun t248 => (some (t246 == t248))) = some r := H
         have A32 := Aside0.mk A320
         clear A320
         replace H := Option.bind_eq_some_iff.mp H
         obtain ⟨t248, A330, H⟩ := H
         replace H : (some (t246 == t248)) = some r := H
         have A33 := Aside0.mk A330
         clear A330
         obtain rfl := Option.some.inj H
         go_wp2_with (first | (go_at_call 14; (with_reducible refine (frame_With.calls a0 (Int.tmod (wrap64 ((Int.tmod a1 16) + 16)) 16) t241 _ A25.out).mono ?_); rintro e w' ⟨rfl, ⟨nd, rfl⟩⟩) | (go_at_call 14; (with_reducible refine (frame_With.calls t241 (Int.tmod (wrap64 ((Int.tmod a2 16) + 16)) 16) t242 _ A26.out).mono ?_); rintro e w' ⟨rfl, ⟨nd, rfl⟩⟩) | (go_at_call 14; (with_reducible refine (frame_With.calls a0 (Int.tmod (wrap64 ((Int.tmod a2 16) + 16)) 16) t243 _ A27.out).mono ?_); rintro e w' ⟨rfl, ⟨nd, rfl⟩⟩) | (go_at_call 14; (with_reducible refine (frame_With.calls t243 (Int.tmod (wrap64 ((Int.tmod a1 16) + 16)) 16) t244 _ A28.out).mono ?_); rintro e w' ⟨rfl, ⟨nd, rfl⟩⟩) | (go_at_call 16; (with_reducible refine (frame_Without.calls a0 (Int.tmod (wrap64 ((Int.tmod a1 16) + 16)) 16) t245 _ A30.out).mono ?_); rintro e w' ⟨rfl, ⟨nd, rfl⟩⟩) | (go_at_call 16; (with_reducible refine (frame_Without.calls t245 (Int.tmod (wrap64 ((Int.tmod a2 16) + 16)) 16) t246 _ A31.out).mono ?_); rintro e w' ⟨rfl, ⟨nd, rfl⟩⟩) | (go_at_call 16; (with_reducible refine (frame_Without.calls a0 (Int.tmod (wrap64 ((Int.tmod a2 16) + 16)) 16) t247 _ A32.out).mono ?_); rintro e w' ⟨rfl, ⟨nd, rfl⟩⟩) | (go_at_call 16; (with_reducible refine (frame_Without.calls t247 (Int.tmod (wrap64 ((Int.tmod a1 16) + 16)) 16) t248 _ A33.out).mono ?_); rintro e w' ⟨rfl, ⟨nd, rfl⟩⟩))
         go_ret
         exact ⟨by first | rfl | (simp [errW_none, errW_some] <;> rfl) | (simp [*, errW_none, errW_some] <;> rfl), by repeat (first | (with_reducible first | exact HB.out | apply below_alloc | apply pw_below_drewN | apply below_drew1) | exact HB.out)⟩
        ·rw [if_neg c29] at H
         have c29b0 : (t242 == t244) = false := beq_eq_false_iff_ne.mpr c29
         have c29b1 : (t242 != t244) = true := bne_iff_ne.mpr c29
         obtain rfl := Option.some.inj H
         exact absurd hr_.out (by decide)
 ·replace c5 := Bool.eq_false_iff.mpr c5
  subst c5
  have H1 : (some false) = some r := by rw [if_neg (show ¬ (false = true) by decide)] at H; exact H
  clear H
  have H := H1
  clear H1
  obtain rfl := Option.some.inj H
  exact absurd hr_.out (by decide)

end Go.Proofs.Ytogdelhofdelgaa.Print
