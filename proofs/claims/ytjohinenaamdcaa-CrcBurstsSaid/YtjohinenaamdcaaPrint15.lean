-- PRINTED by print.py (a twelfth state) out of the translation. Not trusted: Lean checks it.
import Derived.Test.YtjohinenaamdcaaPrint0
import Derived.Test.YtjohinenaamdcaaPrint2
import Derived.Test.YtjohinenaamdcaaPrint4
import Derived.Test.YtjohinenaamdcaaPrint6
import Derived.Test.YtjohinenaamdcaaPrint9
import Derived.Test.YtjohinenaamdcaaPrint10
import Derived.Test.YtjohinenaamdcaaPrint12
namespace Go.Proofs.Ytjohinenaamdcaa.Print
open Go.RowKit Go.Proofs.YtjohinenaamdcaaW.PrintWords Go.Proofs.YtjohinenaamdcaaW.PrintLast Go.Proofs.YtjohinenaamdcaaW.PrintMore Go.Proofs.YtjohinenaamdcaaX
attribute [local go_sem] str_lss str_geq max2_int min2_int max_two min_two max_three min_three max_four min_four   -- for this text's walks alone
set_option linter.unusedVariables false
set_option linter.unusedSimpArgs false

/-! ### palletlaw03_CrcBursts: function 7 -/
mutual
def palletlaw03_CrcBursts.j0 : Nat → Int → Int → Bool → List Int → List Int → Bool → Option (Bool)
 | 0, _, _, _, _, _, _ => none
 | k + 1, x1, x2, x7, x8, x12, x90 => if x90 = true then (some false) else (if (wrap64 (8 * (x8.length : Int))) = 0 then (none) else (palletlaw03_CrcBursts.l0 k (Int.tmod (wrap64 ((Int.tmod x1 (wrap64 (8 * (x8.length : Int)))) + (wrap64 (8 * (x8.length : Int))))) (wrap64 (8 * (x8.length : Int)))) x2 x7 x8 x12 false 0))
def palletlaw03_CrcBursts.l0 : Nat → Int → Int → Bool → List Int → List Int → Bool → Int → Option (Bool)
 | 0, _, _, _, _, _, _, _ => none
 | k + 1, x1, x2, x7, x8, x12, x16, x104 => if x104 < 24 then (if 0 ≤ x104 then (if (Go.bits .and .u32 (shr .u32 x2 x104) 1) = 0 then (palletlaw03_CrcBursts.j2 k x1 x2 x7 x8 x12 x16 x104 x104 true) else (palletlaw03_CrcBursts.j2 k x1 x2 x7 x8 x12 x16 x104 x104 (decide ((wrap64 (x1 + x104)) ≥ (wrap64 (8 * (x8.length : Int))))))) else (none)) else ((crc_Open24.f x8).bind fun bt330 => ((crc_Open32.f x12).bind fun bt334 => (if x7 = true then (if ((bt330.2 == 5) == x16) = true then (if ((bt334.2 == 5) == x16) = true then (if x16 = true then (some true) else (if bt330.2 = 0 then (some (bt334.2 == 0)) else (some false))) else (some false)) else (some false)) else (some false))))
def palletlaw03_CrcBursts.j2 : Nat → Int → Int → Bool → List Int → List Int → Bool → Int → Int → Bool → Option (Bool)
 | 0, _, _, _, _, _, _, _, _, _ => none
 | k + 1, x1, x2, x7, x8, x12, x16, x17, x104, x120 => if x120 = true then (palletlaw03_CrcBursts.l0 k x1 x2 x7 x8 x12 x16 (wrap64 (x104 + 1))) else ((crc_Turn.f x8 (wrap64 (x1 + x17))).bind fun bt338 => ((crc_Turn.f x12 (wrap64 (x1 + x17))).bind fun bt342 => (if bt338.2 = 0 then (if bt342.2 = 0 then (palletlaw03_CrcBursts.l0 k x1 x2 x7 bt338.1 bt342.1 true (wrap64 (x104 + 1))) else (some false)) else (some false))))
end
def palletlaw03_CrcBursts.f (k : Nat) (l0 : List Int) (a1 : Int) (a2 : Int) : Option (Bool) := (palletlaw03_live.f).bind fun t311 => (if t311 = true then (if (l0.length : Int) > 3000 then (some t311) else ((crc_Seal24.f l0).bind fun bt312 => ((crc_Open24.f bt312.1).bind fun bt316 => ((crc_Seal32.f l0).bind fun bt320 => ((crc_Open32.f bt320.1).bind fun bt324 => (if bt312.2 = 0 then (if bt316.2 = 0 then (if bt320.2 = 0 then (if bt324.2 = 0 then ((palletref02_Same.f bt316.1 l0).bind fun t328 => (if t328 = true then ((palletref02_Same.f bt324.1 l0).bind fun t329 => (if t329 = true then (if (bt312.1.length : Int) = (wrap64 ((l0.length : Int) + 3)) then (palletlaw03_CrcBursts.j0 k a1 a2 t311 bt312.1 bt320.1 ((bt320.1.length : Int) != (wrap64 ((l0.length : Int) + 4)))) else (palletlaw03_CrcBursts.j0 k a1 a2 t311 bt312.1 bt320.1 true)) else (palletlaw03_CrcBursts.j0 k a1 a2 t311 bt312.1 bt320.1 true))) else (palletlaw03_CrcBursts.j0 k a1 a2 t311 bt312.1 bt320.1 true))) else (palletlaw03_CrcBursts.j0 k a1 a2 t311 bt312.1 bt320.1 true)) else (palletlaw03_CrcBursts.j0 k a1 a2 t311 bt312.1 bt320.1 true)) else (palletlaw03_CrcBursts.j0 k a1 a2 t311 bt312.1 bt320.1 true)) else (palletlaw03_CrcBursts.j0 k a1 a2 t311 bt312.1 bt320.1 true))))))) else (some false))
theorem palletlaw03_CrcBursts.mono_l : ∀ k, (∀ y0 y1 y2 y3 y4 y5, LeO (palletlaw03_CrcBursts.j0 k y0 y1 y2 y3 y4 y5) (palletlaw03_CrcBursts.j0 (k + 1) y0 y1 y2 y3 y4 y5)) ∧ (∀ y0 y1 y2 y3 y4 y5 y6, LeO (palletlaw03_CrcBursts.l0 k y0 y1 y2 y3 y4 y5 y6) (palletlaw03_CrcBursts.l0 (k + 1) y0 y1 y2 y3 y4 y5 y6)) ∧ (∀ y0 y1 y2 y3 y4 y5 y6 y7 y8, LeO (palletlaw03_CrcBursts.j2 k y0 y1 y2 y3 y4 y5 y6 y7 y8) (palletlaw03_CrcBursts.j2 (k + 1) y0 y1 y2 y3 y4 y5 y6 y7 y8))
 | 0 => ⟨fun _ _ _ _ _ _ r h => by simp [palletlaw03_CrcBursts.j0] at h, fun _ _ _ _ _ _ _ r h => by simp [palletlaw03_CrcBursts.l0] at h, fun _ _ _ _ _ _ _ _ _ r h => by simp [palletlaw03_CrcBursts.j2] at h⟩
 | k + 1 => by
  obtain ⟨ih0, ih1, ih2⟩ := palletlaw03_CrcBursts.mono_l k
  refine ⟨?_, ?_, ?_⟩
  ·intro y0 y1 y2 y3 y4 y5
   unfold palletlaw03_CrcBursts.j0
   repeat' first
   | (with_reducible exact ih0 _ _ _ _ _ _)
   | (with_reducible exact ih1 _ _ _ _ _ _ _)
   | (with_reducible exact ih2 _ _ _ _ _ _ _ _ _)
   | (with_reducible exact LeO.refl _)
   | (with_reducible exact LeO.none _)
   | (with_reducible refine LeO.ite ?_ ?_)
   | (with_reducible refine LeO.bind ?_ (fun _ => ?_))
   | exact ih0 _ _ _ _ _ _
   | exact ih1 _ _ _ _ _ _ _
   | exact ih2 _ _ _ _ _ _ _ _ _
   | exact LeO.none _
   | refine LeO.ite ?_ ?_
   | refine LeO.bind ?_ (fun _ => ?_)
  ·intro y0 y1 y2 y3 y4 y5 y6
   unfold palletlaw03_CrcBursts.l0
   repeat' first
   | (with_reducible exact ih0 _ _ _ _ _ _)
   | (with_reducible exact ih1 _ _ _ _ _ _ _)
   | (with_reducible exact ih2 _ _ _ _ _ _ _ _ _)
   | (with_reducible exact LeO.refl _)
   | (with_reducible exact LeO.none _)
   | (with_reducible refine LeO.ite ?_ ?_)
   | (with_reducible refine LeO.bind ?_ (fun _ => ?_))
   | exact ih0 _ _ _ _ _ _
   | exact ih1 _ _ _ _ _ _ _
   | exact ih2 _ _ _ _ _ _ _ _ _
   | exact LeO.none _
   | refine LeO.ite ?_ ?_
   | refine LeO.bind ?_ (fun _ => ?_)
  ·intro y0 y1 y2 y3 y4 y5 y6 y7 y8
   unfold palletlaw03_CrcBursts.j2
   repeat' first
   | (with_reducible exact ih0 _ _ _ _ _ _)
   | (with_reducible exact ih1 _ _ _ _ _ _ _)
   | (with_reducible exact ih2 _ _ _ _ _ _ _ _ _)
   | (with_reducible exact LeO.refl _)
   | (with_reducible exact LeO.none _)
   | (with_reducible refine LeO.ite ?_ ?_)
   | (with_reducible refine LeO.bind ?_ (fun _ => ?_))
   | exact ih0 _ _ _ _ _ _
   | exact ih1 _ _ _ _ _ _ _
   | exact ih2 _ _ _ _ _ _ _ _ _
   | exact LeO.none _
   | refine LeO.ite ?_ ?_
   | refine LeO.bind ?_ (fun _ => ?_)
theorem palletlaw03_CrcBursts.mono : ∀ a0 a1 a2 k, LeO (palletlaw03_CrcBursts.f k a0 a1 a2) (palletlaw03_CrcBursts.f (k + 1) a0 a1 a2) := by
 intro a0 a1 a2 k
 obtain ⟨ih0, ih1, ih2⟩ := palletlaw03_CrcBursts.mono_l k
 unfold palletlaw03_CrcBursts.f
 repeat' first
   | (with_reducible exact ih0 _ _ _ _ _ _)
   | (with_reducible exact ih1 _ _ _ _ _ _ _)
   | (with_reducible exact ih2 _ _ _ _ _ _ _ _ _)
   | (with_reducible exact LeO.refl _)
   | (with_reducible exact LeO.none _)
   | (with_reducible refine LeO.ite ?_ ?_)
   | (with_reducible refine LeO.bind ?_ (fun _ => ?_))
   | exact ih0 _ _ _ _ _ _
   | exact ih1 _ _ _ _ _ _ _
   | exact ih2 _ _ _ _ _ _ _ _ _
   | exact LeO.none _
   | refine LeO.ite ?_ ?_
   | refine LeO.bind ?_ (fun _ => ?_)
set_option maxHeartbeats 8000000 in
set_option maxRecDepth 100000 in
theorem palletlaw03_CrcBursts.calls (k : Nat) (A0 : Option Addr) (c0 : Nat) (l0 : List Int) (a1 : Int) (a2 : Int) (r : Bool) (w : World) (hr0 : Kd.C (Kd.int .u8) w A0 l0.length l0) (hc0 : l0.length ≤ c0) (hr_ : Aside0 (r = true)) (h : palletlaw03_CrcBursts.f k l0 a1 a2 = some r) :
  Calls Try.prog 7 #[.slice A0 l0.length c0, .int .i64 a1, .int .u32 a2] w fun e w' => e = .returned (.bool r) ∧ Below w.heap.size w w' := by
 have HR0 := Aside0.mk hr0
 have HC0 := Aside0.mk hc0
 clear hr0 hc0
 have HB := Aside0.mk (Below.refl w.heap.size w)
 have H : ((palletlaw03_live.f).bind fun t311 => (if t311 = true then (if (l0.length : Int) > 3000 then (some t311) else ((crc_Seal24.f l0).bind fun bt312 => ((crc_Open24.f bt312.1).bind fun bt316 => ((crc_Seal32.f l0).bind fun bt320 => ((crc_Open32.f bt320.1).bind fun bt324 => (if bt312.2 = 0 then (if bt316.2 = 0 then (if bt320.2 = 0 then (if bt324.2 = 0 then ((palletref02_Same.f bt316.1 l0).bind fun t328 => (if t328 = true then ((palletref02_Same.f bt324.1 l0).bind fun t329 => (if t329 = true then (if (bt312.1.length : Int) = (wrap64 ((l0.length : Int) + 3)) then (palletlaw03_CrcBursts.j0 k a1 a2 t311 bt312.1 bt320.1 ((bt320.1.length : Int) != (wrap64 ((l0.length : Int) + 4)))) else (palletlaw03_CrcBursts.j0 k a1 a2 t311 bt312.1 bt320.1 true)) else (palletlaw03_CrcBursts.j0 k a1 a2 t311 bt312.1 bt320.1 true))) else (palletlaw03_CrcBursts.j0 k a1 a2 t311 bt312.1 bt320.1 true))) else (palletlaw03_CrcBursts.j0 k a1 a2 t311 bt312.1 bt320.1 true)) else (palletlaw03_CrcBursts.j0 k a1 a2 t311 bt312.1 bt320.1 true)) else (palletlaw03_CrcBursts.j0 k a1 a2 t311 bt312.1 bt320.1 true)) else (palletlaw03_CrcBursts.j0 k a1 a2 t311 bt312.1 bt320.1 true))))))) else (some false))) = some r := h
 clear h
 replace H := Option.bind_eq_some_iff.mp H
 obtain ⟨t311, A40, H⟩ := H
 replace H : (if t311 = true then (if (l0.length : Int) > 3000 then (some t311) else ((crc_Seal24.f l0).bind fun bt312 => ((crc_Open24.f bt312.1).bind fun bt316 => ((crc_Seal32.f l0).bind fun bt320 => ((crc_Open32.f bt320.1).bind fun bt324 => (if bt312.2 = 0 then (if bt316.2 = 0 then (if bt320.2 = 0 then (if bt324.2 = 0 then ((palletref02_Same.f bt316.1 l0).bind fun t328 => (if t328 = true then ((palletref02_Same.f bt324.1 l0).bind fun t329 => (if t329 = true then (if (bt312.1.length : Int) = (wrap64 ((l0.length : Int) + 3)) then (palletlaw03_CrcBursts.j0 k a1 a2 t311 bt312.1 bt320.1 ((bt320.1.length : Int) != (wrap64 ((l0.length : Int) + 4)))) else (palletlaw03_CrcBursts.j0 k a1 a2 t311 bt312.1 bt320.1 true)) else (palletlaw03_CrcBursts.j0 k a1 a2 t311 bt312.1 bt320.1 true))) else (palletlaw03_CrcBursts.j0 k a1 a2 t311 bt312.1 bt320.1 true))) else (palletlaw03_CrcBursts.j0 k a1 a2 t311 bt312.1 bt320.1 true)) else (palletlaw03_CrcBursts.j0 k a1 a2 t311 bt312.1 bt320.1 true)) else (palletlaw03_CrcBursts.j0 k a1 a2 t311 bt312.1 bt320.1 true)) else (palletlaw03_CrcBursts.j0 k a1 a2 t311 bt312.1 bt320.1 true))))))) else (some false)) = some r := H
 have A4 := Aside0.mk A40
 clear A40
 by_cases c5 : t311 = true
 ·subst c5
  have H1 : (if (l0.length : Int) > 3000 then (some true) else ((crc_Seal24.f l0).bind fun bt312 => ((crc_Open24.f bt312.1).bind fun bt316 => ((crc_Seal32.f l0).bind fun bt320 => ((crc_Open32.f bt320.1).bind fun bt324 => (if bt312.2 = 0 then (if bt316.2 = 0 then (if bt320.2 = 0 then (if bt324.2 = 0 then ((palletref02_Same.f bt316.1 l0).bind fun t328 => (if t328 = true then ((palletref02_Same.f bt324.1 l0).bind fun t329 => (if t329 = true then (if (bt312.1.length : Int) = (wrap64 ((l0.length : Int) + 3)) then (palletlaw03_CrcBursts.j0 k a1 a2 true bt312.1 bt320.1 ((bt320.1.length : Int) != (wrap64 ((l0.length : Int) + 4)))) else (palletlaw03_CrcBursts.j0 k a1 a2 true bt312.1 bt320.1 true)) else (palletlaw03_CrcBursts.j0 k a1 a2 true bt312.1 bt320.1 true))) else (palletlaw03_CrcBursts.j0 k a1 a2 true bt312.1 bt320.1 true))) else (palletlaw03_CrcBursts.j0 k a1 a2 true bt312.1 bt320.1 true)) else (palletlaw03_CrcBursts.j0 k a1 a2 true bt312.1 bt320.1 true)) else (palletlaw03_CrcBursts.j0 k a1 a2 true bt312.1 bt320.1 true)) else (palletlaw03_CrcBursts.j0 k a1 a2 true bt312.1 bt320.1 true))))))) = some r := by rw [if_pos rfl] at H; exact H
  clear H
  have H := H1
  clear H1
  by_cases c6 : (l0.length : Int) > 3000
  ·rw [if_pos c6] at H
   have c6b0 : decide (3000 < (l0.length : Int)) = true := decide_eq_true c6
   have c6b1 : decide (3000 < l0.length) = true := decide_eq_true (by omega)
   clear c6
   obtain rfl := Option.some.inj H
   go_enter Try.func7, Try.ntmps7
   go_wp2_with (first | ((with_reducible refine gate_callee (f := 8) rfl ?_); refine goesL_ (some 22) rfl rfl Try.func8 (by kernel_rfl) rfl #[] rfl (by (try simp only [List.map_toArray, List.map_cons, List.map_nil]); first | done | rfl | (simp only [List.length_drop, List.length_take]; first | rfl | (rw [Nat.min_eq_left (Int.toNat_le.2 (of_decide_eq_true (by assumption)))]; rfl))) ?_; (with_reducible refine (palletlaw03_live.calls  true _ A4.out).mono ?_); rintro e w7 ⟨rfl, hb⟩; refine ⟨_, rfl, ?_⟩; have n0_ := Aside0.mk (below_step (by repeat (first | (with_reducible first | exact HB.out | apply below_alloc | apply pw_below_drewN | apply below_drew1) | exact HB.out)) hb); clear HB; have HB := n0_; clear n0_; (try clear hb); (try clear hb2); (try clear hk); (try clear hi)))
   go_ret
   exact ⟨by first | rfl | (simp [errW_none, errW_some] <;> rfl) | (simp [*, errW_none, errW_some] <;> rfl), by repeat (first | (with_reducible first | exact HB.out | apply below_alloc | apply pw_below_drewN | apply below_drew1) | exact HB.out)⟩
  ·rw [if_neg c6] at H
   have c6b0 : decide (3000 < (l0.length : Int)) = false := decide_eq_false c6
   have c6b1 : decide (3000 < l0.length) = false := decide_eq_false (by omega)
   clear c6
   replace H := Option.bind_eq_some_iff.mp H
   obtain ⟨⟨t312, t313⟩, A80, H⟩ := H
   replace H : ((crc_Open24.f t312).bind fun bt316 => ((crc_Seal32.f l0).bind fun bt320 => ((crc_Open32.f bt320.1).bind fun bt324 => (if t313 = 0 then (if bt316.2 = 0 then (if bt320.2 = 0 then (if bt324.2 = 0 then ((palletref02_Same.f bt316.1 l0).bind fun t328 => (if t328 = true then ((palletref02_Same.f bt324.1 l0).bind fun t329 => (if t329 = true then (if (t312.length : Int) = (wrap64 ((l0.length : Int) + 3)) then (palletlaw03_CrcBursts.j0 k a1 a2 true t312 bt320.1 ((bt320.1.length : Int) != (wrap64 ((l0.length : Int) + 4)))) else (palletlaw03_CrcBursts.j0 k a1 a2 true t312 bt320.1 true)) else (palletlaw03_CrcBursts.j0 k a1 a2 true t312 bt320.1 true))) else (palletlaw03_CrcBursts.j0 k a1 a2 true t312 bt320.1 true))) else (palletlaw03_CrcBursts.j0 k a1 a2 true t312 bt320.1 true)) else (palletlaw03_CrcBursts.j0 k a1 a2 true t312 bt320.1 true)) else (palletlaw03_CrcBursts.j0 k a1 a2 true t312 bt320.1 true)) else (palletlaw03_CrcBursts.j0 k a1 a2 true t312 bt320.1 true))))) = some r := H
   have A8 := Aside0.mk A80
   clear A80
   replace H := Option.bind_eq_some_iff.mp H
   obtain ⟨⟨t316, t317⟩, A90, H⟩ := H
   replace H : ((crc_Seal32.f l0).bind fun bt320 => ((crc_Open32.f bt320.1).bind fun bt324 => (if t313 = 0 then (if t317 = 0 then (if bt320.2 = 0 then (if bt324.2 = 0 then ((palletref02_Same.f t316 l0).bind fun t328 => (if t328 = true then ((palletref02_Same.f bt324.1 l0).bind fun t329 => (if t329 = true then (if (t312.length : Int) = (wrap64 ((l0.length : Int) + 3)) then (palletlaw03_CrcBursts.j0 k a1 a2 true t312 bt320.1 ((bt320.1.length : Int) != (wrap64 ((l0.length : Int) + 4)))) else (palletlaw03_CrcBursts.j0 k a1 a2 true t312 bt320.1 true)) else (palletlaw03_CrcBursts.j0 k a1 a2 true t312 bt320.1 true))) else (palletlaw03_CrcBursts.j0 k a1 a2 true t312 bt320.1 true))) else (palletlaw03_CrcBursts.j0 k a1 a2 true t312 bt320.1 true)) else (palletlaw03_CrcBursts.j0 k a1 a2 true t312 bt320.1 true)) else (palletlaw03_CrcBursts.j0 k a1 a2 true t312 bt320.1 true)) else (palletlaw03_CrcBursts.j0 k a1 a2 true t312 bt320.1 true)))) = some r := H
   have A9 := Aside0.mk A90
   clear A90
   replace H := Option.bind_eq_some_iff.mp H
   obtain ⟨⟨t320, t321⟩, A100, H⟩ := H
   replace H : ((crc_Open32.f t320).bind fun bt324 => (if t313 = 0 then (if t317 = 0 then (if t321 = 0 then (if bt324.2 = 0 then ((palletref02_Same.f t316 l0).bind fun t328 => (if t328 = true then ((palletref02_Same.f bt324.1 l0).bind fun t329 => (if t329 = true then (if (t312.length : Int) = (wrap64 ((l0.length : Int) + 3)) then (palletlaw03_CrcBursts.j0 k a1 a2 true t312 t320 ((t320.length : Int) != (wrap64 ((l0.length : Int) + 4)))) else (palletlaw03_CrcBursts.j0 k a1 a2 true t312 t320 true)) else (palletlaw03_CrcBursts.j0 k a1 a2 true t312 t320 true))) else (palletlaw03_CrcBursts.j0 k a1 a2 true t312 t320 true))) else (palletlaw03_CrcBursts.j0 k a1 a2 true t312 t320 true)) else (palletlaw03_CrcBursts.j0 k a1 a2 true t312 t320 true)) else (palletlaw03_CrcBursts.j0 k a1 a2 true t312 t320 true)) else (palletlaw03_CrcBursts.j0 k a1 a2 true t312 t320 true))) = some r := H
   have A10 := Aside0.mk A100
   clear A100
   replace H := Option.bind_eq_some_iff.mp H
   obtain ⟨⟨t324, t325⟩, A110, H⟩ := H
   replace H : (if t313 = 0 then (if t317 = 0 then (if t321 = 0 then (if t325 = 0 then ((palletref02_Same.f t316 l0).bind fun t328 => (if t328 = true then ((palletref02_Same.f t324 l0).bind fun t329 => (if t329 = true then (if (t312.length : Int) = (wrap64 ((l0.length : Int) + 3)) then (palletlaw03_CrcBursts.j0 k a1 a2 true t312 t320 ((t320.length : Int) != (wrap64 ((l0.length : Int) + 4)))) else (palletlaw03_CrcBursts.j0 k a1 a2 true t312 t320 true)) else (palletlaw03_CrcBursts.j0 k a1 a2 true t312 t320 true))) else (palletlaw03_CrcBursts.j0 k a1 a2 true t312 t320 true))) else (palletlaw03_CrcBursts.j0 k a1 a2 true t312 t320 true)) else (palletlaw03_CrcBursts.j0 k a1 a2 true t312 t320 true)) else (palletlaw03_CrcBursts.j0 k a1 a2 true t312 t320 true)) else (palletlaw03_CrcBursts.j0 k a1 a2 true t312 t320 true)) = some r := H
   have A11 := Aside0.mk A110
   clear A110
   have HC12 := Aside0.mk H
   clear H
   go_enter Try.func7, Try.ntmps7
   go_upto_region 10 with (first | ((with_reducible refine gate_callee (f := 8) rfl ?_); refine goesL_ (some 22) rfl rfl Try.func8 (by kernel_rfl) rfl #[] rfl (by (try simp only [List.map_toArray, List.map_cons, List.map_nil]); first | done | rfl | (simp only [List.length_drop, List.length_take]; first | rfl | (rw [Nat.min_eq_left (Int.toNat_le.2 (of_decide_eq_true (by assumption)))]; rfl))) ?_; (with_reducible refine (palletlaw03_live.calls  true _ A4.out).mono ?_); rintro e w13 ⟨rfl, hb⟩; refine ⟨_, rfl, ?_⟩; have n0_ := Aside0.mk (below_step (by repeat (first | (with_reducible first | exact HB.out | apply below_alloc | apply pw_below_drewN | apply below_drew1) | exact HB.out)) hb); clear HB; have HB := n0_; clear n0_; (try clear hb); (try clear hb2); (try clear hk); (try clear hi)) | ((with_reducible refine gate_callee (f := 16) rfl ?_); refine goesL_ (some 31) rfl rfl Try.func16 (by kernel_rfl) rfl #[.slice A0 l0.length c0] rfl (by (try simp only [List.map_toArray, List.map_cons, List.map_nil]); first | done | rfl | (simp only [List.length_drop, List.length_take]; first | rfl | (rw [Nat.min_eq_left (Int.toNat_le.2 (of_decide_eq_true (by assumption)))]; rfl))) ?_; (with_reducible refine (crc_Seal24.calls _ _ l0 t312 t313 _ ?side1 ?side2 A8.out).mono ?_); (case side1 => repeat (first | exact (Kd.C_below HR0.out HB.out) | (with_reducible refine Kd.C_alloc ?_ _) | (with_reducible refine Kd.C_drewN ?_ _) | (with_reducible refine Kd.C_drew ?_))); (case side2 => exact HC0.out); rintro e w14 ⟨v314, rfl, ho0, hb⟩; refine ⟨_, rfl, ?_⟩; have n0_ := Aside0.mk (Kd.R_lower ho0 (below_size (by repeat (first | (with_reducible first | exact HB.out | apply below_alloc | apply pw_below_drewN | apply below_drew1) | exact HB.out)))); have n1_ := Aside0.mk (below_step (by repeat (first | (with_reducible first | exact HB.out | apply below_alloc | apply pw_below_drewN | apply below_drew1) | exact HB.out)) hb); clear HB; have HO315 := n0_; have HB := n1_; clear n0_ n1_; (try clear hb); (try clear hb2); (try clear hk); (try clear hi); (try clear ho0); obtain ⟨Ao15, co15, eo15⟩ := Kd.R_slice HO315.out; subst eo15) | ((with_reducible refine gate_callee (f := 20) rfl ?_); refine goesL_ (some 36) rfl rfl Try.func20 (by kernel_rfl) rfl #[.slice Ao15 t312.length co15] rfl (by (try simp only [List.map_toArray, List.map_cons, List.map_nil]); first | done | rfl | (simp only [List.length_drop, List.length_take]; first | rfl | (rw [Nat.min_eq_left (Int.toNat_le.2 (of_decide_eq_true (by assumption)))]; rfl))) ?_; (with_reducible refine (crc_Open24.calls _ _ t312 t316 t317 _ ?side1 ?side2 A9.out).mono ?_); (case side1 => repeat (first | exact (Kd.R_reads' HO315.out).2.2 | (with_reducible refine Kd.C_alloc ?_ _) | (with_reducible refine Kd.C_drewN ?_ _) | (with_reducible refine Kd.C_drew ?_))); (case side2 => exact (Kd.R_reads' HO315.out).2.1); rintro e w16 ⟨v318, rfl, ho0, hb⟩; refine ⟨_, rfl, ?_⟩; have n0_ := Aside0.mk (Kd.R_elder' (by (with_reducible repeat (first | apply Kd.R_alloc | apply Kd.R_drewN | apply Kd.R_drew)); exact HO315.out) (Kd.R_base ho0) hb); have n1_ := Aside0.mk (Kd.R_lower (Kd.R_new' ho0 (Kd.R_lt (by (with_reducible repeat (first | apply Kd.R_alloc | apply Kd.R_drewN | apply Kd.R_drew)); exact HO315.out))) (below_size (by repeat (first | (with_reducible first | exact HB.out | apply below_alloc | apply pw_below_drewN | apply below_drew1) | exact HB.out)))); have n2_ := Aside0.mk (below_step (by repeat (first | (with_reducible first | exact HB.out | apply below_alloc | apply pw_below_drewN | apply below_drew1) | exact HB.out)) hb); clear HO315; clear HB; have HO315 := n0_; have HO319 := n1_; have HB := n2_; clear n0_ n1_ n2_; (try clear hb); (try clear hb2); (try clear hk); (try clear hi); (try clear ho0)) | ((with_reducible refine gate_callee (f := 18) rfl ?_); refine goesL_ (some 41) rfl rfl Try.func18 (by kernel_rfl) rfl #[.slice A0 l0.length c0] rfl (by (try simp only [List.map_toArray, List.map_cons, List.map_nil]); first | done | rfl | (simp only [List.length_drop, List.length_take]; first | rfl | (rw [Nat.min_eq_left (Int.toNat_le.2 (of_decide_eq_true (by assumption)))]; rfl))) ?_; (with_reducible refine (crc_Seal32.calls _ _ l0 t320 t321 _ ?side1 ?side2 A10.out).mono ?_); (case side1 => repeat (first | exact (Kd.C_below HR0.out HB.out) | (with_reducible refine Kd.C_alloc ?_ _) | (with_reducible refine Kd.C_drewN ?_ _) | (with_reducible refine Kd.C_drew ?_))); (case side2 => exact HC0.out); rintro e w17 ⟨v322, rfl, ho0, hb⟩; refine ⟨_, rfl, ?_⟩; have n0_ := Aside0.mk (Kd.R_elder' (by (with_reducible repeat (first | apply Kd.R_alloc | apply Kd.R_drewN | apply Kd.R_drew)); exact HO315.out) (Kd.R_base ho0) hb); have n1_ := Aside0.mk (Kd.R_elder' (by (with_reducible repeat (first | apply Kd.R_alloc | apply Kd.R_drewN | apply Kd.R_drew)); exact HO319.out) (Kd.R_base ho0) hb); have n2_ := Aside0.mk (Kd.R_lower (Kd.R_new' (Kd.R_new' ho0 (Kd.R_lt (by (with_reducible repeat (first | apply Kd.R_alloc | apply Kd.R_drewN | apply Kd.R_drew)); exact HO315.out))) (Kd.R_lt (by (with_reducible repeat (first | apply Kd.R_alloc | apply Kd.R_drewN | apply Kd.R_drew)); exact HO319.out))) (below_size (by repeat (first | (with_reducible first | exact HB.out | apply below_alloc | apply pw_below_drewN | apply below_drew1) | exact HB.out)))); have n3_ := Aside0.mk (below_step (by repeat (first | (with_reducible first | exact HB.out | apply below_alloc | apply pw_below_drewN | apply below_drew1) | exact HB.out)) hb); clear HO315; clear HO319; clear HB; have HO315 := n0_; have HO319 := n1_; have HO323 := n2_; have HB := n3_; clear n0_ n1_ n2_ n3_; (try clear hb); (try clear hb2); (try clear hk); (try clear hi); (try clear ho0); obtain ⟨Ao18, co18, eo18⟩ := Kd.R_slice HO323.out; subst eo18) | ((with_reducible refine gate_callee (f := 22) rfl ?_); refine goesL_ (some 46) rfl rfl Try.func22 (by kernel_rfl) rfl #[.slice Ao18 t320.length co18] rfl (by (try simp only [List.map_toArray, List.map_cons, List.map_nil]); first | done | rfl | (simp only [List.length_drop, List.length_take]; first | rfl | (rw [Nat.min_eq_left (Int.toNat_le.2 (of_decide_eq_true (by assumption)))]; rfl))) ?_; (with_reducible refine (crc_Open32.calls _ _ t320 t324 t325 _ ?side1 ?side2 A11.out).mono ?_); (case side1 => repeat (first | exact (Kd.R_reads' HO323.out).2.2 | (with_reducible refine Kd.C_alloc ?_ _) | (with_reducible refine Kd.C_drewN ?_ _) | (with_reducible refine Kd.C_drew ?_))); (case side2 => exact (Kd.R_reads' HO323.out).2.1); rintro e w19 ⟨v326, rfl, ho0, hb⟩; refine ⟨_, rfl, ?_⟩; have n0_ := Aside0.mk (Kd.R_elder' (by (with_reducible repeat (first | apply Kd.R_alloc | apply Kd.R_drewN | apply Kd.R_drew)); exact HO315.out) (Kd.R_base ho0) hb); have n1_ := Aside0.mk (Kd.R_elder' (by (with_reducible repeat (first | apply Kd.R_alloc | apply Kd.R_drewN | apply Kd.R_drew)); exact HO319.out) (Kd.R_base ho0) hb); have n2_ := Aside0.mk (Kd.R_elder' (by (with_reducible repeat (first | apply Kd.R_alloc | apply Kd.R_drewN | apply Kd.R_drew)); exact HO323.out) (Kd.R_base ho0) hb); have n3_ := Aside0.mk (Kd.R_lower (Kd.R_new' (Kd.R_new' (Kd.R_new' ho0 (Kd.R_lt (by (with_reducible repeat (first | apply Kd.R_alloc | apply Kd.R_drewN | apply Kd.R_drew)); exact HO315.out))) (Kd.R_lt (by (with_reducible repeat (first | apply Kd.R_alloc | apply Kd.R_drewN | apply Kd.R_drew)); exact HO319.out))) (Kd.R_lt (by (with_reducible repeat (first | apply Kd.R_alloc | apply Kd.R_drewN | apply Kd.R_drew)); exact HO323.out))) (below_size (by repeat (first | (with_reducible first | exact HB.out | apply below_alloc | apply pw_below_drewN | apply below_drew1) | exact HB.out)))); have n4_ := Aside0.mk (below_step (by repeat (first | (with_reducible first | exact HB.out | apply below_alloc | apply pw_below_drewN | apply below_drew1) | exact HB.out)) hb); clear HO315; clear HO319; clear HO323; clear HB; have HO315 := n0_; have HO319 := n1_; have HO323 := n2_; have HO327 := n3_; have HB := n4_; clear n0_ n1_ n2_ n3_ n4_; (try clear hb); (try clear hb2); (try clear hk); (try clear hi); (try clear ho0)))
   (try simp only [Act.put, List.setIfInBounds_toArray, List.set_cons_zero, List.set_cons_succ])
   go_cut [90] (fun v90 wc => ∃ (kq : Nat) (x90_11 : Bool), v90 = .bool x90_11 ∧ Aside0 (palletlaw03_CrcBursts.j0 kq a1 a2 true t312 t320 x90_11 = some r) ∧ Aside0 (kq ≤ k) ∧ Aside0 (Kd.R (Kd.int .u8) 5 wc w.heap.size (fun k_ => some k_ ≠ ((.slice Ao18 t320.length co18) : Value).ownBlock) (.slice Ao15 t312.length co15) t312) ∧ Aside0 (Kd.R (Kd.int .u8) 5 wc w.heap.size (fun k_ => some k_ ≠ ((.slice Ao15 t312.length co15) : Value).ownBlock) (.slice Ao18 t320.length co18) t320) ∧ Aside0 (Below w.heap.size w wc))
   case first =>
    have H := HC12.out
    clear HC12
    by_cases c20 : t313 = 0
    ·rw [if_pos c20] at H
     have c20b0 : (t313 == 0) = true := beq_iff_eq.mpr c20
     have c20b1 : (t313 != 0) = false := bne_eq_false_iff_eq.mpr c20
     clear c20
     (first | rw [c20b0] | (simp only [i64_w, i32_w]; rw [c20b0]) | skip)
     by_cases c21 : t317 = 0
     ·rw [if_pos c21] at H
      have c21b0 : (t317 == 0) = true := beq_iff_eq.mpr c21
      have c21b1 : (t317 != 0) = false := bne_eq_false_iff_eq.mpr c21
      clear c21
      by_cases c22 : t321 = 0
      ·rw [if_pos c22] at H
       have c22b0 : (t321 == 0) = true := beq_iff_eq.mpr c22
       have c22b1 : (t321 != 0) = false := bne_eq_false_iff_eq.mpr c22
       clear c22
       by_cases c23 : t325 = 0
       ·rw [if_pos c23] at H
        have c23b0 : (t325 == 0) = true := beq_iff_eq.mpr c23
        have c23b1 : (t325 != 0) = false := bne_eq_false_iff_eq.mpr c23
        clear c23
        replace H := Option.bind_eq_some_iff.mp H
        obtain ⟨t328, A240, H⟩ := H
        replace H : (if t328 = true then ((palletref02_Same.f t324 l0).bind fun t329 => (if t329 = true then (if (t312.length : Int) = (wrap64 ((l0.length : Int) + 3)) then (palletlaw03_CrcBursts.j0 k a1 a2 true t312 t320 ((t320.length : Int) != (wrap64 ((l0.length : Int) + 4)))) else (palletlaw03_CrcBursts.j0 k a1 a2 true t312 t320 true)) else (palletlaw03_CrcBursts.j0 k a1 a2 true t312 t320 true))) else (palletlaw03_CrcBursts.j0 k a1 a2 true t312 t320 true)) = some r := H
        have A24 := Aside0.mk A240
        clear A240
        by_cases c25 : t328 = true
        ·subst c25
         have H1 : ((palletref02_Same.f t324 l0).bind fun t329 => (if t329 = true then (if (t312.length : Int) = (wrap64 ((l0.length : Int) + 3)) then (palletlaw03_CrcBursts.j0 k a1 a2 true t312 t320 ((t320.length : Int) != (wrap64 ((l0.length : Int) + 4)))) else (palletlaw03_CrcBursts.j0 k a1 a2 true t312 t320 true)) else (palletlaw03_CrcBursts.j0 k a1 a2 true t312 t320 true))) = some r := by rw [if_pos rfl] at H; exact H
         clear H
         have H := H1
         clear H1
         replace H := Option.bind_eq_some_iff.mp H
         obtain ⟨t329, A260, H⟩ := H
         replace H : (if t329 = true then (if (t312.length : Int) = (wrap64 ((l0.length : Int) + 3)) then (palletlaw03_CrcBursts.j0 k a1 a2 true t312 t320 ((t320.length : Int) != (wrap64 ((l0.length : Int) + 4)))) else (palletlaw03_CrcBursts.j0 k a1 a2 true t312 t320 true)) else (palletlaw03_CrcBursts.j0 k a1 a2 true t312 t320 true)) = some r := H
         have A26 := Aside0.mk A260
         clear A260
         by_cases c27 : t329 = true
         ·subst c27
          have H1 : (if (t312.length : Int) = (wrap64 ((l0.length : Int) + 3)) then (palletlaw03_CrcBursts.j0 k a1 a2 true t312 t320 ((t320.length : Int) != (wrap64 ((l0.length : Int) + 4)))) else (palletlaw03_CrcBursts.j0 k a1 a2 true t312 t320 true)) = some r := by rw [if_pos rfl] at H; exact H
          clear H
          have H := H1
          clear H1
          by_cases c28 : (t312.length : Int) = (wrap64 ((l0.length : Int) + 3))
          ·rw [if_pos c28] at H
           have c28b0 : ((t312.length : Int) == (wrap64 ((l0.length : Int) + 3))) = true := beq_iff_eq.mpr c28
           have c28b1 : ((t312.length : Int) != (wrap64 ((l0.length : Int) + 3))) = false := bne_eq_false_iff_eq.mpr c28
           clear c28
           have H' := Aside0.mk H
           clear H
           obtain ⟨Ao29, co29, eo29⟩ := Kd.R_slice HO319.out
           subst eo29
           go_wp2_with (first | (go_at_call 15; (with_reducible refine (palletref02_Same.calls _ _ t316 _ _ l0 true _ ?side1 ?side2 ?side3 ?side4 A24.out).mono ?_); (case side1 => repeat (first | exact (Kd.R_reads' HO319.out).2.2 | (with_reducible refine Kd.C_alloc ?_ _) | (with_reducible refine Kd.C_drewN ?_ _) | (with_reducible refine Kd.C_drew ?_))); (case side2 => exact (Kd.R_reads' HO319.out).2.1); (case side3 => repeat (first | exact (Kd.C_below HR0.out HB.out) | (with_reducible refine Kd.C_alloc ?_ _) | (with_reducible refine Kd.C_drewN ?_ _) | (with_reducible refine Kd.C_drew ?_))); (case side4 => exact HC0.out); rintro e w' ⟨rfl, ⟨nd, rfl⟩⟩; obtain ⟨Ao30, co30, eo30⟩ := Kd.R_slice HO327.out; subst eo30) | (go_at_call 15; (with_reducible refine (palletref02_Same.calls _ _ t324 _ _ l0 true _ ?side1 ?side2 ?side3 ?side4 A26.out).mono ?_); (case side1 => repeat (first | exact (Kd.R_reads' HO327.out).2.2 | (with_reducible refine Kd.C_alloc ?_ _) | (with_reducible refine Kd.C_drewN ?_ _) | (with_reducible refine Kd.C_drew ?_))); (case side2 => exact (Kd.R_reads' HO327.out).2.1); (case side3 => repeat (first | exact (Kd.C_below HR0.out (by repeat (first | (with_reducible first | exact HB.out | apply below_alloc | apply pw_below_drewN | apply below_drew1) | exact HB.out))) | (with_reducible refine Kd.C_alloc ?_ _) | (with_reducible refine Kd.C_drewN ?_ _) | (with_reducible refine Kd.C_drew ?_))); (case side4 => exact HC0.out); rintro e w' ⟨rfl, ⟨nd, rfl⟩⟩))
           go_meet
           case rel => exact ⟨_, (((t320.length : Int) != (wrap64 ((l0.length : Int) + 4)))), (by first | rfl | (simp; done) | (simp [*]; done)), H', ⟨by first | omega | exact Nat.le_refl _⟩, ⟨by (with_reducible repeat (first | apply Kd.R_alloc | apply Kd.R_drewN | apply Kd.R_drew)); exact Kd.R_mono HO315.out (fun _ hk => hk.1.2)⟩, ⟨by (with_reducible repeat (first | apply Kd.R_alloc | apply Kd.R_drewN | apply Kd.R_drew)); exact Kd.R_mono HO323.out (fun _ hk => hk.1.1.2)⟩, ⟨by repeat (first | (with_reducible first | exact HB.out | apply below_alloc | apply pw_below_drewN | apply below_drew1) | exact HB.out)⟩⟩
          ·rw [if_neg c28] at H
           have c28b0 : ((t312.length : Int) == (wrap64 ((l0.length : Int) + 3))) = false := beq_eq_false_iff_ne.mpr c28
           have c28b1 : ((t312.length : Int) != (wrap64 ((l0.length : Int) + 3))) = true := bne_iff_ne.mpr c28
           have H' := Aside0.mk H
           clear H
           obtain ⟨Ao31, co31, eo31⟩ := Kd.R_slice HO319.out
           subst eo31
           go_wp2_with (first | (go_at_call 15; (with_reducible refine (palletref02_Same.calls _ _ t316 _ _ l0 true _ ?side1 ?side2 ?side3 ?side4 A24.out).mono ?_); (case side1 => repeat (first | exact (Kd.R_reads' HO319.out).2.2 | (with_reducible refine Kd.C_alloc ?_ _) | (with_reducible refine Kd.C_drewN ?_ _) | (with_reducible refine Kd.C_drew ?_))); (case side2 => exact (Kd.R_reads' HO319.out).2.1); (case side3 => repeat (first | exact (Kd.C_below HR0.out HB.out) | (with_reducible refine Kd.C_alloc ?_ _) | (with_reducible refine Kd.C_drewN ?_ _) | (with_reducible refine Kd.C_drew ?_))); (case side4 => exact HC0.out); rintro e w' ⟨rfl, ⟨nd, rfl⟩⟩; obtain ⟨Ao32, co32, eo32⟩ := Kd.R_slice HO327.out; subst eo32) | (go_at_call 15; (with_reducible refine (palletref02_Same.calls _ _ t324 _ _ l0 true _ ?side1 ?side2 ?side3 ?side4 A26.out).mono ?_); (case side1 => repeat (first | exact (Kd.R_reads' HO327.out).2.2 | (with_reducible refine Kd.C_alloc ?_ _) | (with_reducible refine Kd.C_drewN ?_ _) | (with_reducible refine Kd.C_drew ?_))); (case side2 => exact (Kd.R_reads' HO327.out).2.1); (case side3 => repeat (first | exact (Kd.C_below HR0.out (by repeat (first | (with_reducible first | exact HB.out | apply below_alloc | apply pw_below_drewN | apply below_drew1) | exact HB.out))) | (with_reducible refine Kd.C_alloc ?_ _) | (with_reducible refine Kd.C_drewN ?_ _) | (with_reducible refine Kd.C_drew ?_))); (case side4 => exact HC0.out); rintro e w' ⟨rfl, ⟨nd, rfl⟩⟩))
           go_meet
           case rel => exact ⟨_, (true), (by first | rfl | (simp; done) | (simp [*]; done)), H', ⟨by first | omega | exact Nat.le_refl _⟩, ⟨by (with_reducible repeat (first | apply Kd.R_alloc | apply Kd.R_drewN | apply Kd.R_drew)); exact Kd.R_mono HO315.out (fun _ hk => hk.1.2)⟩, ⟨by (with_reducible repeat (first | apply Kd.R_alloc | apply Kd.R_drewN | apply Kd.R_drew)); exact Kd.R_mono HO323.out (fun _ hk => hk.1.1.2)⟩, ⟨by repeat (first | (with_reducible first | exact HB.out | apply below_alloc | apply pw_below_drewN | apply below_drew1) | exact HB.out)⟩⟩
         ·replace c27 := Bool.eq_false_iff.mpr c27
          subst c27
          have H1 : (palletlaw03_CrcBursts.j0 k a1 a2 true t312 t320 true) = some r := by rw [if_neg (show ¬ (false = true) by decide)] at H; exact H
          clear H
          have H := H1
          clear H1
          have H' := Aside0.mk H
          clear H
          obtain ⟨Ao33, co33, eo33⟩ := Kd.R_slice HO319.out
          subst eo33
          go_wp2_with (first | (go_at_call 15; (with_reducible refine (palletref02_Same.calls _ _ t316 _ _ l0 true _ ?side1 ?side2 ?side3 ?side4 A24.out).mono ?_); (case side1 => repeat (first | exact (Kd.R_reads' HO319.out).2.2 | (with_reducible refine Kd.C_alloc ?_ _) | (with_reducible refine Kd.C_drewN ?_ _) | (with_reducible refine Kd.C_drew ?_))); (case side2 => exact (Kd.R_reads' HO319.out).2.1); (case side3 => repeat (first | exact (Kd.C_below HR0.out HB.out) | (with_reducible refine Kd.C_alloc ?_ _) | (with_reducible refine Kd.C_drewN ?_ _) | (with_reducible refine Kd.C_drew ?_))); (case side4 => exact HC0.out); rintro e w' ⟨rfl, ⟨nd, rfl⟩⟩; obtain ⟨Ao34, co34, eo34⟩ := Kd.R_slice HO327.out; subst eo34) | (go_at_call 15; (with_reducible refine (palletref02_Same.calls _ _ t324 _ _ l0 false _ ?side1 ?side2 ?side3 ?side4 A26.out).mono ?_); (case side1 => repeat (first | exact (Kd.R_reads' HO327.out).2.2 | (with_reducible refine Kd.C_alloc ?_ _) | (with_reducible refine Kd.C_drewN ?_ _) | (with_reducible refine Kd.C_drew ?_))); (case side2 => exact (Kd.R_reads' HO327.out).2.1); (case side3 => repeat (first | exact (Kd.C_below HR0.out (by repeat (first | (with_reducible first | exact HB.out | apply below_alloc | apply pw_below_drewN | apply below_drew1) | exact HB.out))) | (with_reducible refine Kd.C_alloc ?_ _) | (with_reducible refine Kd.C_drewN ?_ _) | (with_reducible refine Kd.C_drew ?_))); (case side4 => exact HC0.out); rintro e w' ⟨rfl, ⟨nd, rfl⟩⟩))
          go_meet
          case rel => exact ⟨_, (true), (by first | rfl | (simp; done) | (simp [*]; done)), H', ⟨by first | omega | exact Nat.le_refl _⟩, ⟨by (with_reducible repeat (first | apply Kd.R_alloc | apply Kd.R_drewN | apply Kd.R_drew)); exact Kd.R_mono HO315.out (fun _ hk => hk.1.2)⟩, ⟨by (with_reducible repeat (first | apply Kd.R_alloc | apply Kd.R_drewN | apply Kd.R_drew)); exact Kd.R_mono HO323.out (fun _ hk => hk.1.1.2)⟩, ⟨by repeat (first | (with_reducible first | exact HB.out | apply below_alloc | apply pw_below_drewN | apply below_drew1) | exact HB.out)⟩⟩
        ·replace c25 := Bool.eq_false_iff.mpr c25
         subst c25
         have H1 : (palletlaw03_CrcBursts.j0 k a1 a2 true t312 t320 true) = some r := by rw [if_neg (show ¬ (false = true) by decide)] at H; exact H
         clear H
         have H := H1
         clear H1
         have H' := Aside0.mk H
         clear H
         obtain ⟨Ao35, co35, eo35⟩ := Kd.R_slice HO319.out
         subst eo35
         go_wp2_with (first | (go_at_call 15; (with_reducible refine (palletref02_Same.calls _ _ t316 _ _ l0 false _ ?side1 ?side2 ?side3 ?side4 A24.out).mono ?_); (case side1 => repeat (first | exact (Kd.R_reads' HO319.out).2.2 | (with_reducible refine Kd.C_alloc ?_ _) | (with_reducible refine Kd.C_drewN ?_ _) | (with_reducible refine Kd.C_drew ?_))); (case side2 => exact (Kd.R_reads' HO319.out).2.1); (case side3 => repeat (first | exact (Kd.C_below HR0.out HB.out) | (with_reducible refine Kd.C_alloc ?_ _) | (with_reducible refine Kd.C_drewN ?_ _) | (with_reducible refine Kd.C_drew ?_))); (case side4 => exact HC0.out); rintro e w' ⟨rfl, ⟨nd, rfl⟩⟩))
         go_meet
         case rel => exact ⟨_, (true), (by first | rfl | (simp; done) | (simp [*]; done)), H', ⟨by first | omega | exact Nat.le_refl _⟩, ⟨by (with_reducible repeat (first | apply Kd.R_alloc | apply Kd.R_drewN | apply Kd.R_drew)); exact Kd.R_mono HO315.out (fun _ hk => hk.1.2)⟩, ⟨by (with_reducible repeat (first | apply Kd.R_alloc | apply Kd.R_drewN | apply Kd.R_drew)); exact Kd.R_mono HO323.out (fun _ hk => hk.1.1.2)⟩, ⟨by repeat (first | (with_reducible first | exact HB.out | apply below_alloc | apply pw_below_drewN | apply below_drew1) | exact HB.out)⟩⟩
       ·rw [if_neg c23] at H
        have c23b0 : (t325 == 0) = false := beq_eq_false_iff_ne.mpr c23
        have c23b1 : (t325 != 0) = true := bne_iff_ne.mpr c23
        have H' := Aside0.mk H
        clear H
        go_wp2
        go_meet
        case rel => exact ⟨_, (true), (by first | rfl | (simp; done) | (simp [*]; done)), H', ⟨by first | omega | exact Nat.le_refl _⟩, ⟨by (with_reducible repeat (first | apply Kd.R_alloc | apply Kd.R_drewN | apply Kd.R_drew)); exact Kd.R_mono HO315.out (fun _ hk => hk.1.2)⟩, ⟨by (with_reducible repeat (first | apply Kd.R_alloc | apply Kd.R_drewN | apply Kd.R_drew)); exact Kd.R_mono HO323.out (fun _ hk => hk.1.1.2)⟩, ⟨by repeat (first | (with_reducible first | exact HB.out | apply below_alloc | apply pw_below_drewN | apply below_drew1) | exact HB.out)⟩⟩
      ·rw [if_neg c22] at H
       have c22b0 : (t321 == 0) = false := beq_eq_false_iff_ne.mpr c22
       have c22b1 : (t321 != 0) = true := bne_iff_ne.mpr c22
       have H' := Aside0.mk H
       clear H
       go_wp2
       go_meet
       case rel => exact ⟨_, (true), (by first | rfl | (simp; done) | (simp [*]; done)), H', ⟨by first | omega | exact Nat.le_refl _⟩, ⟨by (with_reducible repeat (first | apply Kd.R_alloc | apply Kd.R_drewN | apply Kd.R_drew)); exact Kd.R_mono HO315.out (fun _ hk => hk.1.2)⟩, ⟨by (with_reducible repeat (first | apply Kd.R_alloc | apply Kd.R_drewN | apply Kd.R_drew)); exact Kd.R_mono HO323.out (fun _ hk => hk.1.1.2)⟩, ⟨by repeat (first | (with_reducible first | exact HB.out | apply below_alloc | apply pw_below_drewN | apply below_drew1) | exact HB.out)⟩⟩
     ·rw [if_neg c21] at H
      have c21b0 : (t317 == 0) = false := beq_eq_false_iff_ne.mpr c21
      have c21b1 : (t317 != 0) = true := bne_iff_ne.mpr c21
      have H' := Aside0.mk H
      clear H
      go_wp2
      go_meet
      case rel => exact ⟨_, (true), (by first | rfl | (simp; done) | (simp [*]; done)), H', ⟨by first | omega | exact Nat.le_refl _⟩, ⟨by (with_reducible repeat (first | apply Kd.R_alloc | apply Kd.R_drewN | apply Kd.R_drew)); exact Kd.R_mono HO315.out (fun _ hk => hk.1.2)⟩, ⟨by (with_reducible repeat (first | apply Kd.R_alloc | apply Kd.R_drewN | apply Kd.R_drew)); exact Kd.R_mono HO323.out (fun _ hk => hk.1.1.2)⟩, ⟨by repeat (first | (with_reducible first | exact HB.out | apply below_alloc | apply pw_below_drewN | apply below_drew1) | exact HB.out)⟩⟩
    ·rw [if_neg c20] at H
     have c20b0 : (t313 == 0) = false := beq_eq_false_iff_ne.mpr c20
     have c20b1 : (t313 != 0) = true := bne_iff_ne.mpr c20
     (first | rw [c20b0] | (simp only [i64_w, i32_w]; rw [c20b0]) | skip)
     have H' := Aside0.mk H
     clear H
     go_wp2
     go_meet
     case rel => exact ⟨_, (true), (by first | rfl | (simp; done) | (simp [*]; done)), H', ⟨by first | omega | exact Nat.le_refl _⟩, ⟨by (with_reducible repeat (first | apply Kd.R_alloc | apply Kd.R_drewN | apply Kd.R_drew)); exact Kd.R_mono HO315.out (fun _ hk => hk.1.2)⟩, ⟨by (with_reducible repeat (first | apply Kd.R_alloc | apply Kd.R_drewN | apply Kd.R_drew)); exact Kd.R_mono HO323.out (fun _ hk => hk.1.1.2)⟩, ⟨by repeat (first | (with_reducible first | exact HB.out | apply below_alloc | apply pw_below_drewN | apply below_drew1) | exact HB.out)⟩⟩
   case rest =>
    clear HC12
    try clear c1
    try clear c2
    try clear p2
    try clear c5
    try clear c6
    try clear c6b0
    try clear c6b1
    try clear p6
    try clear c7
    try clear c8
    try clear c16
    try clear c18
    try clear c20
    try clear c20b0
    try clear c20b1
    try clear c21
    try clear c21b0
    try clear c21b1
    try clear c22
    try clear c22b0
    try clear c22b1
    try clear c23
    try clear c23b0
    try clear c23b1
    try clear c25
    try clear c27
    try clear c28
    try clear c28b0
    try clear c28b1
    obtain ⟨kq, x90_11, rfl, HA, HJ11, HO_8, HO_12, HB⟩ := hcut
    cases kq with
    | zero => exact absurd HA.out (by simp [palletlaw03_CrcBursts.j0])
    | succ kj11 =>
     have H := HA.out
     clear HA
     simp only [palletlaw03_CrcBursts.j0] at H
     by_cases c36 : x90_11 = true
     ·subst c36
      have H1 : (some false) = some r := by rw [if_pos rfl] at H; exact H
      clear H
      have H := H1
      clear H1
      obtain rfl := Option.some.inj H
      exact absurd hr_.out (by decide)
     ·replace c36 := Bool.eq_false_iff.mpr c36
      subst c36
      have H1 : (if (wrap64 (8 * (t312.length : Int))) = 0 then (none) else (palletlaw03_CrcBursts.l0 kj11 (Int.tmod (wrap64 ((Int.tmod a1 (wrap64 (8 * (t312.length : Int)))) + (wrap64 (8 * (t312.length : Int))))) (wrap64 (8 * (t312.length : Int)))) a2 true t312 t320 false 0)) = some r := by rw [if_neg (show ¬ (false = true) by decide)] at H; exact H
      clear H
      have H := H1
      clear H1
      by_cases c37 : (wrap64 (8 * (t312.length : Int))) = 0
      ·rw [if_pos c37] at H
       exact absurd H (by simp)
      ·rw [if_neg c37] at H
       have c37b0 : ((wrap64 (8 * (t312.length : Int))) == 0) = false := beq_eq_false_iff_ne.mpr c37
       have c37b1 : ((wrap64 (8 * (t312.length : Int))) != 0) = true := bne_iff_ne.mpr c37
       have H' := Aside0.mk H
       clear H
       go_wp2
       go_loopg [8, 12, 16, 104] kj11 (fun kq v8 v12 v16 v104 w' => ∃ (x8_2 : List Int) (x12_2 : List Int) (x16_2 : Bool) (x104_2 : Int), v16 = .bool x16_2 ∧ v104 = .int .i64 x104_2 ∧ Aside0 (palletlaw03_CrcBursts.l0 kq (Int.tmod (wrap64 ((Int.tmod a1 (wrap64 (8 * (t312.length : Int)))) + (wrap64 (8 * (t312.length : Int))))) (wrap64 (8 * (t312.length : Int)))) a2 true x8_2 x12_2 x16_2 x104_2 = some r) ∧ Aside0 (kq ≤ kj11) ∧ Aside0 (Kd.R (Kd.int .u8) 5 w' w.heap.size (fun k_ => some k_ ≠ (v12 : Value).ownBlock) v8 x8_2) ∧ Aside0 (Kd.R (Kd.int .u8) 5 w' w.heap.size (fun k_ => some k_ ≠ (v8 : Value).ownBlock) v12 x12_2) ∧ Aside0 (Below w.heap.size w w'))
       case atStart => exact ⟨(t312), (t320), (false), (0), (by first | rfl | (simp; done) | (simp [*]; done)), (by first | rfl | (simp; done) | (simp [*]; done)), H', ⟨Nat.le_refl _⟩, ⟨by (with_reducible repeat (first | apply Kd.R_alloc | apply Kd.R_drewN | apply Kd.R_drew)); exact HO_8.out⟩, ⟨by (with_reducible repeat (first | apply Kd.R_alloc | apply Kd.R_drewN | apply Kd.R_drew)); exact HO_12.out⟩, ⟨by repeat (first | (with_reducible first | exact HB.out | apply below_alloc | apply pw_below_drewN | apply below_drew1) | exact HB.out)⟩⟩
       case round =>
        clear H'
        try clear c1
        try clear c2
        try clear p2
        try clear c3
        try clear c5
        try clear c6
        try clear c6b0
        try clear c6b1
        try clear p6
        try clear c7
        try clear c8
        try clear c16
        try clear c18
        try clear c20
        try clear c20b0
        try clear c20b1
        try clear c21
        try clear c21b0
        try clear c21b1
        try clear c22
        try clear c22b0
        try clear c22b1
        try clear c23
        try clear c23b0
        try clear c23b1
        try clear c25
        try clear c27
        try clear c28
        try clear c28b0
        try clear c28b1
        try clear c36
        try clear c37
        try clear c37b0
        try clear c37b1
        try clear p2
        try clear p6
        obtain ⟨x8_2, x12_2, x16_2, x104_2, rfl, rfl, HA, HK2, HO_8, HO_12, HB⟩ := hrel
        cases gk with
        | zero => exact absurd HA.out (by simp [palletlaw03_CrcBursts.l0])
        | succ k2 =>
         have H := HA.out
         clear HA
         simp only [palletlaw03_CrcBursts.l0] at H
         by_cases c38 : x104_2 < 24
         ·rw [if_pos c38] at H
          have c38b0 : decide (x104_2 < 24) = true := decide_eq_true c38
          clear c38
          have HC39 := Aside0.mk H
          clear H
          go_upto_region 17 with (fail)
          go_cut [120] (fun v120 wc => ∃ (kq : Nat) (x120_38 : Bool), v120 = .bool x120_38 ∧ Aside0 (palletlaw03_CrcBursts.j2 kq (Int.tmod (wrap64 ((Int.tmod a1 (wrap64 (8 * (t312.length : Int)))) + (wrap64 (8 * (t312.length : Int))))) (wrap64 (8 * (t312.length : Int)))) a2 true x8_2 x12_2 x16_2 x104_2 x104_2 x120_38 = some r) ∧ Aside0 (kq ≤ k2) ∧ Aside0 (Kd.R (Kd.int .u8) 5 wc w.heap.size (fun k_ => some k_ ≠ (u12 : Value).ownBlock) u8 x8_2) ∧ Aside0 (Kd.R (Kd.int .u8) 5 wc w.heap.size (fun k_ => some k_ ≠ (u8 : Value).ownBlock) u12 x12_2) ∧ Aside0 (Below w.heap.size w wc))
          case first =>
           have H := HC39.out
           clear HC39
           by_cases c40 : 0 ≤ x104_2
           ·rw [if_pos c40] at H
            have c40b0 := eq_true c40
            have c40b1 : decide (0 ≤ x104_2) = true := decide_eq_true c40
            clear c40
            obtain ⟨ji41, hji41⟩ : ∃ j_ : Int, (shr .u32 a2 x104_2) = j_ := ⟨_, rfl⟩
            replace H : (if (Go.bits .and .u32 (ji41) 1) = 0 then (palletlaw03_CrcBursts.j2 k2 (Int.tmod (wrap64 ((Int.tmod a1 (wrap64 (8 * (t312.length : Int)))) + (wrap64 (8 * (t312.length : Int))))) (wrap64 (8 * (t312.length : Int)))) a2 true x8_2 x12_2 x16_2 x104_2 x104_2 true) else (palletlaw03_CrcBursts.j2 k2 (Int.tmod (wrap64 ((Int.tmod a1 (wrap64 (8 * (t312.length : Int)))) + (wrap64 (8 * (t312.length : Int))))) (wrap64 (8 * (t312.length : Int)))) a2 true x8_2 x12_2 x16_2 x104_2 x104_2 (decide ((wrap64 ((Int.tmod (wrap64 ((Int.tmod a1 (wrap64 (8 * (t312.length : Int)))) + (wrap64 (8 * (t312.length : Int))))) (wrap64 (8 * (t312.length : Int)))) + x104_2)) ≥ (wrap64 (8 * (x8_2.length : Int))))))) = some r := by first | (rw [hji41] at H; exact H) | (simp only [hji41] at H ⊢; exact H)
            have hji41_ : (a2 / 2 ^ min x104_2.toNat 32) = ji41 := hji41
            have hji41z : x104_2 ≤ 32 → (a2 / 2 ^ x104_2.toNat) = ji41 := shr_small hji41
            by_cases c42 : (Go.bits .and .u32 (ji41) 1) = 0
            ·rw [if_pos c42] at H
             have c42b0 : ((Go.bits .and .u32 (ji41) 1) == 0) = true := beq_iff_eq.mpr c42
             have c42b1 : ((Go.bits .and .u32 (ji41) 1) != 0) = false := bne_eq_false_iff_eq.mpr c42
             clear c42
             (first | rw [c42b0] | (simp only [i64_w, i32_w]; rw [c42b0]) | skip)
             have H' := Aside0.mk H
             clear H
             go_wp2
             go_meet
             case rel => exact ⟨_, (true), (by first | rfl | (simp; done) | (simp [*]; done)), H', ⟨by have := HJ11.out; have := HK2.out; first | omega | exact Nat.le_refl _⟩, ⟨by (with_reducible repeat (first | apply Kd.R_alloc | apply Kd.R_drewN | apply Kd.R_drew)); exact HO_8.out⟩, ⟨by (with_reducible repeat (first | apply Kd.R_alloc | apply Kd.R_drewN | apply Kd.R_drew)); exact HO_12.out⟩, ⟨by repeat (first | (with_reducible first | exact HB.out | apply below_alloc | apply pw_below_drewN | apply below_drew1) | exact HB.out)⟩⟩
            ·rw [if_neg c42] at H
             have c42b0 : ((Go.bits .and .u32 (ji41) 1) == 0) = false := beq_eq_false_iff_ne.mpr c42
             have c42b1 : ((Go.bits .and .u32 (ji41) 1) != 0) = true := bne_iff_ne.mpr c42
             (first | rw [c42b0] | (simp only [i64_w, i32_w]; rw [c42b0]) | skip)
             have H' := Aside0.mk H
             clear H
             obtain ⟨Ao43, co43, eo43⟩ := Kd.R_slice HO_8.out
             subst eo43
             go_wp2
             go_meet
             case rel => exact ⟨_, (decide ((wrap64 ((Int.tmod (wrap64 ((Int.tmod a1 (wrap64 (8 * (t312.length : Int)))) + (wrap64 (8 * (t312.length : Int))))) (wrap64 (8 * (t312.length : Int)))) + x104_2)) ≥ (wrap64 (8 * (x8_2.length : Int))))), (by first | rfl | (simp; done) | (simp [*]; done)), H', ⟨by have := HJ11.out; have := HK2.out; first | omega | exact Nat.le_refl _⟩, ⟨by (with_reducible repeat (first | apply Kd.R_alloc | apply Kd.R_drewN | apply Kd.R_drew)); exact HO_8.out⟩, ⟨by (with_reducible repeat (first | apply Kd.R_alloc | apply Kd.R_drewN | apply Kd.R_drew)); exact HO_12.out⟩, ⟨by repeat (first | (with_reducible first | exact HB.out | apply below_alloc | apply pw_below_drewN | apply below_drew1) | exact HB.out)⟩⟩
           ·rw [if_neg c40] at H
            exact absurd H (by simp)
          case rest =>
           clear HC39
           try clear c1
           try clear c2
           try clear p2
           try clear c3
           try clear c4
           try clear c5
           try clear c6
           try clear c6b0
           try clear c6b1
           try clear p6
           try clear c7
           try clear c8
           try clear c16
           try clear c18
           try clear c20
           try clear c20b0
           try clear c20b1
           try clear c21
           try clear c21b0
           try clear c21b1
           try clear c22
           try clear c22b0
           try clear c22b1
           try clear c23
           try clear c23b0
           try clear c23b1
           try clear c25
           try clear c27
           try clear c28
           try clear c28b0
           try clear c28b1
           try clear c36
           try clear c37
           try clear c37b0
           try clear c37b1
           try clear c38
           try clear c38b0
           try clear c40
           try clear c40b0
           try clear c40b1
           try clear c42
           try clear c42b0
           try clear c42b1
           try clear p2
           try clear p6
           obtain ⟨kq, x120_38, rfl, HA, HJ38, HO_8, HO_12, HB⟩ := hcut
           cases kq with
           | zero => exact absurd HA.out (by simp [palletlaw03_CrcBursts.j2])
           | succ kj38 =>
            have H := HA.out
            clear HA
            simp only [palletlaw03_CrcBursts.j2] at H
            by_cases c44 : x120_38 = true
            ·subst c44
             have H1 : (palletlaw03_CrcBursts.l0 kj38 (Int.tmod (wrap64 ((Int.tmod a1 (wrap64 (8 * (t312.length : Int)))) + (wrap64 (8 * (t312.length : Int))))) (wrap64 (8 * (t312.length : Int)))) a2 true x8_2 x12_2 x16_2 (wrap64 (x104_2 + 1))) = some r := by rw [if_pos rfl] at H; exact H
             clear H
             have H := H1
             clear H1
             have H' := Aside0.mk H
             clear H
             go_wp2
             go_roundg kj38
             case measure => have := HJ11.out; have := HK2.out; have := HJ38.out; omega
             case rel => exact ⟨(x8_2), (x12_2), (x16_2), (wrap64 (x104_2 + 1)), (by first | rfl | (simp; done) | (simp [*]; done)), (by first | rfl | (simp; done) | (simp [*]; done)), H', ⟨by have := HJ11.out; have := HK2.out; have := HJ38.out; omega⟩, ⟨by (with_reducible repeat (first | apply Kd.R_alloc | apply Kd.R_drewN | apply Kd.R_drew)); exact HO_8.out⟩, ⟨by (with_reducible repeat (first | apply Kd.R_alloc | apply Kd.R_drewN | apply Kd.R_drew)); exact HO_12.out⟩, ⟨by repeat (first | (with_reducible first | exact HB.out | apply below_alloc | apply pw_below_drewN | apply below_drew1) | exact HB.out)⟩⟩
            ·replace c44 := Bool.eq_false_iff.mpr c44
             subst c44
             have H1 : ((crc_Turn.f x8_2 (wrap64 ((Int.tmod (wrap64 ((Int.tmod a1 (wrap64 (8 * (t312.length : Int)))) + (wrap64 (8 * (t312.length : Int))))) (wrap64 (8 * (t312.length : Int)))) + x104_2))).bind fun bt338 => ((crc_Turn.f x12_2 (wrap64 ((Int.tmod (wrap64 ((Int.tmod a1 (wrap64 (8 * (t312.length : Int)))) + (wrap64 (8 * (t312.length : Int))))) (wrap64 (8 * (t312.length : Int)))) + x104_2))).bind fun bt342 => (if bt338.2 = 0 then (if bt342.2 = 0 then (palletlaw03_CrcBursts.l0 kj38 (Int.tmod (wrap64 ((Int.tmod a1 (wrap64 (8 * (t312.length : Int)))) + (wrap64 (8 * (t312.length : Int))))) (wrap64 (8 * (t312.length : Int)))) a2 true bt338.1 bt342.1 true (wrap64 (x104_2 + 1))) else (some false)) else (some false)))) = some r := by rw [if_neg (show ¬ (false = true) by decide)] at H; exact H
             clear H
             have H := H1
             clear H1
             replace H := Option.bind_eq_some_iff.mp H
             obtain ⟨⟨t338, t339⟩, A450, H⟩ := H
             replace H : ((crc_Turn.f x12_2 (wrap64 ((Int.tmod (wrap64 ((Int.tmod a1 (wrap64 (8 * (t312.length : Int)))) + (wrap64 (8 * (t312.length : Int))))) (wrap64 (8 * (t312.length : Int)))) + x104_2))).bind fun bt342 => (if t339 = 0 then (if bt342.2 = 0 then (palletlaw03_CrcBursts.l0 kj38 (Int.tmod (wrap64 ((Int.tmod a1 (wrap64 (8 * (t312.length : Int)))) + (wrap64 (8 * (t312.length : Int))))) (wrap64 (8 * (t312.length : Int)))) a2 true t338 bt342.1 true (wrap64 (x104_2 + 1))) else (some false)) else (some false))) = some r := H
             have A45 := Aside0.mk A450
             clear A450
             replace H := Option.bind_eq_some_iff.mp H
             obtain ⟨⟨t342, t343⟩, A460, H⟩ := H
             replace H : (if t339 = 0 then (if t343 = 0 then (palletlaw03_CrcBursts.l0 kj38 (Int.tmod (wrap64 ((Int.tmod a1 (wrap64 (8 * (t312.length : Int)))) + (wrap64 (8 * (t312.length : Int))))) (wrap64 (8 * (t312.length : Int)))) a2 true t338 t342 true (wrap64 (x104_2 + 1))) else (some false)) else (some false)) = some r := H
             have A46 := Aside0.mk A460
             clear A460
             by_cases c47 : t339 = 0
             ·rw [if_pos c47] at H
              have c47b0 : (t339 == 0) = true := beq_iff_eq.mpr c47
              have c47b1 : (t339 != 0) = false := bne_eq_false_iff_eq.mpr c47
              clear c47
              by_cases c48 : t343 = 0
              ·rw [if_pos c48] at H
               have c48b0 : (t343 == 0) = true := beq_iff_eq.mpr c48
               have c48b1 : (t343 != 0) = false := bne_eq_false_iff_eq.mpr c48
               clear c48
               have H' := Aside0.mk H
               clear H
               obtain ⟨Ao49, co49, eo49⟩ := Kd.R_slice HO_8.out
               subst eo49
               go_wp2_with (first | ((with_reducible refine gate_callee (f := 11) rfl ?_); refine goesL_ (some 126) rfl rfl Try.func11 (by kernel_rfl) rfl #[.slice Ao49 x8_2.length co49, .int .i64 (wrap64 ((Int.tmod (wrap64 ((Int.tmod a1 (wrap64 (8 * (t312.length : Int)))) + (wrap64 (8 * (t312.length : Int))))) (wrap64 (8 * (t312.length : Int)))) + x104_2))] rfl (by (try simp only [List.map_toArray, List.map_cons, List.map_nil]); first | done | rfl | (simp only [List.length_drop, List.length_take]; first | rfl | (rw [Nat.min_eq_left (Int.toNat_le.2 (of_decide_eq_true (by assumption)))]; rfl))) ?_; (with_reducible refine (crc_Turn.calls _ _ x8_2 (wrap64 ((Int.tmod (wrap64 ((Int.tmod a1 (wrap64 (8 * (t312.length : Int)))) + (wrap64 (8 * (t312.length : Int))))) (wrap64 (8 * (t312.length : Int)))) + x104_2)) t338 t339 _ ?side1 ?side2 A45.out).mono ?_); (case side1 => repeat (first | exact (Kd.R_reads' HO_8.out).2.2 | (with_reducible refine Kd.C_alloc ?_ _) | (with_reducible refine Kd.C_drewN ?_ _) | (with_reducible refine Kd.C_drew ?_))); (case side2 => exact (Kd.R_reads' HO_8.out).2.1); rintro e w50 ⟨v340, rfl, ho0, hb⟩; refine ⟨_, rfl, ?_⟩; have n0_ := Aside0.mk (Kd.R_elder' (by (with_reducible repeat (first | apply Kd.R_alloc | apply Kd.R_drewN | apply Kd.R_drew)); exact HO_8.out) (Kd.R_base ho0) hb); have n1_ := Aside0.mk (Kd.R_elder' (by (with_reducible repeat (first | apply Kd.R_alloc | apply Kd.R_drewN | apply Kd.R_drew)); exact HO_12.out) (Kd.R_base ho0) hb); have n2_ := Aside0.mk (Kd.R_lower (Kd.R_new' (Kd.R_new' ho0 (Kd.R_lt (by (with_reducible repeat (first | apply Kd.R_alloc | apply Kd.R_drewN | apply Kd.R_drew)); exact HO_8.out))) (Kd.R_lt (by (with_reducible repeat (first | apply Kd.R_alloc | apply Kd.R_drewN | apply Kd.R_drew)); exact HO_12.out))) (below_size (by repeat (first | (with_reducible first | exact HB.out | apply below_alloc | apply pw_below_drewN | apply below_drew1) | exact HB.out)))); have n3_ := Aside0.mk (below_step (by repeat (first | (with_reducible first | exact HB.out | apply below_alloc | apply pw_below_drewN | apply below_drew1) | exact HB.out)) hb); clear HO_8; clear HO_12; clear HB; have HO_8 := n0_; have HO_12 := n1_; have HO341 := n2_; have HB := n3_; clear n0_ n1_ n2_ n3_; (try clear hb); (try clear hb2); (try clear hk); (try clear hi); (try clear ho0); obtain ⟨Ao51, co51, eo51⟩ := Kd.R_slice HO_12.out; subst eo51) | ((with_reducible refine gate_callee (f := 11) rfl ?_); refine goesL_ (some 134) rfl rfl Try.func11 (by kernel_rfl) rfl #[.slice Ao51 x12_2.length co51, .int .i64 (wrap64 ((Int.tmod (wrap64 ((Int.tmod a1 (wrap64 (8 * (t312.length : Int)))) + (wrap64 (8 * (t312.length : Int))))) (wrap64 (8 * (t312.length : Int)))) + x104_2))] rfl (by (try simp only [List.map_toArray, List.map_cons, List.map_nil]); first | done | rfl | (simp only [List.length_drop, List.length_take]; first | rfl | (rw [Nat.min_eq_left (Int.toNat_le.2 (of_decide_eq_true (by assumption)))]; rfl))) ?_; (with_reducible refine (crc_Turn.calls _ _ x12_2 (wrap64 ((Int.tmod (wrap64 ((Int.tmod a1 (wrap64 (8 * (t312.length : Int)))) + (wrap64 (8 * (t312.length : Int))))) (wrap64 (8 * (t312.length : Int)))) + x104_2)) t342 t343 _ ?side1 ?side2 A46.out).mono ?_); (case side1 => repeat (first | exact (Kd.R_reads' HO_12.out).2.2 | (with_reducible refine Kd.C_alloc ?_ _) | (with_reducible refine Kd.C_drewN ?_ _) | (with_reducible refine Kd.C_drew ?_))); (case side2 => exact (Kd.R_reads' HO_12.out).2.1); rintro e w52 ⟨v344, rfl, ho0, hb⟩; refine ⟨_, rfl, ?_⟩; have n0_ := Aside0.mk (Kd.R_elder' (by (with_reducible repeat (first | apply Kd.R_alloc | apply Kd.R_drewN | apply Kd.R_drew)); exact HO_8.out) (Kd.R_base ho0) hb); have n1_ := Aside0.mk (Kd.R_elder' (by (with_reducible repeat (first | apply Kd.R_alloc | apply Kd.R_drewN | apply Kd.R_drew)); exact HO_12.out) (Kd.R_base ho0) hb); have n2_ := Aside0.mk (Kd.R_elder' (by (with_reducible repeat (first | apply Kd.R_alloc | apply Kd.R_drewN | apply Kd.R_drew)); exact HO341.out) (Kd.R_base ho0) hb); have n3_ := Aside0.mk (Kd.R_lower (Kd.R_new' (Kd.R_new' (Kd.R_new' ho0 (Kd.R_lt (by (with_reducible repeat (first | apply Kd.R_alloc | apply Kd.R_drewN | apply Kd.R_drew)); exact HO_8.out))) (Kd.R_lt (by (with_reducible repeat (first | apply Kd.R_alloc | apply Kd.R_drewN | apply Kd.R_drew)); exact HO_12.out))) (Kd.R_lt (by (with_reducible repeat (first | apply Kd.R_alloc | apply Kd.R_drewN | apply Kd.R_drew)); exact HO341.out))) (below_size (by repeat (first | (with_reducible first | exact HB.out | apply below_alloc | apply pw_below_drewN | apply below_drew1) | exact HB.out)))); have n4_ := Aside0.mk (below_step (by repeat (first | (with_reducible first | exact HB.out | apply below_alloc | apply pw_below_drewN | apply below_drew1) | exact HB.out)) hb); clear HO_8; clear HO_12; clear HO341; clear HB; have HO_8 := n0_; have HO_12 := n1_; have HO341 := n2_; have HO345 := n3_; have HB := n4_; clear n0_ n1_ n2_ n3_ n4_; (try clear hb); (try clear hb2); (try clear hk); (try clear hi); (try clear ho0)))
               go_roundg kj38
               case measure => have := HJ11.out; have := HK2.out; have := HJ38.out; omega
               case rel => exact ⟨(t338), (t342), (true), (wrap64 (x104_2 + 1)), (by first | rfl | (simp; done) | (simp [*]; done)), (by first | rfl | (simp; done) | (simp [*]; done)), H', ⟨by have := HJ11.out; have := HK2.out; have := HJ38.out; omega⟩, ⟨by (with_reducible repeat (first | apply Kd.R_alloc | apply Kd.R_drewN | apply Kd.R_drew)); exact Kd.R_mono HO341.out (fun _ hk => hk.2)⟩, ⟨by (with_reducible repeat (first | apply Kd.R_alloc | apply Kd.R_drewN | apply Kd.R_drew)); exact Kd.R_mono HO345.out (fun _ hk => hk.2)⟩, ⟨by repeat (first | (with_reducible first | exact HB.out | apply below_alloc | apply pw_below_drewN | apply below_drew1) | exact HB.out)⟩⟩
              ·rw [if_neg c48] at H
               have c48b0 : (t343 == 0) = false := beq_eq_false_iff_ne.mpr c48
               have c48b1 : (t343 != 0) = true := bne_iff_ne.mpr c48
               obtain rfl := Option.some.inj H
               exact absurd hr_.out (by decide)
             ·rw [if_neg c47] at H
              have c47b0 : (t339 == 0) = false := beq_eq_false_iff_ne.mpr c47
              have c47b1 : (t339 != 0) = true := bne_iff_ne.mpr c47
              obtain rfl := Option.some.inj H
              exact absurd hr_.out (by decide)
         ·rw [if_neg c38] at H
          have c38b0 : decide (x104_2 < 24) = false := decide_eq_false c38
          clear c38
          replace H := Option.bind_eq_some_iff.mp H
          obtain ⟨⟨t330, t331⟩, A530, H⟩ := H
          replace H : ((crc_Open32.f x12_2).bind fun bt334 => (if true = true then (if ((t331 == 5) == x16_2) = true then (if ((bt334.2 == 5) == x16_2) = true then (if x16_2 = true then (some true) else (if t331 = 0 then (some (bt334.2 == 0)) else (some false))) else (some false)) else (some false)) else (some false))) = some r := H
          have A53 := Aside0.mk A530
          clear A530
          replace H := Option.bind_eq_some_iff.mp H
          obtain ⟨⟨t334, t335⟩, A540, H⟩ := H
          replace H : (if true = true then (if ((t331 == 5) == x16_2) = true then (if ((t335 == 5) == x16_2) = true then (if x16_2 = true then (some true) else (if t331 = 0 then (some (t335 == 0)) else (some false))) else (some false)) else (some false)) else (some false)) = some r := H
          have A54 := Aside0.mk A540
          clear A540
          have H1 : (if ((t331 == 5) == x16_2) = true then (if ((t335 == 5) == x16_2) = true then (if x16_2 = true then (some true) else (if t331 = 0 then (some (t335 == 0)) else (some false))) else (some false)) else (some false)) = some r := by first | (rw [if_pos rfl] at H; exact H) | exact H
          clear H
          have H := H1
          clear H1
          by_cases c55 : ((t331 == 5) == x16_2) = true
          ·rw [if_pos c55] at H
           have c55b0 : ((t331 == 5) == x16_2) = true := c55
           (try (have c55b1 : decide ((t331 == 5) = x16_2) = true := by simpa using c55))
           (try (have c55b2 : ((t331 == 5) == x16_2) = true := by simpa using c55))
           clear c55
           by_cases c56 : ((t335 == 5) == x16_2) = true
           ·rw [if_pos c56] at H
            have c56b0 : ((t335 == 5) == x16_2) = true := c56
            (try (have c56b1 : decide ((t335 == 5) = x16_2) = true := by simpa using c56))
            (try (have c56b2 : ((t335 == 5) == x16_2) = true := by simpa using c56))
            clear c56
            by_cases c57 : x16_2 = true
            ·subst c57
             have H1 : (some true) = some r := by rw [if_pos rfl] at H; exact H
             clear H
             have H := H1
             clear H1
             obtain rfl := Option.some.inj H
             obtain ⟨Ao58, co58, eo58⟩ := Kd.R_slice HO_8.out
             subst eo58
             go_wp2_with (first | ((with_reducible refine gate_callee (f := 20) rfl ?_); refine goesL_ (some 148) rfl rfl Try.func20 (by kernel_rfl) rfl #[.slice Ao58 x8_2.length co58] rfl (by (try simp only [List.map_toArray, List.map_cons, List.map_nil]); first | done | rfl | (simp only [List.length_drop, List.length_take]; first | rfl | (rw [Nat.min_eq_left (Int.toNat_le.2 (of_decide_eq_true (by assumption)))]; rfl))) ?_; (with_reducible refine (crc_Open24.calls _ _ x8_2 t330 t331 _ ?side1 ?side2 A53.out).mono ?_); (case side1 => repeat (first | exact (Kd.R_reads' HO_8.out).2.2 | (with_reducible refine Kd.C_alloc ?_ _) | (with_reducible refine Kd.C_drewN ?_ _) | (with_reducible refine Kd.C_drew ?_))); (case side2 => exact (Kd.R_reads' HO_8.out).2.1); rintro e w59 ⟨v332, rfl, ho0, hb⟩; refine ⟨_, rfl, ?_⟩; have n0_ := Aside0.mk (Kd.R_elder' (by (with_reducible repeat (first | apply Kd.R_alloc | apply Kd.R_drewN | apply Kd.R_drew)); exact HO_8.out) (Kd.R_base ho0) hb); have n1_ := Aside0.mk (Kd.R_elder' (by (with_reducible repeat (first | apply Kd.R_alloc | apply Kd.R_drewN | apply Kd.R_drew)); exact HO_12.out) (Kd.R_base ho0) hb); have n2_ := Aside0.mk (Kd.R_lower (Kd.R_new' (Kd.R_new' ho0 (Kd.R_lt (by (with_reducible repeat (first | apply Kd.R_alloc | apply Kd.R_drewN | apply Kd.R_drew)); exact HO_8.out))) (Kd.R_lt (by (with_reducible repeat (first | apply Kd.R_alloc | apply Kd.R_drewN | apply Kd.R_drew)); exact HO_12.out))) (below_size (by repeat (first | (with_reducible first | exact HB.out | apply below_alloc | apply pw_below_drewN | apply below_drew1) | exact HB.out)))); have n3_ := Aside0.mk (below_step (by repeat (first | (with_reducible first | exact HB.out | apply below_alloc | apply pw_below_drewN | apply below_drew1) | exact HB.out)) hb); clear HO_8; clear HO_12; clear HB; have HO_8 := n0_; have HO_12 := n1_; have HO333 := n2_; have HB := n3_; clear n0_ n1_ n2_ n3_; (try clear hb); (try clear hb2); (try clear hk); (try clear hi); (try clear ho0); obtain ⟨Ao60, co60, eo60⟩ := Kd.R_slice HO_12.out; subst eo60) | ((with_reducible refine gate_callee (f := 22) rfl ?_); refine goesL_ (some 153) rfl rfl Try.func22 (by kernel_rfl) rfl #[.slice Ao60 x12_2.length co60] rfl (by (try simp only [List.map_toArray, List.map_cons, List.map_nil]); first | done | rfl | (simp only [List.length_drop, List.length_take]; first | rfl | (rw [Nat.min_eq_left (Int.toNat_le.2 (of_decide_eq_true (by assumption)))]; rfl))) ?_; (with_reducible refine (crc_Open32.calls _ _ x12_2 t334 t335 _ ?side1 ?side2 A54.out).mono ?_); (case side1 => repeat (first | exact (Kd.R_reads' HO_12.out).2.2 | (with_reducible refine Kd.C_alloc ?_ _) | (with_reducible refine Kd.C_drewN ?_ _) | (with_reducible refine Kd.C_drew ?_))); (case side2 => exact (Kd.R_reads' HO_12.out).2.1); rintro e w61 ⟨v336, rfl, ho0, hb⟩; refine ⟨_, rfl, ?_⟩; have n0_ := Aside0.mk (Kd.R_elder' (by (with_reducible repeat (first | apply Kd.R_alloc | apply Kd.R_drewN | apply Kd.R_drew)); exact HO_8.out) (Kd.R_base ho0) hb); have n1_ := Aside0.mk (Kd.R_elder' (by (with_reducible repeat (first | apply Kd.R_alloc | apply Kd.R_drewN | apply Kd.R_drew)); exact HO_12.out) (Kd.R_base ho0) hb); have n2_ := Aside0.mk (Kd.R_elder' (by (with_reducible repeat (first | apply Kd.R_alloc | apply Kd.R_drewN | apply Kd.R_drew)); exact HO333.out) (Kd.R_base ho0) hb); have n3_ := Aside0.mk (Kd.R_lower (Kd.R_new' (Kd.R_new' (Kd.R_new' ho0 (Kd.R_lt (by (with_reducible repeat (first | apply Kd.R_alloc | apply Kd.R_drewN | apply Kd.R_drew)); exact HO_8.out))) (Kd.R_lt (by (with_reducible repeat (first | apply Kd.R_alloc | apply Kd.R_drewN | apply Kd.R_drew)); exact HO_12.out))) (Kd.R_lt (by (with_reducible repeat (first | apply Kd.R_alloc | apply Kd.R_drewN | apply Kd.R_drew)); exact HO333.out))) (below_size (by repeat (first | (with_reducible first | exact HB.out | apply below_alloc | apply pw_below_drewN | apply below_drew1) | exact HB.out)))); have n4_ := Aside0.mk (below_step (by repeat (first | (with_reducible first | exact HB.out | apply below_alloc | apply pw_below_drewN | apply below_drew1) | exact HB.out)) hb); clear HO_8; clear HO_12; clear HO333; clear HB; have HO_8 := n0_; have HO_12 := n1_; have HO333 := n2_; have HO337 := n3_; have HB := n4_; clear n0_ n1_ n2_ n3_ n4_; (try clear hb); (try clear hb2); (try clear hk); (try clear hi); (try clear ho0)))
             go_ret
             exact ⟨by first | rfl | (simp [errW_none, errW_some] <;> rfl) | (simp [*, errW_none, errW_some] <;> rfl), by repeat (first | (with_reducible first | exact HB.out | apply below_alloc | apply pw_below_drewN | apply below_drew1) | exact HB.out)⟩
            ·replace c57 := Bool.eq_false_iff.mpr c57
             subst c57
             have H1 : (if t331 = 0 then (some (t335 == 0)) else (some false)) = some r := by rw [if_neg (show ¬ (false = true) by decide)] at H; exact H
             clear H
             have H := H1
             clear H1
             by_cases c62 : t331 = 0
             ·rw [if_pos c62] at H
              have c62b0 : (t331 == 0) = true := beq_iff_eq.mpr c62
              have c62b1 : (t331 != 0) = false := bne_eq_false_iff_eq.mpr c62
              clear c62
              obtain rfl := Option.some.inj H
              obtain ⟨Ao63, co63, eo63⟩ := Kd.R_slice HO_8.out
              subst eo63
              go_wp2_with (first | ((with_reducible refine gate_callee (f := 20) rfl ?_); refine goesL_ (some 148) rfl rfl Try.func20 (by kernel_rfl) rfl #[.slice Ao63 x8_2.length co63] rfl (by (try simp only [List.map_toArray, List.map_cons, List.map_nil]); first | done | rfl | (simp only [List.length_drop, List.length_take]; first | rfl | (rw [Nat.min_eq_left (Int.toNat_le.2 (of_decide_eq_true (by assumption)))]; rfl))) ?_; (with_reducible refine (crc_Open24.calls _ _ x8_2 t330 t331 _ ?side1 ?side2 A53.out).mono ?_); (case side1 => repeat (first | exact (Kd.R_reads' HO_8.out).2.2 | (with_reducible refine Kd.C_alloc ?_ _) | (with_reducible refine Kd.C_drewN ?_ _) | (with_reducible refine Kd.C_drew ?_))); (case side2 => exact (Kd.R_reads' HO_8.out).2.1); rintro e w64 ⟨v332, rfl, ho0, hb⟩; refine ⟨_, rfl, ?_⟩; have n0_ := Aside0.mk (Kd.R_elder' (by (with_reducible repeat (first | apply Kd.R_alloc | apply Kd.R_drewN | apply Kd.R_drew)); exact HO_8.out) (Kd.R_base ho0) hb); have n1_ := Aside0.mk (Kd.R_elder' (by (with_reducible repeat (first | apply Kd.R_alloc | apply Kd.R_drewN | apply Kd.R_drew)); exact HO_12.out) (Kd.R_base ho0) hb); have n2_ := Aside0.mk (Kd.R_lower (Kd.R_new' (Kd.R_new' ho0 (Kd.R_lt (by (with_reducible repeat (first | apply Kd.R_alloc | apply Kd.R_drewN | apply Kd.R_drew)); exact HO_8.out))) (Kd.R_lt (by (with_reducible repeat (first | apply Kd.R_alloc | apply Kd.R_drewN | apply Kd.R_drew)); exact HO_12.out))) (below_size (by repeat (first | (with_reducible first | exact HB.out | apply below_alloc | apply pw_below_drewN | apply below_drew1) | exact HB.out)))); have n3_ := Aside0.mk (below_step (by repeat (first | (with_reducible first | exact HB.out | apply below_alloc | apply pw_below_drewN | apply below_drew1) | exact HB.out)) hb); clear HO_8; clear HO_12; clear HB; have HO_8 := n0_; have HO_12 := n1_; have HO333 := n2_; have HB := n3_; clear n0_ n1_ n2_ n3_; (try clear hb); (try clear hb2); (try clear hk); (try clear hi); (try clear ho0); obtain ⟨Ao65, co65, eo65⟩ := Kd.R_slice HO_12.out; subst eo65) | ((with_reducible refine gate_callee (f := 22) rfl ?_); refine goesL_ (some 153) rfl rfl Try.func22 (by kernel_rfl) rfl #[.slice Ao65 x12_2.length co65] rfl (by (try simp only [List.map_toArray, List.map_cons, List.map_nil]); first | done | rfl | (simp only [List.length_drop, List.length_take]; first | rfl | (rw [Nat.min_eq_left (Int.toNat_le.2 (of_decide_eq_true (by assumption)))]; rfl))) ?_; (with_reducible refine (crc_Open32.calls _ _ x12_2 t334 t335 _ ?side1 ?side2 A54.out).mono ?_); (case side1 => repeat (first | exact (Kd.R_reads' HO_12.out).2.2 | (with_reducible refine Kd.C_alloc ?_ _) | (with_reducible refine Kd.C_drewN ?_ _) | (with_reducible refine Kd.C_drew ?_))); (case side2 => exact (Kd.R_reads' HO_12.out).2.1); rintro e w66 ⟨v336, rfl, ho0, hb⟩; refine ⟨_, rfl, ?_⟩; have n0_ := Aside0.mk (Kd.R_elder' (by (with_reducible repeat (first | apply Kd.R_alloc | apply Kd.R_drewN | apply Kd.R_drew)); exact HO_8.out) (Kd.R_base ho0) hb); have n1_ := Aside0.mk (Kd.R_elder' (by (with_reducible repeat (first | apply Kd.R_alloc | apply Kd.R_drewN | apply Kd.R_drew)); exact HO_12.out) (Kd.R_base ho0) hb); have n2_ := Aside0.mk (Kd.R_elder' (by (with_reducible repeat (first | apply Kd.R_alloc | apply Kd.R_drewN | apply Kd.R_drew)); exact HO333.out) (Kd.R_base ho0) hb); have n3_ := Aside0.mk (Kd.R_lower (Kd.R_new' (Kd.R_new' (Kd.R_new' ho0 (Kd.R_lt (by (with_reducible repeat (first | apply Kd.R_alloc | apply Kd.R_drewN | apply Kd.R_drew)); exact HO_8.out))) (Kd.R_lt (by (with_reducible repeat (first | apply Kd.R_alloc | apply Kd.R_drewN | apply Kd.R_drew)); exact HO_12.out))) (Kd.R_lt (by (with_reducible repeat (first | apply Kd.R_alloc | apply Kd.R_drewN | apply Kd.R_drew)); exact HO333.out))) (below_size (by repeat (first | (with_reducible first | exact HB.out | apply below_alloc | apply pw_below_drewN | apply below_drew1) | exact HB.out)))); have n4_ := Aside0.mk (below_step (by repeat (first | (with_reducible first | exact HB.out | apply below_alloc | apply pw_below_drewN | apply below_drew1) | exact HB.out)) hb); clear HO_8; clear HO_12; clear HO333; clear HB; have HO_8 := n0_; have HO_12 := n1_; have HO333 := n2_; have HO337 := n3_; have HB := n4_; clear n0_ n1_ n2_ n3_ n4_; (try clear hb); (try clear hb2); (try clear hk); (try clear hi); (try clear ho0)))
              go_ret
              exact ⟨by first | rfl | (simp [errW_none, errW_some] <;> rfl) | (simp [*, errW_none, errW_some] <;> rfl), by repeat (first | (with_reducible first | exact HB.out | apply below_alloc | apply pw_below_drewN | apply below_drew1) | exact HB.out)⟩
             ·rw [if_neg c62] at H
              have c62b0 : (t331 == 0) = false := beq_eq_false_iff_ne.mpr c62
              have c62b1 : (t331 != 0) = true := bne_iff_ne.mpr c62
              obtain rfl := Option.some.inj H
              exact absurd hr_.out (by decide)
           ·rw [if_neg c56] at H
            have c56b0 : ((t335 == 5) == x16_2) = false := by simpa using c56
            (try (have c56b1 : decide ((t335 == 5) = x16_2) = false := by simpa using c56))
            (try (have c56b2 : ((t335 == 5) == x16_2) = false := by simpa using c56))
            (try (have c56b3 : ¬ ((t335 == 5) = x16_2) := by simpa using c56))
            clear c56
            obtain rfl := Option.some.inj H
            exact absurd hr_.out (by decide)
          ·rw [if_neg c55] at H
           have c55b0 : ((t331 == 5) == x16_2) = false := by simpa using c55
           (try (have c55b1 : decide ((t331 == 5) = x16_2) = false := by simpa using c55))
           (try (have c55b2 : ((t331 == 5) == x16_2) = false := by simpa using c55))
           (try (have c55b3 : ¬ ((t331 == 5) = x16_2) := by simpa using c55))
           clear c55
           obtain rfl := Option.some.inj H
           exact absurd hr_.out (by decide)
 ·replace c5 := Bool.eq_false_iff.mpr c5
  subst c5
  have H1 : (some false) = some r := by rw [if_neg (show ¬ (false = true) by decide)] at H; exact H
  clear H
  have H := H1
  clear H1
  obtain rfl := Option.some.inj H
  exact absurd hr_.out (by decide)

end Go.Proofs.Ytjohinenaamdcaa.Print
