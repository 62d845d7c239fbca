-- PRINTED by print.py (a twelfth state) out of the translation. Not trusted: Lean checks it.
import Derived.Test.YticlckhgobegnaaPrint0
namespace Go.Proofs.Yticlckhgobegnaa.Print
open Go.RowKit Go.Proofs.YticlckhgobegnaaW.PrintWords Go.Proofs.YticlckhgobegnaaW.PrintLast Go.Proofs.YticlckhgobegnaaW.PrintMore Go.Proofs.YticlckhgobegnaaX
attribute [local go_sem] str_lss str_geq max2_int min2_int max_two min_two max_three min_three max_four min_four   -- for this text's walks alone
set_option linter.unusedVariables false
set_option linter.unusedSimpArgs false

/-! ### slices_Max_int64_int64: function 13 -/
theorem max_add_zero (a : Addr) : a.add 0 = a := rfl
theorem max_addr_add (b o j : Nat) : (⟨b, o, none⟩ : Addr).add j = ⟨b, o + j, none⟩ := by
 unfold Addr.add
 split
 ·rename_i h
  subst h
  rfl
 ·rfl
/-- The greatest of some numbers. -/
def slices_Max_int64_int64.f (l0 : List Int) : Option Int := if 0 < l0.length then some (Lib.maxOf l0) else none
theorem slices_Max_int64_int64.calls (A0 : Option Addr) (c0 : Nat) (l0 : List Int) (r : Int) (w : World) (hr0 : Kd.C (Kd.int .i64) w A0 l0.length l0) (hc0 : l0.length ≤ c0) (h : slices_Max_int64_int64.f l0 = some r) :
  Calls Try.prog 13 #[.slice A0 l0.length c0] w fun e w' => e = .returned (.int .i64 r) ∧ Drawn0 w w' := by
 unfold slices_Max_int64_int64.f at h
 by_cases hz : 0 < l0.length
 case neg =>
  rw [if_neg hz] at h
  exact absurd h (by simp)
 rw [if_pos hz] at h
 obtain rfl := Option.some.inj h
 obtain ⟨_, hbig, hc1⟩ := Kd.reads_of_C (d := (0 : Int)) hr0
 obtain ⟨ad, rfl, hc⟩ := hc1 hz
 have h0 := hc 0 hz
 rw [max_add_zero] at h0
 obtain ⟨b, o, s⟩ := ad
 have hs : s = none := by
  cases s with
  | none => rfl
  | some k =>
   simp [World.cell?] at h0
   split at h0 <;> cases h0
 subst hs
 have hc2 : ∀ j, j < l0.length → w.cell? ⟨b, o + j, none⟩ = some (.int .i64 (l0.getD j 0)) := by
  intro j hj
  have := hc j hj
  rwa [max_addr_add] at this
 refine (AnyG.slices_Max_int Try.maxLays b o l0.length c0 l0 w hz (Nat.le_refl _) (by omega) hc2).mono ?_
 rintro e w' ⟨rfl, rfl⟩
 rw [List.take_length]
 exact ⟨rfl, Drawn0.refl _⟩

/-! ### slices_Min_int64_int64: function 14 -/
theorem min_add_zero (a : Addr) : a.add 0 = a := rfl
theorem min_addr_add (b o j : Nat) : (⟨b, o, none⟩ : Addr).add j = ⟨b, o + j, none⟩ := by
 unfold Addr.add
 split
 ·rename_i h
  subst h
  rfl
 ·rfl
/-- The least of some numbers. -/
def slices_Min_int64_int64.f (l0 : List Int) : Option Int := if 0 < l0.length then some (Lib.minOf l0) else none
theorem slices_Min_int64_int64.calls (A0 : Option Addr) (c0 : Nat) (l0 : List Int) (r : Int) (w : World) (hr0 : Kd.C (Kd.int .i64) w A0 l0.length l0) (hc0 : l0.length ≤ c0) (h : slices_Min_int64_int64.f l0 = some r) :
  Calls Try.prog 14 #[.slice A0 l0.length c0] w fun e w' => e = .returned (.int .i64 r) ∧ Drawn0 w w' := by
 unfold slices_Min_int64_int64.f at h
 by_cases hz : 0 < l0.length
 case neg =>
  rw [if_neg hz] at h
  exact absurd h (by simp)
 rw [if_pos hz] at h
 obtain rfl := Option.some.inj h
 obtain ⟨_, hbig, hc1⟩ := Kd.reads_of_C (d := (0 : Int)) hr0
 obtain ⟨ad, rfl, hc⟩ := hc1 hz
 have h0 := hc 0 hz
 rw [min_add_zero] at h0
 obtain ⟨b, o, s⟩ := ad
 have hs : s = none := by
  cases s with
  | none => rfl
  | some k =>
   simp [World.cell?] at h0
   split at h0 <;> cases h0
 subst hs
 have hc2 : ∀ j, j < l0.length → w.cell? ⟨b, o + j, none⟩ = some (.int .i64 (l0.getD j 0)) := by
  intro j hj
  have := hc j hj
  rwa [min_addr_add] at this
 refine (AnyG.slices_Min_int Try.minLays b o l0.length c0 l0 w hz (Nat.le_refl _) (by omega) hc2).mono ?_
 rintro e w' ⟨rfl, rfl⟩
 rw [List.take_length]
 exact ⟨rfl, Drawn0.refl _⟩

/-! ### fta_Spread: function 9 -/
def fta_Spread.f (l0 : List Int) : Option (Int × Int) := if (l0.length : Int) > 64 then (some (0, 7)) else (if (l0.length : Int) = 0 then (some (0, 8)) else ((slices_Max_int64_int64.f l0).bind fun t266 => ((slices_Min_int64_int64.f l0).bind fun t267 => (some (IntKind.u64.wrap (wrap64 (t266 - t267)), 0)))))
set_option maxHeartbeats 8000000 in
set_option maxRecDepth 100000 in
theorem fta_Spread.calls (A0 : Option Addr) (c0 : Nat) (l0 : List Int) (r1 : Int) (r2 : Int) (w : World) (hr0 : Kd.C (Kd.int .i64) w A0 l0.length l0) (hc0 : l0.length ≤ c0) (h : fta_Spread.f l0 = some (r1, r2)) :
  Calls Try.prog 9 #[.slice A0 l0.length c0] w fun e w' => e = .returned (.tuple #[.int .u64 r1, .int .i64 r2]) ∧ Drawn0 w w' := by
 have HR0 := Aside0.mk hr0
 have HC0 := Aside0.mk hc0
 clear hr0 hc0
 have H : (if (l0.length : Int) > 64 then (some (0, 7)) else (if (l0.length : Int) = 0 then (some (0, 8)) else ((slices_Max_int64_int64.f l0).bind fun t266 => ((slices_Min_int64_int64.f l0).bind fun t267 => (some (IntKind.u64.wrap (wrap64 (t266 - t267)), 0)))))) = some (r1, r2) := h
 clear h
 by_cases c2 : (l0.length : Int) > 64
 ·rw [if_pos c2] at H
  have c2b0 : decide (64 < (l0.length : Int)) = true := decide_eq_true c2
  have c2b1 : decide (64 < l0.length) = true := decide_eq_true (by omega)
  clear c2
  simp only [Option.some.injEq, Prod.mk.injEq] at H
  obtain ⟨rfl, rfl⟩ := H
  go_enter Try.func9, Try.ntmps9
  go_wp2
  go_ret2
  exact ⟨by first | rfl | (simp; done) | (simp [*]; done), by repeat (first | exact Drawn0.refl _ | apply Drawn0.step)⟩
 ·rw [if_neg c2] at H
  have c2b0 : decide (64 < (l0.length : Int)) = false := decide_eq_false c2
  have c2b1 : decide (64 < l0.length) = false := decide_eq_false (by omega)
  clear c2
  by_cases c3 : (l0.length : Int) = 0
  ·rw [if_pos c3] at H
   have c3b0 : ((l0.length : Int) == 0) = true := beq_iff_eq.mpr c3
   have c3b1 : ((l0.length : Int) != 0) = false := bne_eq_false_iff_eq.mpr c3
   clear c3
   simp only [Option.some.injEq, Prod.mk.injEq] at H
   obtain ⟨rfl, rfl⟩ := H
   go_enter Try.func9, Try.ntmps9
   go_wp2
   go_ret2
   exact ⟨by first | rfl | (simp; done) | (simp [*]; done), by repeat (first | exact Drawn0.refl _ | apply Drawn0.step)⟩
  ·rw [if_neg c3] at H
   have c3b0 : ((l0.length : Int) == 0) = false := beq_eq_false_iff_ne.mpr c3
   have c3b1 : ((l0.length : Int) != 0) = true := bne_iff_ne.mpr c3
   have c3b2 : ¬ (l0 = []) := fun h_ => c3 (by rw [h_]; rfl)
   replace H := Option.bind_eq_some_iff.mp H
   obtain ⟨t266, A40, H⟩ := H
   replace H : ((slices_Min_int64_int64.f l0).bind fun t267 => (some (IntKind.u64.wrap (wrap64 (t266 - t267)), 0))) = some (r1, r2) := H
   have A4 := Aside0.mk A40
   clear A40
   replace H := Option.bind_eq_some_iff.mp H
   obtain ⟨t267, A50, H⟩ := H
   replace H : (some (IntKind.u64.wrap (wrap64 (t266 - t267)), 0)) = some (r1, r2) := H
   have A5 := Aside0.mk A50
   clear A50
   simp only [Option.some.injEq, Prod.mk.injEq] at H
   obtain ⟨rfl, rfl⟩ := H
   go_enter Try.func9, Try.ntmps9
   go_wp2_with (first | ((with_reducible refine gate_callee (f := 13) rfl ?_); refine goesL_ (some 13) rfl rfl Try.func13 (by kernel_rfl) rfl #[.slice A0 l0.length c0] rfl (by (try simp only [List.map_toArray, List.map_cons, List.map_nil]); first | done | rfl | (simp only [List.length_drop, List.length_take]; first | rfl | (rw [Nat.min_eq_left (Int.toNat_le.2 (of_decide_eq_true (by assumption)))]; rfl))) ?_; (with_reducible refine (slices_Max_int64_int64.calls _ _ l0 t266 _ ?side1 ?side2 A4.out).mono ?_); (case side1 => repeat (first | exact HR0.out | (with_reducible refine Kd.C_alloc ?_ _) | (with_reducible refine Kd.C_drewN ?_ _) | (with_reducible refine Kd.C_drew ?_))); (case side2 => exact HC0.out); rintro e w' ⟨rfl, ⟨nd, rfl⟩⟩; refine ⟨_, rfl, ?_⟩) | ((with_reducible refine gate_callee (f := 14) rfl ?_); refine goesL_ (some 15) rfl rfl Try.func14 (by kernel_rfl) rfl #[.slice A0 l0.length c0] rfl (by (try simp only [List.map_toArray, List.map_cons, List.map_nil]); first | done | rfl | (simp only [List.length_drop, List.length_take]; first | rfl | (rw [Nat.min_eq_left (Int.toNat_le.2 (of_decide_eq_true (by assumption)))]; rfl))) ?_; (with_reducible refine (slices_Min_int64_int64.calls _ _ l0 t267 _ ?side1 ?side2 A5.out).mono ?_); (case side1 => repeat (first | exact HR0.out | (with_reducible refine Kd.C_alloc ?_ _) | (with_reducible refine Kd.C_drewN ?_ _) | (with_reducible refine Kd.C_drew ?_))); (case side2 => exact HC0.out); rintro e w' ⟨rfl, ⟨nd, rfl⟩⟩; refine ⟨_, rfl, ?_⟩))
   go_ret2
   exact ⟨by first | rfl | (simp; done) | (simp [*]; done), by repeat (first | exact Drawn0.refl _ | apply Drawn0.step)⟩

end Go.Proofs.Yticlckhgobegnaa.Print
