-- PRINTED by print.py (a twelfth state) out of the translation. Not trusted: Lean checks it.
import Derived.Test.YticlckhgobegnaaPrint0
namespace Go.Proofs.Yticlckhgobegnaa.Print
open Go.RowKit Go.Proofs.YticlckhgobegnaaW.PrintWords Go.Proofs.YticlckhgobegnaaW.PrintLast Go.Proofs.YticlckhgobegnaaW.PrintMore Go.Proofs.YticlckhgobegnaaX
attribute [local go_sem] str_lss str_geq max2_int min2_int max_two min_two max_three min_three max_four min_four   -- for this text's walks alone
set_option linter.unusedVariables false
set_option linter.unusedSimpArgs false

-- NOT PRINTED: function 31 (slices_partitionOrdered_int64)

-- NOT PRINTED: function 21 (slices_pdqsortOrdered_int64)

-- NOT PRINTED: function 18 (slices_Sort_int64_int64)

-- NOT PRINTED: function 15 (slices_Sorted_int64)

-- NOT PRINTED: function 19 (slices_Values_int64_int64_1)

-- NOT PRINTED: function 16 (slices_Values_int64_int64)

/-! ### fta_Trim: function 11 -/
/-- Numbers in order. -/
def fta_srt (l : List Int) : List Int := l.mergeSort fun x y => decide (x ≤ y)
theorem fta_srt_len (l : List Int) : (fta_srt l).length = l.length := List.length_mergeSort l
/-- Numbers in order, and without their ends. -/
def fta_Trim.f (l0 : List Int) : Option (List Int × Int) := if l0.length ≤ 64 then (if 2 < l0.length then some (((fta_srt l0).take (l0.length - 1)).drop 1, 0) else some (fta_srt l0, 0)) else some ([], 7)
theorem fta_ints (A0 : Option Addr) (c0 : Nat) (l0 : List Int) (w : World) (hr0 : Kd.C (Kd.int .i64) w A0 l0.length l0) : Seq.Ints w.heap.size w (.slice A0 l0.length c0) l0 := by
 have hR := Kd.reads_of_C (d := (0 : Int)) hr0
 by_cases hz : 0 < l0.length
 ·obtain ⟨ad, rfl, hc⟩ := hR.2.2 hz
  refine .inr ⟨ad, c0, rfl, fun _ => ?_, hc⟩
  have := World.block_lt_of_cell? w _ (hc 0 hz)
  rwa [Seq.addb] at this
 ·have e : l0 = [] := List.eq_nil_of_length_eq_zero (by omega)
  subst e
  cases A0 with
  | none => exact .inl ⟨⟨c0, rfl⟩, rfl⟩
  | some ad => exact .inr ⟨ad, c0, rfl, fun h => absurd h (by simp), fun j hj => absurd hj (by simp)⟩
set_option maxRecDepth 100000 in
set_option maxHeartbeats 4000000 in
theorem fta_Trim.calls (A0 : Option Addr) (c0 : Nat) (l0 : List Int) (r1 : List Int) (r2 : Int) (w : World) (hr0 : Kd.C (Kd.int .i64) w A0 l0.length l0) (hc0 : l0.length ≤ c0) (h : fta_Trim.f l0 = some (r1, r2)) :
  Calls Try.prog 11 #[.slice A0 l0.length c0] w fun e w' => ∃ v0_ : Value, e = .returned (.tuple #[v0_, .int .i64 r2]) ∧ Kd.Q (Kd.int .i64) 2 w' w.heap.size (fun _ => True) v0_ r1 ∧ Below w.heap.size w w' := by
 have HI := Aside0.mk (fta_ints A0 c0 l0 w hr0)
 unfold fta_Trim.f at h
 by_cases h64 : l0.length ≤ 64
 case neg =>
  rw [if_neg h64] at h
  obtain ⟨rfl, rfl⟩ := Prod.mk.inj (Option.some.inj h)
  have b64 : decide ((64 : Int) < (l0.length : Int)) = true := decide_eq_true (by omega)
  have b64' : decide (64 < l0.length) = true := decide_eq_true (by omega)
  go_enter Try.func11, Try.ntmps11
  go_wp2
  go_ret2
  exact ⟨_, rfl, Kd.Q_nil _ _ _ _ _, Below.refl w.heap.size w⟩
 rw [if_pos h64] at h
 have b64 : decide ((64 : Int) < (l0.length : Int)) = false := decide_eq_false (by omega)
 have b64' : decide (64 < l0.length) = false := decide_eq_false (by omega)
 have hV := Seq.values A0 l0.length c0 w
 have bV : (w.alloc (.cells #[.slice A0 l0.length c0] 22)).cell? ⟨w.heap.size, 0, none⟩ = some (.slice A0 l0.length c0) := (Boxed.new w 22 (.slice A0 l0.length c0)).cell
 have hB0 : Below w.heap.size w (w.alloc (.cells #[.slice A0 l0.length c0] 22)) := (Below.refl _ w).alloc (Nat.le_refl _) _
 have hI1 : Seq.Ints (w.alloc (.cells #[.slice A0 l0.length c0] 22)).heap.size (w.alloc (.cells #[.slice A0 l0.length c0] 22)) (.slice A0 l0.length c0) l0 := by
  rcases HI.out.below hB0 with h | ⟨ad, cap, e, hb, hc⟩
  ·exact .inl h
  ·exact .inr ⟨ad, cap, e, fun hz => by have := hb hz; simp; omega, hc⟩
 have hS := Seq.sorted w.heap.size (.slice A0 l0.length c0) l0 (by omega) (by simp [maxLen]; omega) (w.alloc (.cells #[.slice A0 l0.length c0] 22)) (by simp) bV hI1
 have HV := Aside0.mk hV
 have HS := Aside0.mk hS
 have HB0 := Aside0.mk hB0
 clear hV hS hI1 bV hB0 hr0 HI
 by_cases h2 : 2 < l0.length
 ·rw [if_pos h2] at h
  obtain ⟨hr1, rfl⟩ := Prod.mk.inj (Option.some.inj h)
  have HR1 := Aside0.mk hr1
  clear hr1 h
  have b2 : decide ((2 : Int) < (l0.length : Int)) = true := decide_eq_true (by omega)
  have b2' : decide (2 < l0.length) = true := decide_eq_true h2
  have e1 : IntKind.i64.wrap ((l0.length : Int) - 1) = (l0.length : Int) - 1 := by
   rw [IntKind.wrap_i64]
   omega
  have hu : Try.prog.underlying 22 = some (.slice (Try.prog.elem 22)) := by kernel_rfl
  have hel : Try.prog.elem 22 = 2 := by kernel_rfl
  have hcut : ∀ (A : Option Addr) (c : Nat) (W : World), l0.length ≤ c → (Instr.slice 22 (.slice A l0.length c) (some (.int .i64 1)) (some (.int .i64 ((l0.length : Int) - 1))) none).run Try.prog W = .ok (.slice (if c = 1 then A else A.map (·.add (1 * 1))) (l0.length - 1 - 1) (c - 1)) W := by
   intro A c W hc
   rw [run_slice_lh W 22 A l0.length c hu .i64 .i64 1 ((l0.length : Int) - 1) (by omega) (by omega) (by omega), hel, Try.sizeOf2, Result.andThen_ok, show ((l0.length : Int) - 1).toNat = l0.length - 1 by omega]
   rfl
  have HCUT := Aside0.mk hcut
  clear hcut hu hel
  go_enter Try.func11, Try.ntmps11
  go_wp2_with (first | (go_at_call 16; (refine HV.out.mono ?_); rintro e w1 ⟨rfl, rfl⟩) | (go_at_call 15; (refine HS.out.mono ?_); rintro e W ⟨v, rfl, hrow, hb⟩; have HR := Aside0.mk (Kd.R_of_own (h1 := fun _ => rfl) (ok := fun _ => True) (xs := fta_srt l0) (by rw [fta_srt_len]; exact hrow) (fun _ _ => trivial)); have HW := Aside0.mk hb; clear hrow hb; obtain ⟨A, c, ev⟩ := Kd.R_slice HR.out; rw [fta_srt_len] at ev; subst ev; have hAc := HCUT.out A c; have hc_ : l0.length ≤ c := (Kd.R_reads' HR.out).2.1; obtain ⟨A2, hA2⟩ : ∃ A2, (if c = 1 then A else A.map (·.add (1 * 1))) = A2 := ⟨_, rfl⟩; have HA2 := Aside0.mk hA2; have hcutW : ∀ W_ : World, (Instr.slice 22 (.slice A l0.length c) (some (.int .i64 1)) (some (.int .i64 ((l0.length : Int) - 1))) none).run Try.prog W_ = .ok (.slice A2 (l0.length - 1 - 1) (c - 1)) W_ := fun W_ => (by rw [← HA2.out]; exact hAc W_ hc_); clear hAc hA2))
  clear hcutW e1
  go_ret2
  refine ⟨_, rfl, ?_, HB0.out.trans (HW.out.mono (by simp))⟩
  rw [← HR1.out]
  have q := Kd.Q_drop (k := 1) (Kd.Q_take (m := l0.length - 1) (Kd.Q_of_R (Kd.R_lower HR.out (by simp : w.heap.size ≤ (w.alloc (.cells #[.slice A0 l0.length c0] 22)).heap.size))) (by rw [fta_srt_len]; omega)) (by rw [List.length_take, fta_srt_len]; omega)
  have q2 : Kd.Q (Kd.int .i64) 2 W w.heap.size (fun _ => True) (.slice (if c = 1 then A else A.map (·.add (1 * 1))) (l0.length - 1 - 1) (c - 1)) (((fta_srt l0).take (l0.length - 1)).drop 1) := q
  rw [HA2.out] at q2
  exact q2
 ·rw [if_neg h2] at h
  obtain ⟨hr1, rfl⟩ := Prod.mk.inj (Option.some.inj h)
  have HR1 := Aside0.mk hr1
  clear hr1 h
  have b2 : decide ((2 : Int) < (l0.length : Int)) = false := decide_eq_false (by omega)
  have b2' : decide (2 < l0.length) = false := decide_eq_false h2
  go_enter Try.func11, Try.ntmps11
  go_wp2_with (first | (go_at_call 16; (refine HV.out.mono ?_); rintro e w1 ⟨rfl, rfl⟩) | (go_at_call 15; (refine HS.out.mono ?_); rintro e W ⟨v, rfl, hrow, hb⟩; have HR := Aside0.mk (Kd.R_of_own (h1 := fun _ => rfl) (ok := fun _ => True) (xs := fta_srt l0) (by rw [fta_srt_len]; exact hrow) (fun _ _ => trivial)); have HW := Aside0.mk hb; clear hrow hb; obtain ⟨A, c, ev⟩ := Kd.R_slice HR.out; rw [fta_srt_len] at ev; subst ev))
  go_ret2
  refine ⟨_, rfl, ?_, HB0.out.trans (HW.out.mono (by simp))⟩
  rw [← HR1.out]
  exact Kd.Q_of_R (Kd.R_lower HR.out (by simp : w.heap.size ≤ (w.alloc (.cells #[.slice A0 l0.length c0] 22)).heap.size))

/-! ### fta_Middle: function 12 -/
def fta_Middle.f (a0 : Int) (a1 : Int) : Option (Int) := some (wrap64 ((Go.bits .and .i64 a0 a1) + ((Go.bits .xor .i64 a0 a1) / 2)))
set_option maxHeartbeats 8000000 in
set_option maxRecDepth 100000 in
theorem fta_Middle.calls (a0 : Int) (a1 : Int) (r : Int) (w : World) (h : fta_Middle.f a0 a1 = some r) :
  Calls Try.prog 12 #[.int .i64 a0, .int .i64 a1] w fun e w' => e = .returned (.int .i64 r) ∧ Drawn0 w w' := by
 have H : (some (wrap64 ((Go.bits .and .i64 a0 a1) + ((Go.bits .xor .i64 a0 a1) / 2)))) = some r := h
 clear h
 obtain rfl := Option.some.inj H
 go_enter Try.func12, Try.ntmps12
 go_wp2
 go_ret
 exact ⟨by first | rfl | (simp; done) | (simp [*]; done), by repeat (first | exact Drawn0.refl _ | apply Drawn0.step)⟩

/-! ### fta_Average: function 8 -/
def fta_Average.f (l0 : List Int) : Option (Int × Int) := (fta_Trim.f l0).bind fun bt221 => (if bt221.2 = 0 then (if (bt221.1.length : Int) = 0 then (some (0, 8)) else (if 0 < (bt221.1.length : Int) then (if 0 ≤ (wrap64 ((bt221.1.length : Int) - 1)) then (if (wrap64 ((bt221.1.length : Int) - 1)) < (bt221.1.length : Int) then ((fta_Middle.f (rd bt221.1 0) (rd bt221.1 (wrap64 ((bt221.1.length : Int) - 1)))).bind fun t227 => (some (t227, 0))) else (none)) else (none)) else (none))) else (some (0, bt221.2)))
set_option maxHeartbeats 8000000 in
set_option maxRecDepth 100000 in
theorem fta_Average.calls (A0 : Option Addr) (c0 : Nat) (l0 : List Int) (r1 : Int) (r2 : Int) (w : World) (hr0 : Kd.C (Kd.int .i64) w A0 l0.length l0) (hc0 : l0.length ≤ c0) (h : fta_Average.f l0 = some (r1, r2)) :
  Calls Try.prog 8 #[.slice A0 l0.length c0] w fun e w' => e = .returned (.tuple #[.int .i64 r1, .int .i64 r2]) ∧ Below w.heap.size w w' := by
 have HR0 := Aside0.mk hr0
 have HC0 := Aside0.mk hc0
 clear hr0 hc0
 have HB := Aside0.mk (Below.refl w.heap.size w)
 have H : ((fta_Trim.f l0).bind fun bt221 => (if bt221.2 = 0 then (if (bt221.1.length : Int) = 0 then (some (0, 8)) else (if 0 < (bt221.1.length : Int) then (if 0 ≤ (wrap64 ((bt221.1.length : Int) - 1)) then (if (wrap64 ((bt221.1.length : Int) - 1)) < (bt221.1.length : Int) then ((fta_Middle.f (rd bt221.1 0) (rd bt221.1 (wrap64 ((bt221.1.length : Int) - 1)))).bind fun t227 => (some (t227, 0))) else (none)) else (none)) else (none))) else (some (0, bt221.2)))) = some (r1, r2) := h
 clear h
 replace H := Option.bind_eq_some_iff.mp H
 obtain ⟨⟨t221, t222⟩, A20, H⟩ := H
 replace H : (if t222 = 0 then (if (t221.length : Int) = 0 then (some (0, 8)) else (if 0 < (t221.length : Int) then (if 0 ≤ (wrap64 ((t221.length : Int) - 1)) then (if (wrap64 ((t221.length : Int) - 1)) < (t221.length : Int) then ((fta_Middle.f (rd t221 0) (rd t221 (wrap64 ((t221.length : Int) - 1)))).bind fun t227 => (some (t227, 0))) else (none)) else (none)) else (none))) else (some (0, t222))) = some (r1, r2) := H
 have A2 := Aside0.mk A20
 clear A20
 by_cases c3 : t222 = 0
 ·rw [if_pos c3] at H
  have c3b0 : (t222 == 0) = true := beq_iff_eq.mpr c3
  have c3b1 : (t222 != 0) = false := bne_eq_false_iff_eq.mpr c3
  clear c3
  by_cases c4 : (t221.length : Int) = 0
  ·rw [if_pos c4] at H
   have c4b0 : ((t221.length : Int) == 0) = true := beq_iff_eq.mpr c4
   have c4b1 : ((t221.length : Int) != 0) = false := bne_eq_false_iff_eq.mpr c4
   clear c4
   simp only [Option.some.injEq, Prod.mk.injEq] at H
   obtain ⟨rfl, rfl⟩ := H
   go_enter Try.func8, Try.ntmps8
   go_wp2_with (first | (go_at_call 11; (with_reducible refine (fta_Trim.calls _ _ l0 t221 t222 _ ?side1 ?side2 A2.out).mono ?_); (case side1 => repeat (first | exact HR0.out | (with_reducible refine Kd.C_alloc ?_ _) | (with_reducible refine Kd.C_drewN ?_ _) | (with_reducible refine Kd.C_drew ?_))); (case side2 => exact HC0.out); rintro e w5 ⟨v223, rfl, ho0, hb⟩; have n0_ := Aside0.mk (Kd.Q_lower ho0 (below_size (by repeat (first | (with_reducible first | exact HB.out | apply below_alloc | apply pw_below_drewN | apply below_drew1) | exact HB.out)))); have n1_ := Aside0.mk (below_step (by repeat (first | (with_reducible first | exact HB.out | apply below_alloc | apply pw_below_drewN | apply below_drew1) | exact HB.out)) hb); clear HB; have HO224 := n0_; have HB := n1_; clear n0_ n1_; (try clear hb); (try clear hb2); (try clear hk); (try clear hi); (try clear ho0); obtain ⟨Ao6, co6, eo6, _⟩ := Kd.Q_slice HO224.out; subst eo6))
   repeat (go_quiet (first | (go_at_call 11; (with_reducible refine (fta_Trim.calls _ _ l0 t221 t222 _ ?side1 ?side2 A2.out).mono ?_); (case side1 => repeat (first | exact HR0.out | (with_reducible refine Kd.C_alloc ?_ _) | (with_reducible refine Kd.C_drewN ?_ _) | (with_reducible refine Kd.C_drew ?_))); (case side2 => exact HC0.out); rintro e w5 ⟨v223, rfl, ho0, hb⟩; have n0_ := Aside0.mk (Kd.Q_lower ho0 (below_size (by repeat (first | (with_reducible first | exact HB.out | apply below_alloc | apply pw_below_drewN | apply below_drew1) | exact HB.out)))); have n1_ := Aside0.mk (below_step (by repeat (first | (with_reducible first | exact HB.out | apply below_alloc | apply pw_below_drewN | apply below_drew1) | exact HB.out)) hb); clear HB; have HO224 := n0_; have HB := n1_; clear n0_ n1_; (try clear hb); (try clear hb2); (try clear hk); (try clear hi); (try clear ho0); obtain ⟨Ao6, co6, eo6, _⟩ := Kd.Q_slice HO224.out; subst eo6)); try go_wp2_with (first | (go_at_call 11; (with_reducible refine (fta_Trim.calls _ _ l0 t221 t222 _ ?side1 ?side2 A2.out).mono ?_); (case side1 => repeat (first | exact HR0.out | (with_reducible refine Kd.C_alloc ?_ _) | (with_reducible refine Kd.C_drewN ?_ _) | (with_reducible refine Kd.C_drew ?_))); (case side2 => exact HC0.out); rintro e w5 ⟨v223, rfl, ho0, hb⟩; have n0_ := Aside0.mk (Kd.Q_lower ho0 (below_size (by repeat (first | (with_reducible first | exact HB.out | apply below_alloc | apply pw_below_drewN | apply below_drew1) | exact HB.out)))); have n1_ := Aside0.mk (below_step (by repeat (first | (with_reducible first | exact HB.out | apply below_alloc | apply pw_below_drewN | apply below_drew1) | exact HB.out)) hb); clear HB; have HO224 := n0_; have HB := n1_; clear n0_ n1_; (try clear hb); (try clear hb2); (try clear hk); (try clear hi); (try clear ho0); obtain ⟨Ao6, co6, eo6, _⟩ := Kd.Q_slice HO224.out; subst eo6)))
   go_ret2
   exact ⟨by first | rfl | (simp [errW_none, errW_some] <;> rfl) | (simp [*, errW_none, errW_some] <;> rfl), by repeat (first | (with_reducible first | exact HB.out | apply below_alloc | apply pw_below_drewN | apply below_drew1) | exact HB.out)⟩
  ·rw [if_neg c4] at H
   have c4b0 : ((t221.length : Int) == 0) = false := beq_eq_false_iff_ne.mpr c4
   have c4b1 : ((t221.length : Int) != 0) = true := bne_iff_ne.mpr c4
   have c4b2 : ¬ (t221 = []) := fun h_ => c4 (by rw [h_]; rfl)
   by_cases c7 : 0 < (t221.length : Int)
   ·rw [if_pos c7] at H
    have c7b0 : decide (0 < (t221.length : Int)) = true := decide_eq_true c7
    have c7b1 : decide (0 < t221.length) = true := decide_eq_true (by omega)
    clear c7
    obtain ⟨ji8, hji8⟩ : ∃ j_ : Int, (wrap64 ((t221.length : Int) - 1)) = j_ := ⟨_, rfl⟩
    replace H : (if 0 ≤ (ji8) then (if (ji8) < (t221.length : Int) then ((fta_Middle.f (rd t221 0) (rd t221 (ji8))).bind fun t227 => (some (t227, 0))) else (none)) else (none)) = some (r1, r2) := by first | (rw [hji8] at H; exact H) | (simp only [hji8] at H ⊢; exact H)
    (try rw [hji8] at A2)
    have hji8w : (IntKind.i64.wrap ((t221.length : Int) - 1)) = ji8 := (i64_w _).trans hji8
    by_cases c9 : 0 ≤ (ji8)
    ·rw [if_pos c9] at H
     have c9b0 : decide (0 ≤ (ji8)) = true := decide_eq_true c9
     clear c9
     by_cases c10 : (ji8) < (t221.length : Int)
     ·rw [if_pos c10] at H
      have c10b0 : decide ((ji8) < (t221.length : Int)) = true := decide_eq_true c10
      clear c10
      replace H := Option.bind_eq_some_iff.mp H
      obtain ⟨t227, A110, H⟩ := H
      replace H : (some (t227, 0)) = some (r1, r2) := H
      have A11 := Aside0.mk A110
      clear A110
      simp only [Option.some.injEq, Prod.mk.injEq] at H
      obtain ⟨rfl, rfl⟩ := H
      go_enter Try.func8, Try.ntmps8
      go_wp2_with (first | (go_at_call 11; (with_reducible refine (fta_Trim.calls _ _ l0 t221 t222 _ ?side1 ?side2 A2.out).mono ?_); (case side1 => repeat (first | exact HR0.out | (with_reducible refine Kd.C_alloc ?_ _) | (with_reducible refine Kd.C_drewN ?_ _) | (with_reducible refine Kd.C_drew ?_))); (case side2 => exact HC0.out); rintro e w12 ⟨v223, rfl, ho0, hb⟩; have n0_ := Aside0.mk (Kd.Q_lower ho0 (below_size (by repeat (first | (with_reducible first | exact HB.out | apply below_alloc | apply pw_below_drewN | apply below_drew1) | exact HB.out)))); have n1_ := Aside0.mk (below_step (by repeat (first | (with_reducible first | exact HB.out | apply below_alloc | apply pw_below_drewN | apply below_drew1) | exact HB.out)) hb); clear HB; have HO224 := n0_; have HB := n1_; clear n0_ n1_; (try clear hb); (try clear hb2); (try clear hk); (try clear hi); (try clear ho0); obtain ⟨Ao13, co13, eo13, _⟩ := Kd.Q_slice HO224.out; subst eo13; have p225 : 0 ≤ (0 : Int) := (by omega); have q225 : 0 < (t221.length : Int) := of_decide_eq_true (by first | (with_reducible assumption) | assumption); obtain ⟨ad225, e225, hx225_0⟩ := Kd.at_int (Kd.Q_reads' HO224.out).2.2 0 p225 q225; cases e225; have qi225 : (0 < t221.length) = True := eq_true (by omega); (try rw [show ((0 : Int)).toNat = 0 from rfl] at hx225_0); (try rw [Addr.add_zero'] at hx225_0); replace p225 := eq_true p225; replace q225 := eq_true q225; have p226 : 0 ≤ ((ji8) : Int) := of_decide_eq_true (by first | (with_reducible assumption) | assumption); have q226 : (ji8) < (t221.length : Int) := of_decide_eq_true (by first | (with_reducible assumption) | assumption); obtain ⟨ad226, e226, hx226_0⟩ := Kd.at_int (Kd.Q_reads' HO224.out).2.2 (ji8) p226 q226; obtain rfl : ad225 = ad226 := (by injection e226); replace p226 := eq_true p226; replace q226 := eq_true q226) | (go_at_call 12; (with_reducible refine (fta_Middle.calls (rd t221 0) (rd t221 (ji8)) t227 _ A11.out).mono ?_); rintro e w' ⟨rfl, ⟨nd, rfl⟩⟩; (try first | exact ⟨rfl, _, World.drewN_drewN _ _ _⟩ | exact ⟨rfl, _, Eq.trans (World.drewN_drewN _ _ _) (congrArg (World.drewN _) (Nat.add_assoc _ _ _))⟩)))
      repeat (go_quiet (first | (go_at_call 11; (with_reducible refine (fta_Trim.calls _ _ l0 t221 t222 _ ?side1 ?side2 A2.out).mono ?_); (case side1 => repeat (first | exact HR0.out | (with_reducible refine Kd.C_alloc ?_ _) | (with_reducible refine Kd.C_drewN ?_ _) | (with_reducible refine Kd.C_drew ?_))); (case side2 => exact HC0.out); rintro e w12 ⟨v223, rfl, ho0, hb⟩; have n0_ := Aside0.mk (Kd.Q_lower ho0 (below_size (by repeat (first | (with_reducible first | exact HB.out | apply below_alloc | apply pw_below_drewN | apply below_drew1) | exact HB.out)))); have n1_ := Aside0.mk (below_step (by repeat (first | (with_reducible first | exact HB.out | apply below_alloc | apply pw_below_drewN | apply below_drew1) | exact HB.out)) hb); clear HB; have HO224 := n0_; have HB := n1_; clear n0_ n1_; (try clear hb); (try clear hb2); (try clear hk); (try clear hi); (try clear ho0); obtain ⟨Ao13, co13, eo13, _⟩ := Kd.Q_slice HO224.out; subst eo13; have p225 : 0 ≤ (0 : Int) := (by omega); have q225 : 0 < (t221.length : Int) := of_decide_eq_true (by first | (with_reducible assumption) | assumption); obtain ⟨ad225, e225, hx225_0⟩ := Kd.at_int (Kd.Q_reads' HO224.out).2.2 0 p225 q225; cases e225; have qi225 : (0 < t221.length) = True := eq_true (by omega); (try rw [show ((0 : Int)).toNat = 0 from rfl] at hx225_0); (try rw [Addr.add_zero'] at hx225_0); replace p225 := eq_true p225; replace q225 := eq_true q225; have p226 : 0 ≤ ((ji8) : Int) := of_decide_eq_true (by first | (with_reducible assumption) | assumption); have q226 : (ji8) < (t221.length : Int) := of_decide_eq_true (by first | (with_reducible assumption) | assumption); obtain ⟨ad226, e226, hx226_0⟩ := Kd.at_int (Kd.Q_reads' HO224.out).2.2 (ji8) p226 q226; obtain rfl : ad225 = ad226 := (by injection e226); replace p226 := eq_true p226; replace q226 := eq_true q226) | (go_at_call 12; (with_reducible refine (fta_Middle.calls (rd t221 0) (rd t221 (ji8)) t227 _ A11.out).mono ?_); rintro e w' ⟨rfl, ⟨nd, rfl⟩⟩; (try first | exact ⟨rfl, _, World.drewN_drewN _ _ _⟩ | exact ⟨rfl, _, Eq.trans (World.drewN_drewN _ _ _) (congrArg (World.drewN _) (Nat.add_assoc _ _ _))⟩))); try go_wp2_with (first | (go_at_call 11; (with_reducible refine (fta_Trim.calls _ _ l0 t221 t222 _ ?side1 ?side2 A2.out).mono ?_); (case side1 => repeat (first | exact HR0.out | (with_reducible refine Kd.C_alloc ?_ _) | (with_reducible refine Kd.C_drewN ?_ _) | (with_reducible refine Kd.C_drew ?_))); (case side2 => exact HC0.out); rintro e w12 ⟨v223, rfl, ho0, hb⟩; have n0_ := Aside0.mk (Kd.Q_lower ho0 (below_size (by repeat (first | (with_reducible first | exact HB.out | apply below_alloc | apply pw_below_drewN | apply below_drew1) | exact HB.out)))); have n1_ := Aside0.mk (below_step (by repeat (first | (with_reducible first | exact HB.out | apply below_alloc | apply pw_below_drewN | apply below_drew1) | exact HB.out)) hb); clear HB; have HO224 := n0_; have HB := n1_; clear n0_ n1_; (try clear hb); (try clear hb2); (try clear hk); (try clear hi); (try clear ho0); obtain ⟨Ao13, co13, eo13, _⟩ := Kd.Q_slice HO224.out; subst eo13; have p225 : 0 ≤ (0 : Int) := (by omega); have q225 : 0 < (t221.length : Int) := of_decide_eq_true (by first | (with_reducible assumption) | assumption); obtain ⟨ad225, e225, hx225_0⟩ := Kd.at_int (Kd.Q_reads' HO224.out).2.2 0 p225 q225; cases e225; have qi225 : (0 < t221.length) = True := eq_true (by omega); (try rw [show ((0 : Int)).toNat = 0 from rfl] at hx225_0); (try rw [Addr.add_zero'] at hx225_0); replace p225 := eq_true p225; replace q225 := eq_true q225; have p226 : 0 ≤ ((ji8) : Int) := of_decide_eq_true (by first | (with_reducible assumption) | assumption); have q226 : (ji8) < (t221.length : Int) := of_decide_eq_true (by first | (with_reducible assumption) | assumption); obtain ⟨ad226, e226, hx226_0⟩ := Kd.at_int (Kd.Q_reads' HO224.out).2.2 (ji8) p226 q226; obtain rfl : ad225 = ad226 := (by injection e226); replace p226 := eq_true p226; replace q226 := eq_true q226) | (go_at_call 12; (with_reducible refine (fta_Middle.calls (rd t221 0) (rd t221 (ji8)) t227 _ A11.out).mono ?_); rintro e w' ⟨rfl, ⟨nd, rfl⟩⟩; (try first | exact ⟨rfl, _, World.drewN_drewN _ _ _⟩ | exact ⟨rfl, _, Eq.trans (World.drewN_drewN _ _ _) (congrArg (World.drewN _) (Nat.add_assoc _ _ _))⟩))))
      go_ret2
      exact ⟨by first | rfl | (simp [errW_none, errW_some] <;> rfl) | (simp only [← hji8]; first | rfl | (simp [errW_none, errW_some] <;> rfl)) | (simp [*, errW_none, errW_some] <;> rfl), by repeat (first | (with_reducible first | exact HB.out | apply below_alloc | apply pw_below_drewN | apply below_drew1) | exact HB.out)⟩
     ·rw [if_neg c10] at H
      exact absurd H (by simp)
    ·rw [if_neg c9] at H
     exact absurd H (by simp)
   ·rw [if_neg c7] at H
    exact absurd H (by simp)
 ·rw [if_neg c3] at H
  have c3b0 : (t222 == 0) = false := beq_eq_false_iff_ne.mpr c3
  have c3b1 : (t222 != 0) = true := bne_iff_ne.mpr c3
  simp only [Option.some.injEq, Prod.mk.injEq] at H
  obtain ⟨rfl, rfl⟩ := H
  go_enter Try.func8, Try.ntmps8
  go_wp2_with (first | (go_at_call 11; (with_reducible refine (fta_Trim.calls _ _ l0 t221 t222 _ ?side1 ?side2 A2.out).mono ?_); (case side1 => repeat (first | exact HR0.out | (with_reducible refine Kd.C_alloc ?_ _) | (with_reducible refine Kd.C_drewN ?_ _) | (with_reducible refine Kd.C_drew ?_))); (case side2 => exact HC0.out); rintro e w14 ⟨v223, rfl, ho0, hb⟩; have n0_ := Aside0.mk (Kd.Q_lower ho0 (below_size (by repeat (first | (with_reducible first | exact HB.out | apply below_alloc | apply pw_below_drewN | apply below_drew1) | exact HB.out)))); have n1_ := Aside0.mk (below_step (by repeat (first | (with_reducible first | exact HB.out | apply below_alloc | apply pw_below_drewN | apply below_drew1) | exact HB.out)) hb); clear HB; have HO224 := n0_; have HB := n1_; clear n0_ n1_; (try clear hb); (try clear hb2); (try clear hk); (try clear hi); (try clear ho0)))
  repeat (go_quiet (first | (go_at_call 11; (with_reducible refine (fta_Trim.calls _ _ l0 t221 t222 _ ?side1 ?side2 A2.out).mono ?_); (case side1 => repeat (first | exact HR0.out | (with_reducible refine Kd.C_alloc ?_ _) | (with_reducible refine Kd.C_drewN ?_ _) | (with_reducible refine Kd.C_drew ?_))); (case side2 => exact HC0.out); rintro e w14 ⟨v223, rfl, ho0, hb⟩; have n0_ := Aside0.mk (Kd.Q_lower ho0 (below_size (by repeat (first | (with_reducible first | exact HB.out | apply below_alloc | apply pw_below_drewN | apply below_drew1) | exact HB.out)))); have n1_ := Aside0.mk (below_step (by repeat (first | (with_reducible first | exact HB.out | apply below_alloc | apply pw_below_drewN | apply below_drew1) | exact HB.out)) hb); clear HB; have HO224 := n0_; have HB := n1_; clear n0_ n1_; (try clear hb); (try clear hb2); (try clear hk); (try clear hi); (try clear ho0))); try go_wp2_with (first | (go_at_call 11; (with_reducible refine (fta_Trim.calls _ _ l0 t221 t222 _ ?side1 ?side2 A2.out).mono ?_); (case side1 => repeat (first | exact HR0.out | (with_reducible refine Kd.C_alloc ?_ _) | (with_reducible refine Kd.C_drewN ?_ _) | (with_reducible refine Kd.C_drew ?_))); (case side2 => exact HC0.out); rintro e w14 ⟨v223, rfl, ho0, hb⟩; have n0_ := Aside0.mk (Kd.Q_lower ho0 (below_size (by repeat (first | (with_reducible first | exact HB.out | apply below_alloc | apply pw_below_drewN | apply below_drew1) | exact HB.out)))); have n1_ := Aside0.mk (below_step (by repeat (first | (with_reducible first | exact HB.out | apply below_alloc | apply pw_below_drewN | apply below_drew1) | exact HB.out)) hb); clear HB; have HO224 := n0_; have HB := n1_; clear n0_ n1_; (try clear hb); (try clear hb2); (try clear hk); (try clear hi); (try clear ho0))))
  go_ret2
  exact ⟨by first | rfl | (simp [errW_none, errW_some] <;> rfl) | (simp [*, errW_none, errW_some] <;> rfl), by repeat (first | (with_reducible first | exact HB.out | apply below_alloc | apply pw_below_drewN | apply below_drew1) | exact HB.out)⟩

/-! ### palletlaw09_live: function 6 -/
def palletlaw09_live.f  : Option (Bool) := (fta_Average.f (([5, (-100), 7, 100] : List Int))).bind fun bt231 => (if bt231.1 = 6 then (some (bt231.2 == 0)) else (none))
set_option maxHeartbeats 8000000 in
set_option maxRecDepth 100000 in
theorem palletlaw09_live.calls  (r : Bool) (w : World) (h : palletlaw09_live.f  = some r) :
  Calls Try.prog 6 #[] w fun e w' => e = .returned (.bool r) ∧ Below w.heap.size w w' := by
 have HB := Aside0.mk (Below.refl w.heap.size w)
 have H : ((fta_Average.f (([5, (-100), 7, 100] : List Int))).bind fun bt231 => (if bt231.1 = 6 then (some (bt231.2 == 0)) else (none))) = some r := h
 clear h
 obtain ⟨y228, hy228⟩ : ∃ y_ : List Int, y_ = (([5, (-100), 7, 100] : List Int)) := ⟨_, rfl⟩
 replace H : ((fta_Average.f y228).bind fun bt231 => (if bt231.1 = 6 then (some (bt231.2 == 0)) else (none))) = some r := by first | (rw [hy228]; with_reducible exact H) | (have H2_ := (Option.bind_some _ _).symm.trans H; rw [hy228]; with_reducible exact H2_) | (have H2_ := (Option.bind_some _ _).symm.trans H; with_reducible exact H2_) | with_reducible exact H | (rw [hy228]; exact H) | exact H
 have Ny228 := Aside0.mk hy228
 clear hy228
 replace H := Option.bind_eq_some_iff.mp H
 obtain ⟨⟨t231, t232⟩, A10, H⟩ := H
 replace H : (if t231 = 6 then (some (t232 == 0)) else (none)) = some r := H
 have A1 := Aside0.mk A10
 clear A10
 by_cases c2 : t231 = 6
 ·rw [if_pos c2] at H
  have c2b0 : (t231 == 6) = true := beq_iff_eq.mpr c2
  have c2b1 : (t231 != 6) = false := bne_eq_false_iff_eq.mpr c2
  clear c2
  obtain rfl := Option.some.inj H
  go_enter Try.func6, Try.ntmps6
  go_wp2_with (first | ((with_reducible refine gate_dst (N := 4) rfl ?_); refine Kd.R_lit (Kd.int .i64) _ 2 ?hg (N := 4) ?hd (xs := ([5, (-100), 7, 100] : List Int)) (inner := [.int .i64 5, .int .i64 (-100), .int .i64 7, .int .i64 100]) (ok := fun _ => True) (okp := fun _ => True) ?hr ?hp (fun _ hk => hk) trivial (Below.refl _ _) (Nat.le_refl _) (by simp) ?_; (case hd => rfl); (case hg => rfl); (case hr => first | (go_simp; done) | (go_simp; rfl)); (case hp => exact (Reps.one (show Kd.M (Kd.int .i64) _ _ _ 5 [.int .i64 5] from rfl) (Reps.one (show Kd.M (Kd.int .i64) _ _ _ (-100) [.int .i64 (-100)] from rfl) (Reps.one (show Kd.M (Kd.int .i64) _ _ _ 7 [.int .i64 7] from rfl) (Reps.one (show Kd.M (Kd.int .i64) _ _ _ 100 [.int .i64 100] from rfl) (Reps.none _ _)))))); intro v229 w3 ho4 hb hg_ hnew_; clear hg_ hnew_; (first | rw [← Ny228.out] at ho4 | (simp only [Int.reduceToNat] at ho4; rw [← Ny228.out] at ho4)); have n0_ := Aside0.mk (Kd.R_lower ho4 (below_size (by repeat (first | (with_reducible first | exact HB.out | apply below_alloc | apply pw_below_drewN | apply below_drew1) | exact HB.out)))); have n1_ := Aside0.mk (below_step (by repeat (first | (with_reducible first | exact HB.out | apply below_alloc | apply pw_below_drewN | apply below_drew1) | exact HB.out)) hb); clear HB; have HO230 := n0_; have HB := n1_; clear n0_ n1_; clear hb ho4; obtain ⟨Ao5, co5, eo5⟩ := Kd.R_slice HO230.out; subst eo5) | ((with_reducible refine gate_callee (f := 8) rfl ?_); refine goesL_ (some 5) rfl rfl Try.func8 (by kernel_rfl) rfl #[.slice Ao5 y228.length co5] rfl (by (try simp only [List.map_toArray, List.map_cons, List.map_nil]); first | done | rfl | (simp only [List.length_drop, List.length_take]; first | rfl | (rw [Nat.min_eq_left (Int.toNat_le.2 (of_decide_eq_true (by assumption)))]; rfl))) ?_; (with_reducible refine (fta_Average.calls _ _ y228 t231 t232 _ ?side1 ?side2 A1.out).mono ?_); (case side1 => repeat (first | exact (Kd.R_reads' HO230.out).2.2 | (with_reducible refine Kd.C_alloc ?_ _) | (with_reducible refine Kd.C_drewN ?_ _) | (with_reducible refine Kd.C_drew ?_))); (case side2 => exact (Kd.R_reads' HO230.out).2.1); rintro e w6 ⟨rfl, hb⟩; refine ⟨_, rfl, ?_⟩; have n0_ := Aside0.mk (Kd.R_below (by (with_reducible repeat (first | apply Kd.R_alloc | apply Kd.R_drewN | apply Kd.R_drew)); first | exact HO230.out | exact Kd.R_mono HO230.out (fun _ _ => trivial)) hb); have n1_ := Aside0.mk (below_step (by repeat (first | (with_reducible first | exact HB.out | apply below_alloc | apply pw_below_drewN | apply below_drew1) | exact HB.out)) hb); clear HO230; clear HB; have HO230 := n0_; have HB := n1_; clear n0_ n1_; (try clear hb); (try clear hb2); (try clear hk); (try clear hi)))
  go_ret
  exact ⟨by first | rfl | (simp [errW_none, errW_some] <;> rfl) | (simp [*, errW_none, errW_some] <;> rfl), by repeat (first | (with_reducible first | exact HB.out | apply below_alloc | apply pw_below_drewN | apply below_drew1) | exact HB.out)⟩
 ·rw [if_neg c2] at H
  exact absurd H (by simp)

/-! ### fta_Clip: function 10 -/
def fta_Clip.f (a0 : Int) (a1 : Int) : Option (Int × Int) := if a1 < 0 then (some (0, 1)) else (some (mn (mx a0 (wrap64 (-a1))) a1, 0))
set_option maxHeartbeats 8000000 in
set_option maxRecDepth 100000 in
theorem fta_Clip.calls (a0 : Int) (a1 : Int) (r1 : Int) (r2 : Int) (w : World) (h : fta_Clip.f a0 a1 = some (r1, r2)) :
  Calls Try.prog 10 #[.int .i64 a0, .int .i64 a1] w fun e w' => e = .returned (.tuple #[.int .i64 r1, .int .i64 r2]) ∧ Below w.heap.size w w' := by
 have HB := Aside0.mk (Below.refl w.heap.size w)
 have H : (if a1 < 0 then (some (0, 1)) else (some (mn (mx a0 (wrap64 (-a1))) a1, 0))) = some (r1, r2) := h
 clear h
 by_cases c3 : a1 < 0
 ·rw [if_pos c3] at H
  have c3b0 : decide (a1 < 0) = true := decide_eq_true c3
  clear c3
  simp only [Option.some.injEq, Prod.mk.injEq] at H
  obtain ⟨rfl, rfl⟩ := H
  go_enter Try.func10, Try.ntmps10
  go_wp2
  go_ret2
  exact ⟨by first | rfl | (simp [errW_none, errW_some] <;> rfl) | (simp [*, errW_none, errW_some] <;> rfl), by repeat (first | (with_reducible first | exact HB.out | apply below_alloc | apply pw_below_drewN | apply below_drew1) | exact HB.out)⟩
 ·rw [if_neg c3] at H
  have c3b0 : decide (a1 < 0) = false := decide_eq_false c3
  clear c3
  obtain ⟨ji4, hji4⟩ : ∃ j_ : Int, (mx a0 (wrap64 (-a1))) = j_ := ⟨_, rfl⟩
  replace H : (some (mn (ji4) a1, 0)) = some (r1, r2) := by first | (rw [hji4] at H; exact H) | (simp only [hji4] at H ⊢; exact H)
  have hji4_ : (if a0 < (wrap64 (-a1)) then (wrap64 (-a1)) else a0) = ji4 := hji4
  obtain ⟨ji5, hji5⟩ : ∃ j_ : Int, (mn (ji4) a1) = j_ := ⟨_, rfl⟩
  replace H : (some (ji5, 0)) = some (r1, r2) := by first | (rw [hji5] at H; exact H) | (simp only [hji5] at H ⊢; exact H)
  have hji5_ : (if a1 < (ji4) then a1 else (ji4)) = ji5 := hji5
  simp only [Option.some.injEq, Prod.mk.injEq] at H
  obtain ⟨rfl, rfl⟩ := H
  go_enter Try.func10, Try.ntmps10
  go_wp2
  go_ret2
  exact ⟨by first | rfl | (simp [errW_none, errW_some] <;> rfl) | (simp only [← hji4, ← hji5]; first | rfl | (simp [errW_none, errW_some] <;> rfl)) | (simp [*, errW_none, errW_some] <;> rfl), by repeat (first | (with_reducible first | exact HB.out | apply below_alloc | apply pw_below_drewN | apply below_drew1) | exact HB.out)⟩

/-! ### fta_Correct: function 7 -/
def fta_Correct.f (a0 : Int) (l1 : List Int) : Option (Int × Int) := if a0 < 0 then (some (0, 1)) else ((fta_Average.f l1).bind fun bt233 => (if bt233.2 = 0 then ((fta_Clip.f bt233.1 a0).bind fun bt235 => (some (bt235.1, bt235.2))) else (if bt233.2 = 8 then ((fta_Clip.f bt233.1 a0).bind fun bt237 => (some (bt237.1, bt237.2))) else (some (0, bt233.2)))))
set_option maxHeartbeats 8000000 in
set_option maxRecDepth 100000 in
theorem fta_Correct.calls (a0 : Int) (A1 : Option Addr) (c1 : Nat) (l1 : List Int) (r1 : Int) (r2 : Int) (w : World) (hr1 : Kd.C (Kd.int .i64) w A1 l1.length l1) (hc1 : l1.length ≤ c1) (h : fta_Correct.f a0 l1 = some (r1, r2)) :
  Calls Try.prog 7 #[.int .i64 a0, .slice A1 l1.length c1] w fun e w' => e = .returned (.tuple #[.int .i64 r1, .int .i64 r2]) ∧ Below w.heap.size w w' := by
 have HR1 := Aside0.mk hr1
 have HC1 := Aside0.mk hc1
 clear hr1 hc1
 have HB := Aside0.mk (Below.refl w.heap.size w)
 have H : (if a0 < 0 then (some (0, 1)) else ((fta_Average.f l1).bind fun bt233 => (if bt233.2 = 0 then ((fta_Clip.f bt233.1 a0).bind fun bt235 => (some (bt235.1, bt235.2))) else (if bt233.2 = 8 then ((fta_Clip.f bt233.1 a0).bind fun bt237 => (some (bt237.1, bt237.2))) else (some (0, bt233.2)))))) = some (r1, r2) := h
 clear h
 by_cases c3 : a0 < 0
 ·rw [if_pos c3] at H
  have c3b0 : decide (a0 < 0) = true := decide_eq_true c3
  clear c3
  simp only [Option.some.injEq, Prod.mk.injEq] at H
  obtain ⟨rfl, rfl⟩ := H
  go_enter Try.func7, Try.ntmps7
  go_wp2
  go_ret2
  exact ⟨by first | rfl | (simp [errW_none, errW_some] <;> rfl) | (simp [*, errW_none, errW_some] <;> rfl), by repeat (first | (with_reducible first | exact HB.out | apply below_alloc | apply pw_below_drewN | apply below_drew1) | exact HB.out)⟩
 ·rw [if_neg c3] at H
  have c3b0 : decide (a0 < 0) = false := decide_eq_false c3
  clear c3
  replace H := Option.bind_eq_some_iff.mp H
  obtain ⟨⟨t233, t234⟩, A40, H⟩ := H
  replace H : (if t234 = 0 then ((fta_Clip.f t233 a0).bind fun bt235 => (some (bt235.1, bt235.2))) else (if t234 = 8 then ((fta_Clip.f t233 a0).bind fun bt237 => (some (bt237.1, bt237.2))) else (some (0, t234)))) = some (r1, r2) := H
  have A4 := Aside0.mk A40
  clear A40
  by_cases c5 : t234 = 0
  ·rw [if_pos c5] at H
   have c5b0 : (t234 == 0) = true := beq_iff_eq.mpr c5
   have c5b1 : (t234 != 0) = false := bne_eq_false_iff_eq.mpr c5
   clear c5
   replace H := Option.bind_eq_some_iff.mp H
   obtain ⟨⟨t235, t236⟩, A60, H⟩ := H
   replace H : (some (t235, t236)) = some (r1, r2) := H
   have A6 := Aside0.mk A60
   clear A60
   simp only [Option.some.injEq, Prod.mk.injEq] at H
   obtain ⟨rfl, rfl⟩ := H
   go_enter Try.func7, Try.ntmps7
   go_wp2_with (first | ((with_reducible refine gate_callee (f := 8) rfl ?_); refine goesL_ (some 12) rfl rfl Try.func8 (by kernel_rfl) rfl #[.slice A1 l1.length c1] rfl (by (try simp only [List.map_toArray, List.map_cons, List.map_nil]); first | done | rfl | (simp only [List.length_drop, List.length_take]; first | rfl | (rw [Nat.min_eq_left (Int.toNat_le.2 (of_decide_eq_true (by assumption)))]; rfl))) ?_; (with_reducible refine (fta_Average.calls _ _ l1 t233 t234 _ ?side1 ?side2 A4.out).mono ?_); (case side1 => repeat (first | exact HR1.out | (with_reducible refine Kd.C_alloc ?_ _) | (with_reducible refine Kd.C_drewN ?_ _) | (with_reducible refine Kd.C_drew ?_))); (case side2 => exact HC1.out); rintro e w7 ⟨rfl, hb⟩; refine ⟨_, rfl, ?_⟩; have n0_ := Aside0.mk (below_step (by repeat (first | (with_reducible first | exact HB.out | apply below_alloc | apply pw_below_drewN | apply below_drew1) | exact HB.out)) hb); clear HB; have HB := n0_; clear n0_; (try clear hb); (try clear hb2); (try clear hk); (try clear hi)) | ((with_reducible refine gate_callee (f := 10) rfl ?_); refine goesL_ (some 24) rfl rfl Try.func10 (by kernel_rfl) rfl #[.int .i64 t233, .int .i64 a0] rfl (by (try simp only [List.map_toArray, List.map_cons, List.map_nil]); first | done | rfl | (simp only [List.length_drop, List.length_take]; first | rfl | (rw [Nat.min_eq_left (Int.toNat_le.2 (of_decide_eq_true (by assumption)))]; rfl))) ?_; (with_reducible refine (fta_Clip.calls t233 a0 t235 t236 _ A6.out).mono ?_); rintro e w8 ⟨rfl, hb⟩; refine ⟨_, rfl, ?_⟩; have n0_ := Aside0.mk (below_step (by repeat (first | (with_reducible first | exact HB.out | apply below_alloc | apply pw_below_drewN | apply below_drew1) | exact HB.out)) hb); clear HB; have HB := n0_; clear n0_; (try clear hb); (try clear hb2); (try clear hk); (try clear hi)))
   go_ret2
   exact ⟨by first | rfl | (simp [errW_none, errW_some] <;> rfl) | (simp [*, errW_none, errW_some] <;> rfl), by repeat (first | (with_reducible first | exact HB.out | apply below_alloc | apply pw_below_drewN | apply below_drew1) | exact HB.out)⟩
  ·rw [if_neg c5] at H
   have c5b0 : (t234 == 0) = false := beq_eq_false_iff_ne.mpr c5
   have c5b1 : (t234 != 0) = true := bne_iff_ne.mpr c5
   by_cases c9 : t234 = 8
   ·rw [if_pos c9] at H
    have c9b0 : (t234 == 8) = true := beq_iff_eq.mpr c9
    have c9b1 : (t234 != 8) = false := bne_eq_false_iff_eq.mpr c9
    clear c9
    replace H := Option.bind_eq_some_iff.mp H
    obtain ⟨⟨t237, t238⟩, A100, H⟩ := H
    replace H : (some (t237, t238)) = some (r1, r2) := H
    have A10 := Aside0.mk A100
    clear A100
    simp only [Option.some.injEq, Prod.mk.injEq] at H
    obtain ⟨rfl, rfl⟩ := H
    go_enter Try.func7, Try.ntmps7
    go_wp2_with (first | ((with_reducible refine gate_callee (f := 8) rfl ?_); refine goesL_ (some 12) rfl rfl Try.func8 (by kernel_rfl) rfl #[.slice A1 l1.length c1] rfl (by (try simp only [List.map_toArray, List.map_cons, List.map_nil]); first | done | rfl | (simp only [List.length_drop, List.length_take]; first | rfl | (rw [Nat.min_eq_left (Int.toNat_le.2 (of_decide_eq_true (by assumption)))]; rfl))) ?_; (with_reducible refine (fta_Average.calls _ _ l1 t233 t234 _ ?side1 ?side2 A4.out).mono ?_); (case side1 => repeat (first | exact HR1.out | (with_reducible refine Kd.C_alloc ?_ _) | (with_reducible refine Kd.C_drewN ?_ _) | (with_reducible refine Kd.C_drew ?_))); (case side2 => exact HC1.out); rintro e w11 ⟨rfl, hb⟩; refine ⟨_, rfl, ?_⟩; have n0_ := Aside0.mk (below_step (by repeat (first | (with_reducible first | exact HB.out | apply below_alloc | apply pw_below_drewN | apply below_drew1) | exact HB.out)) hb); clear HB; have HB := n0_; clear n0_; (try clear hb); (try clear hb2); (try clear hk); (try clear hi)) | ((with_reducible refine gate_callee (f := 10) rfl ?_); refine goesL_ (some 24) rfl rfl Try.func10 (by kernel_rfl) rfl #[.int .i64 t233, .int .i64 a0] rfl (by (try simp only [List.map_toArray, List.map_cons, List.map_nil]); first | done | rfl | (simp only [List.length_drop, List.length_take]; first | rfl | (rw [Nat.min_eq_left (Int.toNat_le.2 (of_decide_eq_true (by assumption)))]; rfl))) ?_; (with_reducible refine (fta_Clip.calls t233 a0 t237 t238 _ A10.out).mono ?_); rintro e w12 ⟨rfl, hb⟩; refine ⟨_, rfl, ?_⟩; have n0_ := Aside0.mk (below_step (by repeat (first | (with_reducible first | exact HB.out | apply below_alloc | apply pw_below_drewN | apply below_drew1) | exact HB.out)) hb); clear HB; have HB := n0_; clear n0_; (try clear hb); (try clear hb2); (try clear hk); (try clear hi)))
    go_ret2
    exact ⟨by first | rfl | (simp [errW_none, errW_some] <;> rfl) | (simp [*, errW_none, errW_some] <;> rfl), by repeat (first | (with_reducible first | exact HB.out | apply below_alloc | apply pw_below_drewN | apply below_drew1) | exact HB.out)⟩
   ·rw [if_neg c9] at H
    have c9b0 : (t234 == 8) = false := beq_eq_false_iff_ne.mpr c9
    have c9b1 : (t234 != 8) = true := bne_iff_ne.mpr c9
    simp only [Option.some.injEq, Prod.mk.injEq] at H
    obtain ⟨rfl, rfl⟩ := H
    go_enter Try.func7, Try.ntmps7
    go_wp2_with (first | ((with_reducible refine gate_callee (f := 8) rfl ?_); refine goesL_ (some 12) rfl rfl Try.func8 (by kernel_rfl) rfl #[.slice A1 l1.length c1] rfl (by (try simp only [List.map_toArray, List.map_cons, List.map_nil]); first | done | rfl | (simp only [List.length_drop, List.length_take]; first | rfl | (rw [Nat.min_eq_left (Int.toNat_le.2 (of_decide_eq_true (by assumption)))]; rfl))) ?_; (with_reducible refine (fta_Average.calls _ _ l1 t233 t234 _ ?side1 ?side2 A4.out).mono ?_); (case side1 => repeat (first | exact HR1.out | (with_reducible refine Kd.C_alloc ?_ _) | (with_reducible refine Kd.C_drewN ?_ _) | (with_reducible refine Kd.C_drew ?_))); (case side2 => exact HC1.out); rintro e w13 ⟨rfl, hb⟩; refine ⟨_, rfl, ?_⟩; have n0_ := Aside0.mk (below_step (by repeat (first | (with_reducible first | exact HB.out | apply below_alloc | apply pw_below_drewN | apply below_drew1) | exact HB.out)) hb); clear HB; have HB := n0_; clear n0_; (try clear hb); (try clear hb2); (try clear hk); (try clear hi)))
    go_ret2
    exact ⟨by first | rfl | (simp [errW_none, errW_some] <;> rfl) | (simp [*, errW_none, errW_some] <;> rfl), by repeat (first | (with_reducible first | exact HB.out | apply below_alloc | apply pw_below_drewN | apply below_drew1) | exact HB.out)⟩

end Go.Proofs.Yticlckhgobegnaa.Print
