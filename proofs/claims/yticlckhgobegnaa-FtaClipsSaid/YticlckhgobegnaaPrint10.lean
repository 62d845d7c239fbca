-- PRINTED by print.py (a twelfth state) out of the translation. Not trusted: Lean checks it.
import Derived.Test.YticlckhgobegnaaPrint0
import Derived.Test.YticlckhgobegnaaPrint9
namespace Go.Proofs.Yticlckhgobegnaa.Print
open Go.RowKit Go.Proofs.YticlckhgobegnaaW.PrintWords Go.Proofs.YticlckhgobegnaaW.PrintLast Go.Proofs.YticlckhgobegnaaW.PrintMore Go.Proofs.YticlckhgobegnaaX
attribute [local go_sem] str_lss str_geq max2_int min2_int max_two min_two max_three min_three max_four min_four   -- for this text's walks alone
set_option linter.unusedVariables false
set_option linter.unusedSimpArgs false

/-! ### palletlaw09_FtaClips: function 3 -/
def palletlaw09_FtaClips.j0 : Nat → Int → List Int → Bool → Int → Int → Bool → Option (Bool)
 | 0, _, _, _, _, _, _ => none
 | k + 1, x0, x1, x5, x6, x7, x44 => if x44 = true then (none) else (if x7 = 0 then ((fta_Average.f x1).bind fun bt244 => (if x6 > x0 then (none) else (if x6 < (wrap64 (-x0)) then (none) else (if bt244.2 = 0 then (if bt244.1 ≤ x0 then (if bt244.1 ≥ (wrap64 (-x0)) then (if x6 = bt244.1 then (if 0 ≤ (x1.length : Int) then (if ((x1.length : Int) : Int).toNat ≤ 35184372088832 then ((fta_Correct.f x0 (List.replicate ((x1.length : Int) : Int).toNat 0)).bind fun bt249 => (if x5 = true then (if bt249.2 = 0 then (some (bt249.1 == 0)) else (none)) else (none))) else (none)) else (none)) else (none)) else (if 0 ≤ (x1.length : Int) then (if ((x1.length : Int) : Int).toNat ≤ 35184372088832 then ((fta_Correct.f x0 (List.replicate ((x1.length : Int) : Int).toNat 0)).bind fun bt254 => (if x5 = true then (if bt254.2 = 0 then (some (bt254.1 == 0)) else (none)) else (none))) else (none)) else (none))) else (if 0 ≤ (x1.length : Int) then (if ((x1.length : Int) : Int).toNat ≤ 35184372088832 then ((fta_Correct.f x0 (List.replicate ((x1.length : Int) : Int).toNat 0)).bind fun bt259 => (if x5 = true then (if bt259.2 = 0 then (some (bt259.1 == 0)) else (none)) else (none))) else (none)) else (none))) else (if 0 ≤ (x1.length : Int) then (if ((x1.length : Int) : Int).toNat ≤ 35184372088832 then ((fta_Correct.f x0 (List.replicate ((x1.length : Int) : Int).toNat 0)).bind fun bt264 => (if x5 = true then (if bt264.2 = 0 then (some (bt264.1 == 0)) else (none)) else (none))) else (none)) else (none)))))) else (if x5 = true then (some (decide ((x1.length : Int) > 64))) else (none)))
def palletlaw09_FtaClips.f (k : Nat) (a0 : Int) (l1 : List Int) : Option (Bool) := (palletlaw09_live.f).bind fun t239 => (if t239 = true then ((fta_Correct.f a0 l1).bind fun bt240 => ((fta_Correct.f a0 ([] : List Int)).bind fun bt242 => (if a0 < 0 then (if bt240.2 = 1 then (some (bt242.2 == 1)) else (none)) else (if bt242.2 = 0 then (palletlaw09_FtaClips.j0 k a0 l1 t239 bt240.1 bt240.2 (bt242.1 != 0)) else (palletlaw09_FtaClips.j0 k a0 l1 t239 bt240.1 bt240.2 true))))) else (none))
theorem palletlaw09_FtaClips.mono_l : ∀ k, (∀ y0 y1 y2 y3 y4 y5, LeO (palletlaw09_FtaClips.j0 k y0 y1 y2 y3 y4 y5) (palletlaw09_FtaClips.j0 (k + 1) y0 y1 y2 y3 y4 y5))
 | 0 => fun _ _ _ _ _ _ r h => by simp [palletlaw09_FtaClips.j0] at h
 | k + 1 => by
  have ih0 := palletlaw09_FtaClips.mono_l k
  ·intro y0 y1 y2 y3 y4 y5
   unfold palletlaw09_FtaClips.j0
   repeat' first
   | (with_reducible exact ih0 _ _ _ _ _ _)
   | (with_reducible exact LeO.refl _)
   | (with_reducible exact LeO.none _)
   | (with_reducible refine LeO.ite ?_ ?_)
   | (with_reducible refine LeO.bind ?_ (fun _ => ?_))
   | exact ih0 _ _ _ _ _ _
   | exact LeO.none _
   | refine LeO.ite ?_ ?_
   | refine LeO.bind ?_ (fun _ => ?_)
theorem palletlaw09_FtaClips.mono : ∀ a0 a1 k, LeO (palletlaw09_FtaClips.f k a0 a1) (palletlaw09_FtaClips.f (k + 1) a0 a1) := by
 intro a0 a1 k
 have ih0 := palletlaw09_FtaClips.mono_l k
 unfold palletlaw09_FtaClips.f
 repeat' first
   | (with_reducible exact ih0 _ _ _ _ _ _)
   | (with_reducible exact LeO.refl _)
   | (with_reducible exact LeO.none _)
   | (with_reducible refine LeO.ite ?_ ?_)
   | (with_reducible refine LeO.bind ?_ (fun _ => ?_))
   | exact ih0 _ _ _ _ _ _
   | exact LeO.none _
   | refine LeO.ite ?_ ?_
   | refine LeO.bind ?_ (fun _ => ?_)
set_option maxHeartbeats 8000000 in
set_option maxRecDepth 100000 in
theorem palletlaw09_FtaClips.calls (k : Nat) (a0 : Int) (A1 : Option Addr) (c1 : Nat) (l1 : List Int) (r : Bool) (w : World) (hr1 : Kd.C (Kd.int .i64) w A1 l1.length l1) (hc1 : l1.length ≤ c1) (hr_ : Aside0 (r = true)) (h : palletlaw09_FtaClips.f k a0 l1 = some r) :
  Calls Try.prog 3 #[.int .i64 a0, .slice A1 l1.length c1] w fun e w' => e = .returned (.bool r) ∧ Below w.heap.size w w' := by
 have HR1 := Aside0.mk hr1
 have HC1 := Aside0.mk hc1
 clear hr1 hc1
 have HB := Aside0.mk (Below.refl w.heap.size w)
 have H : ((palletlaw09_live.f).bind fun t239 => (if t239 = true then ((fta_Correct.f a0 l1).bind fun bt240 => ((fta_Correct.f a0 ([] : List Int)).bind fun bt242 => (if a0 < 0 then (if bt240.2 = 1 then (some (bt242.2 == 1)) else (none)) else (if bt242.2 = 0 then (palletlaw09_FtaClips.j0 k a0 l1 t239 bt240.1 bt240.2 (bt242.1 != 0)) else (palletlaw09_FtaClips.j0 k a0 l1 t239 bt240.1 bt240.2 true))))) else (none))) = some r := h
 clear h
 replace H := Option.bind_eq_some_iff.mp H
 obtain ⟨t239, A30, H⟩ := H
 replace H : (if t239 = true then ((fta_Correct.f a0 l1).bind fun bt240 => ((fta_Correct.f a0 ([] : List Int)).bind fun bt242 => (if a0 < 0 then (if bt240.2 = 1 then (some (bt242.2 == 1)) else (none)) else (if bt242.2 = 0 then (palletlaw09_FtaClips.j0 k a0 l1 t239 bt240.1 bt240.2 (bt242.1 != 0)) else (palletlaw09_FtaClips.j0 k a0 l1 t239 bt240.1 bt240.2 true))))) else (none)) = some r := H
 have A3 := Aside0.mk A30
 clear A30
 by_cases c4 : t239 = true
 ·subst c4
  have H1 : ((fta_Correct.f a0 l1).bind fun bt240 => ((fta_Correct.f a0 ([] : List Int)).bind fun bt242 => (if a0 < 0 then (if bt240.2 = 1 then (some (bt242.2 == 1)) else (none)) else (if bt242.2 = 0 then (palletlaw09_FtaClips.j0 k a0 l1 true bt240.1 bt240.2 (bt242.1 != 0)) else (palletlaw09_FtaClips.j0 k a0 l1 true bt240.1 bt240.2 true))))) = some r := by rw [if_pos rfl] at H; exact H
  clear H
  have H := H1
  clear H1
  replace H := Option.bind_eq_some_iff.mp H
  obtain ⟨⟨t240, t241⟩, A50, H⟩ := H
  replace H : ((fta_Correct.f a0 ([] : List Int)).bind fun bt242 => (if a0 < 0 then (if t241 = 1 then (some (bt242.2 == 1)) else (none)) else (if bt242.2 = 0 then (palletlaw09_FtaClips.j0 k a0 l1 true t240 t241 (bt242.1 != 0)) else (palletlaw09_FtaClips.j0 k a0 l1 true t240 t241 true)))) = some r := H
  have A5 := Aside0.mk A50
  clear A50
  replace H := Option.bind_eq_some_iff.mp H
  obtain ⟨⟨t242, t243⟩, A60, H⟩ := H
  replace H : (if a0 < 0 then (if t241 = 1 then (some (t243 == 1)) else (none)) else (if t243 = 0 then (palletlaw09_FtaClips.j0 k a0 l1 true t240 t241 (t242 != 0)) else (palletlaw09_FtaClips.j0 k a0 l1 true t240 t241 true))) = some r := H
  have A6 := Aside0.mk A60
  clear A60
  by_cases c7 : a0 < 0
  ·rw [if_pos c7] at H
   have c7b0 : decide (a0 < 0) = true := decide_eq_true c7
   clear c7
   by_cases c8 : t241 = 1
   ·rw [if_pos c8] at H
    have c8b0 : (t241 == 1) = true := beq_iff_eq.mpr c8
    have c8b1 : (t241 != 1) = false := bne_eq_false_iff_eq.mpr c8
    clear c8
    obtain rfl := Option.some.inj H
    go_enter Try.func3, Try.ntmps3
    go_wp2_with (first | ((with_reducible refine gate_callee (f := 6) rfl ?_); refine goesL_ (some 14) rfl rfl Try.func6 (by kernel_rfl) rfl #[] rfl (by (try simp only [List.map_toArray, List.map_cons, List.map_nil]); first | done | rfl | (simp only [List.length_drop, List.length_take]; first | rfl | (rw [Nat.min_eq_left (Int.toNat_le.2 (of_decide_eq_true (by assumption)))]; rfl))) ?_; (with_reducible refine (palletlaw09_live.calls  true _ A3.out).mono ?_); rintro e w9 ⟨rfl, hb⟩; refine ⟨_, rfl, ?_⟩; have n0_ := Aside0.mk (below_step (by repeat (first | (with_reducible first | exact HB.out | apply below_alloc | apply pw_below_drewN | apply below_drew1) | exact HB.out)) hb); clear HB; have HB := n0_; clear n0_; (try clear hb); (try clear hb2); (try clear hk); (try clear hi)) | ((with_reducible refine gate_callee (f := 7) rfl ?_); refine goesL_ (some 20) rfl rfl Try.func7 (by kernel_rfl) rfl #[.int .i64 a0, .slice A1 l1.length c1] rfl (by (try simp only [List.map_toArray, List.map_cons, List.map_nil]); first | done | rfl | (simp only [List.length_drop, List.length_take]; first | rfl | (rw [Nat.min_eq_left (Int.toNat_le.2 (of_decide_eq_true (by assumption)))]; rfl))) ?_; (with_reducible refine (fta_Correct.calls a0 _ _ l1 t240 t241 _ ?side1 ?side2 A5.out).mono ?_); (case side1 => repeat (first | exact (Kd.C_below HR1.out HB.out) | (with_reducible refine Kd.C_alloc ?_ _) | (with_reducible refine Kd.C_drewN ?_ _) | (with_reducible refine Kd.C_drew ?_))); (case side2 => exact HC1.out); rintro e w10 ⟨rfl, hb⟩; refine ⟨_, rfl, ?_⟩; have n0_ := Aside0.mk (below_step (by repeat (first | (with_reducible first | exact HB.out | apply below_alloc | apply pw_below_drewN | apply below_drew1) | exact HB.out)) hb); clear HB; have HB := n0_; clear n0_; (try clear hb); (try clear hb2); (try clear hk); (try clear hi)) | ((with_reducible refine gate_callee (f := 7) rfl ?_); refine goesL_ (some 25) rfl rfl Try.func7 (by kernel_rfl) rfl #[.int .i64 a0, .slice none 0 0] rfl (by (try simp only [List.map_toArray, List.map_cons, List.map_nil]); first | done | rfl | (simp only [List.length_drop, List.length_take]; first | rfl | (rw [Nat.min_eq_left (Int.toNat_le.2 (of_decide_eq_true (by assumption)))]; rfl))) ?_; (refine (fta_Correct.calls a0 _ _ ([] : List Int) t242 t243 _ ?side1 ?side2 A6.out).mono ?_); (case side1 => exact Kd.C_nil _ _); (case side2 => exact Nat.le_refl _); rintro e w11 ⟨rfl, hb⟩; refine ⟨_, rfl, ?_⟩; have n0_ := Aside0.mk (below_step (by repeat (first | (with_reducible first | exact HB.out | apply below_alloc | apply pw_below_drewN | apply below_drew1) | exact HB.out)) hb); clear HB; have HB := n0_; clear n0_; (try clear hb); (try clear hb2); (try clear hk); (try clear hi)))
    go_ret
    exact ⟨by first | rfl | (simp [errW_none, errW_some] <;> rfl) | (simp [*, errW_none, errW_some] <;> rfl), by repeat (first | (with_reducible first | exact HB.out | apply below_alloc | apply pw_below_drewN | apply below_drew1) | exact HB.out)⟩
   ·rw [if_neg c8] at H
    exact absurd H (by simp)
  ·rw [if_neg c7] at H
   have c7b0 : decide (a0 < 0) = false := decide_eq_false c7
   clear c7
   have HC12 := Aside0.mk H
   clear H
   go_enter Try.func3, Try.ntmps3
   go_upto_region 8 with (first | ((with_reducible refine gate_callee (f := 6) rfl ?_); refine goesL_ (some 14) rfl rfl Try.func6 (by kernel_rfl) rfl #[] rfl (by (try simp only [List.map_toArray, List.map_cons, List.map_nil]); first | done | rfl | (simp only [List.length_drop, List.length_take]; first | rfl | (rw [Nat.min_eq_left (Int.toNat_le.2 (of_decide_eq_true (by assumption)))]; rfl))) ?_; (with_reducible refine (palletlaw09_live.calls  true _ A3.out).mono ?_); rintro e w13 ⟨rfl, hb⟩; refine ⟨_, rfl, ?_⟩; have n0_ := Aside0.mk (below_step (by repeat (first | (with_reducible first | exact HB.out | apply below_alloc | apply pw_below_drewN | apply below_drew1) | exact HB.out)) hb); clear HB; have HB := n0_; clear n0_; (try clear hb); (try clear hb2); (try clear hk); (try clear hi)) | ((with_reducible refine gate_callee (f := 7) rfl ?_); refine goesL_ (some 20) rfl rfl Try.func7 (by kernel_rfl) rfl #[.int .i64 a0, .slice A1 l1.length c1] rfl (by (try simp only [List.map_toArray, List.map_cons, List.map_nil]); first | done | rfl | (simp only [List.length_drop, List.length_take]; first | rfl | (rw [Nat.min_eq_left (Int.toNat_le.2 (of_decide_eq_true (by assumption)))]; rfl))) ?_; (with_reducible refine (fta_Correct.calls a0 _ _ l1 t240 t241 _ ?side1 ?side2 A5.out).mono ?_); (case side1 => repeat (first | exact (Kd.C_below HR1.out HB.out) | (with_reducible refine Kd.C_alloc ?_ _) | (with_reducible refine Kd.C_drewN ?_ _) | (with_reducible refine Kd.C_drew ?_))); (case side2 => exact HC1.out); rintro e w14 ⟨rfl, hb⟩; refine ⟨_, rfl, ?_⟩; have n0_ := Aside0.mk (below_step (by repeat (first | (with_reducible first | exact HB.out | apply below_alloc | apply pw_below_drewN | apply below_drew1) | exact HB.out)) hb); clear HB; have HB := n0_; clear n0_; (try clear hb); (try clear hb2); (try clear hk); (try clear hi)) | ((with_reducible refine gate_callee (f := 7) rfl ?_); refine goesL_ (some 25) rfl rfl Try.func7 (by kernel_rfl) rfl #[.int .i64 a0, .slice none 0 0] rfl (by (try simp only [List.map_toArray, List.map_cons, List.map_nil]); first | done | rfl | (simp only [List.length_drop, List.length_take]; first | rfl | (rw [Nat.min_eq_left (Int.toNat_le.2 (of_decide_eq_true (by assumption)))]; rfl))) ?_; (refine (fta_Correct.calls a0 _ _ ([] : List Int) t242 t243 _ ?side1 ?side2 A6.out).mono ?_); (case side1 => exact Kd.C_nil _ _); (case side2 => exact Nat.le_refl _); rintro e w15 ⟨rfl, hb⟩; refine ⟨_, rfl, ?_⟩; have n0_ := Aside0.mk (below_step (by repeat (first | (with_reducible first | exact HB.out | apply below_alloc | apply pw_below_drewN | apply below_drew1) | exact HB.out)) hb); clear HB; have HB := n0_; clear n0_; (try clear hb); (try clear hb2); (try clear hk); (try clear hi)))
   (try simp only [Act.put, List.setIfInBounds_toArray, List.set_cons_zero, List.set_cons_succ])
   go_cut [44] (fun v44 wc => ∃ (kq : Nat) (x44_11 : Bool), v44 = .bool x44_11 ∧ Aside0 (palletlaw09_FtaClips.j0 kq a0 l1 true t240 t241 x44_11 = some r) ∧ Aside0 (kq ≤ k) ∧ Aside0 (Below w.heap.size w wc))
   case first =>
    have H := HC12.out
    clear HC12
    by_cases c16 : t243 = 0
    ·rw [if_pos c16] at H
     have c16b0 : (t243 == 0) = true := beq_iff_eq.mpr c16
     have c16b1 : (t243 != 0) = false := bne_eq_false_iff_eq.mpr c16
     clear c16
     (first | rw [c16b0] | (simp only [i64_w, i32_w]; rw [c16b0]) | skip)
     have H' := Aside0.mk H
     clear H
     go_wp2
     go_meet
     case rel => exact ⟨_, ((t242 != 0)), (by first | rfl | (simp; done) | (simp [*]; done)), H', ⟨by first | omega | exact Nat.le_refl _⟩, ⟨by repeat (first | (with_reducible first | exact HB.out | apply below_alloc | apply pw_below_drewN | apply below_drew1) | exact HB.out)⟩⟩
    ·rw [if_neg c16] at H
     have c16b0 : (t243 == 0) = false := beq_eq_false_iff_ne.mpr c16
     have c16b1 : (t243 != 0) = true := bne_iff_ne.mpr c16
     (first | rw [c16b0] | (simp only [i64_w, i32_w]; rw [c16b0]) | skip)
     have H' := Aside0.mk H
     clear H
     go_wp2
     go_meet
     case rel => exact ⟨_, (true), (by first | rfl | (simp; done) | (simp [*]; done)), H', ⟨by first | omega | exact Nat.le_refl _⟩, ⟨by repeat (first | (with_reducible first | exact HB.out | apply below_alloc | apply pw_below_drewN | apply below_drew1) | exact HB.out)⟩⟩
   case rest =>
    clear HC12
    try clear c1
    try clear p2
    try clear c3
    try clear c4
    try clear c6
    try clear c7
    try clear c7b0
    try clear c8
    try clear c8b0
    try clear c8b1
    try clear c16
    try clear c16b0
    try clear c16b1
    obtain ⟨kq, x44_11, rfl, HA, HJ11, HB⟩ := hcut
    cases kq with
    | zero => exact absurd HA.out (by simp [palletlaw09_FtaClips.j0])
    | succ kj11 =>
     have H := HA.out
     clear HA
     simp only [palletlaw09_FtaClips.j0] at H
     by_cases c17 : x44_11 = true
     ·subst c17
      have H1 : (none) = some r := by rw [if_pos rfl] at H; exact H
      clear H
      have H := H1
      clear H1
      exact absurd H (by simp)
     ·replace c17 := Bool.eq_false_iff.mpr c17
      subst c17
      have H1 : (if t241 = 0 then ((fta_Average.f l1).bind fun bt244 => (if t240 > a0 then (none) else (if t240 < (wrap64 (-a0)) then (none) else (if bt244.2 = 0 then (if bt244.1 ≤ a0 then (if bt244.1 ≥ (wrap64 (-a0)) then (if t240 = bt244.1 then (if 0 ≤ (l1.length : Int) then (if ((l1.length : Int) : Int).toNat ≤ 35184372088832 then ((fta_Correct.f a0 (List.replicate ((l1.length : Int) : Int).toNat 0)).bind fun bt249 => (if true = true then (if bt249.2 = 0 then (some (bt249.1 == 0)) else (none)) else (none))) else (none)) else (none)) else (none)) else (if 0 ≤ (l1.length : Int) then (if ((l1.length : Int) : Int).toNat ≤ 35184372088832 then ((fta_Correct.f a0 (List.replicate ((l1.length : Int) : Int).toNat 0)).bind fun bt254 => (if true = true then (if bt254.2 = 0 then (some (bt254.1 == 0)) else (none)) else (none))) else (none)) else (none))) else (if 0 ≤ (l1.length : Int) then (if ((l1.length : Int) : Int).toNat ≤ 35184372088832 then ((fta_Correct.f a0 (List.replicate ((l1.length : Int) : Int).toNat 0)).bind fun bt259 => (if true = true then (if bt259.2 = 0 then (some (bt259.1 == 0)) else (none)) else (none))) else (none)) else (none))) else (if 0 ≤ (l1.length : Int) then (if ((l1.length : Int) : Int).toNat ≤ 35184372088832 then ((fta_Correct.f a0 (List.replicate ((l1.length : Int) : Int).toNat 0)).bind fun bt264 => (if true = true then (if bt264.2 = 0 then (some (bt264.1 == 0)) else (none)) else (none))) else (none)) else (none)))))) else (if true = true then (some (decide ((l1.length : Int) > 64))) else (none))) = some r := by rw [if_neg (show ¬ (false = true) by decide)] at H; exact H
      clear H
      have H := H1
      clear H1
      by_cases c18 : t241 = 0
      ·rw [if_pos c18] at H
       have c18b0 : (t241 == 0) = true := beq_iff_eq.mpr c18
       have c18b1 : (t241 != 0) = false := bne_eq_false_iff_eq.mpr c18
       clear c18
       replace H := Option.bind_eq_some_iff.mp H
       obtain ⟨⟨t244, t245⟩, A190, H⟩ := H
       replace H : (if t240 > a0 then (none) else (if t240 < (wrap64 (-a0)) then (none) else (if t245 = 0 then (if t244 ≤ a0 then (if t244 ≥ (wrap64 (-a0)) then (if t240 = t244 then (if 0 ≤ (l1.length : Int) then (if ((l1.length : Int) : Int).toNat ≤ 35184372088832 then ((fta_Correct.f a0 (List.replicate ((l1.length : Int) : Int).toNat 0)).bind fun bt249 => (if true = true then (if bt249.2 = 0 then (some (bt249.1 == 0)) else (none)) else (none))) else (none)) else (none)) else (none)) else (if 0 ≤ (l1.length : Int) then (if ((l1.length : Int) : Int).toNat ≤ 35184372088832 then ((fta_Correct.f a0 (List.replicate ((l1.length : Int) : Int).toNat 0)).bind fun bt254 => (if true = true then (if bt254.2 = 0 then (some (bt254.1 == 0)) else (none)) else (none))) else (none)) else (none))) else (if 0 ≤ (l1.length : Int) then (if ((l1.length : Int) : Int).toNat ≤ 35184372088832 then ((fta_Correct.f a0 (List.replicate ((l1.length : Int) : Int).toNat 0)).bind fun bt259 => (if true = true then (if bt259.2 = 0 then (some (bt259.1 == 0)) else (none)) else (none))) else (none)) else (none))) else (if 0 ≤ (l1.length : Int) then (if ((l1.length : Int) : Int).toNat ≤ 35184372088832 then ((fta_Correct.f a0 (List.replicate ((l1.length : Int) : Int).toNat 0)).bind fun bt264 => (if true = true then (if bt264.2 = 0 then (some (bt264.1 == 0)) else (none)) else (none))) else (none)) else (none))))) = some r := H
       have A19 := Aside0.mk A190
       clear A190
       by_cases c20 : t240 > a0
       ·rw [if_pos c20] at H
        exact absurd H (by simp)
       ·rw [if_neg c20] at H
        have c20b0 : decide (a0 < t240) = false := decide_eq_false c20
        clear c20
        by_cases c21 : t240 < (wrap64 (-a0))
        ·rw [if_pos c21] at H
         exact absurd H (by simp)
        ·rw [if_neg c21] at H
         have c21b0 : decide (t240 < (wrap64 (-a0))) = false := decide_eq_false c21
         clear c21
         by_cases c22 : t245 = 0
         ·rw [if_pos c22] at H
          have c22b0 : (t245 == 0) = true := beq_iff_eq.mpr c22
          have c22b1 : (t245 != 0) = false := bne_eq_false_iff_eq.mpr c22
          clear c22
          by_cases c23 : t244 ≤ a0
          ·rw [if_pos c23] at H
           have c23b0 : decide (t244 ≤ a0) = true := decide_eq_true c23
           clear c23
           by_cases c24 : t244 ≥ (wrap64 (-a0))
           ·rw [if_pos c24] at H
            have c24b0 : decide ((wrap64 (-a0)) ≤ t244) = true := decide_eq_true c24
            clear c24
            by_cases c25 : t240 = t244
            ·rw [if_pos c25] at H
             have c25b0 : (t240 == t244) = true := beq_iff_eq.mpr c25
             have c25b1 : (t240 != t244) = false := bne_eq_false_iff_eq.mpr c25
             clear c25
             by_cases c26 : 0 ≤ (l1.length : Int)
             ·rw [if_pos c26] at H
              have c26b0 := eq_true c26
              have c26b1 : decide (0 ≤ (l1.length : Int)) = true := decide_eq_true c26
              clear c26
              by_cases c27 : ((l1.length : Int) : Int).toNat ≤ 35184372088832
              ·rw [if_pos c27] at H
               have c27b0 := eq_true c27
               have c27b1 : decide (((l1.length : Int) : Int).toNat ≤ 35184372088832) = true := decide_eq_true c27
               clear c27
               obtain ⟨y246, hy246⟩ : ∃ y_ : List Int, y_ = (List.replicate ((l1.length : Int) : Int).toNat 0) := ⟨_, rfl⟩
               replace H : ((fta_Correct.f a0 y246).bind fun bt249 => (if true = true then (if bt249.2 = 0 then (some (bt249.1 == 0)) else (none)) else (none))) = some r := by first | (rw [hy246]; with_reducible exact H) | (have H2_ := (Option.bind_some _ _).symm.trans H; rw [hy246]; with_reducible exact H2_) | (have H2_ := (Option.bind_some _ _).symm.trans H; with_reducible exact H2_) | with_reducible exact H | (rw [hy246]; exact H) | exact H
               have Ny246 := Aside0.mk hy246
               clear hy246
               replace H := Option.bind_eq_some_iff.mp H
               obtain ⟨⟨t249, t250⟩, A280, H⟩ := H
               replace H : (if true = true then (if t250 = 0 then (some (t249 == 0)) else (none)) else (none)) = some r := H
               have A28 := Aside0.mk A280
               clear A280
               have H1 : (if t250 = 0 then (some (t249 == 0)) else (none)) = some r := by first | (rw [if_pos rfl] at H; exact H) | exact H
               clear H
               have H := H1
               clear H1
               by_cases c29 : t250 = 0
               ·rw [if_pos c29] at H
                have c29b0 : (t250 == 0) = true := beq_iff_eq.mpr c29
                have c29b1 : (t250 != 0) = false := bne_eq_false_iff_eq.mpr c29
                clear c29
                obtain rfl := Option.some.inj H
                go_wp2_with (first | ((with_reducible refine gate_callee (f := 8) rfl ?_); refine goesL_ (some 55) rfl rfl Try.func8 (by kernel_rfl) rfl #[.slice A1 l1.length c1] rfl (by (try simp only [List.map_toArray, List.map_cons, List.map_nil]); first | done | rfl | (simp only [List.length_drop, List.length_take]; first | rfl | (rw [Nat.min_eq_left (Int.toNat_le.2 (of_decide_eq_true (by assumption)))]; rfl))) ?_; (with_reducible refine (fta_Average.calls _ _ l1 t244 t245 _ ?side1 ?side2 A19.out).mono ?_); (case side1 => repeat (first | exact (Kd.C_below HR1.out HB.out) | (with_reducible refine Kd.C_alloc ?_ _) | (with_reducible refine Kd.C_drewN ?_ _) | (with_reducible refine Kd.C_drew ?_))); (case side2 => exact HC1.out); rintro e w30 ⟨rfl, hb⟩; refine ⟨_, rfl, ?_⟩; have n0_ := Aside0.mk (below_step (by repeat (first | (with_reducible first | exact HB.out | apply below_alloc | apply pw_below_drewN | apply below_drew1) | exact HB.out)) hb); clear HB; have HB := n0_; clear n0_; (try clear hb); (try clear hb2); (try clear hk); (try clear hi)) | ((with_reducible refine gate_dst (N := 91) rfl ?_); (try (refine gate_guard (by rfl) ?_; dsimp only)); refine Kd.R_make (Kd.int .i64) _ 2 rfl (N := 91) rfl 22 _ _ rfl (l1.length : Int) rfl rfl Try.underlying22 (.int .i64 0) 8 info2 rfl (by decide) (by omega) 0 (ok := fun _ => True) (okp := fun _ => True) rfl (fun _ hk => hk) trivial (of_decide_eq_true (by first | (with_reducible assumption) | assumption)) (Nat.le_trans (Nat.mul_le_mul_right _ (of_decide_eq_true (by first | (with_reducible assumption) | assumption) : (l1.length : Int).toNat ≤ 35184372088832)) (by omega)) (Below.refl _ _) (Nat.le_refl _) ?_; intro v247 w31 ho32 hb hg_ hnew_; clear hg_ hnew_; (first | rw [← Ny246.out] at ho32 | (simp only [Int.reduceToNat] at ho32; rw [← Ny246.out] at ho32)); have n0_ := Aside0.mk (Kd.R_lower ho32 (below_size (by repeat (first | (with_reducible first | exact HB.out | apply below_alloc | apply pw_below_drewN | apply below_drew1) | exact HB.out)))); have n1_ := Aside0.mk (below_step (by repeat (first | (with_reducible first | exact HB.out | apply below_alloc | apply pw_below_drewN | apply below_drew1) | exact HB.out)) hb); clear HB; have HO248 := n0_; have HB := n1_; clear n0_ n1_; clear hb ho32; obtain ⟨Ao33, co33, eo33⟩ := Kd.R_slice HO248.out; subst eo33) | ((with_reducible refine gate_callee (f := 7) rfl ?_); refine goesL_ (some 92) rfl rfl Try.func7 (by kernel_rfl) rfl #[.int .i64 a0, .slice Ao33 y246.length co33] rfl (by (try simp only [List.map_toArray, List.map_cons, List.map_nil]); first | done | rfl | (simp only [List.length_drop, List.length_take]; first | rfl | (rw [Nat.min_eq_left (Int.toNat_le.2 (of_decide_eq_true (by assumption)))]; rfl))) ?_; (with_reducible refine (fta_Correct.calls a0 _ _ y246 t249 t250 _ ?side1 ?side2 A28.out).mono ?_); (case side1 => repeat (first | exact (Kd.R_reads' HO248.out).2.2 | (with_reducible refine Kd.C_alloc ?_ _) | (with_reducible refine Kd.C_drewN ?_ _) | (with_reducible refine Kd.C_drew ?_))); (case side2 => exact (Kd.R_reads' HO248.out).2.1); rintro e w34 ⟨rfl, hb⟩; refine ⟨_, rfl, ?_⟩; have n0_ := Aside0.mk (Kd.R_below (by (with_reducible repeat (first | apply Kd.R_alloc | apply Kd.R_drewN | apply Kd.R_drew)); first | exact HO248.out | exact Kd.R_mono HO248.out (fun _ _ => trivial)) hb); have n1_ := Aside0.mk (below_step (by repeat (first | (with_reducible first | exact HB.out | apply below_alloc | apply pw_below_drewN | apply below_drew1) | exact HB.out)) hb); clear HO248; clear HB; have HO248 := n0_; have HB := n1_; clear n0_ n1_; (try clear hb); (try clear hb2); (try clear hk); (try clear hi)))
                go_ret
                exact ⟨by first | rfl | (simp [errW_none, errW_some] <;> rfl) | (simp [*, errW_none, errW_some] <;> rfl), by repeat (first | (with_reducible first | exact HB.out | apply below_alloc | apply pw_below_drewN | apply below_drew1) | exact HB.out)⟩
               ·rw [if_neg c29] at H
                exact absurd H (by simp)
              ·rw [if_neg c27] at H
               exact absurd H (by simp)
             ·rw [if_neg c26] at H
              exact absurd H (by simp)
            ·rw [if_neg c25] at H
             exact absurd H (by simp)
           ·rw [if_neg c24] at H
            have c24b0 : decide ((wrap64 (-a0)) ≤ t244) = false := decide_eq_false c24
            clear c24
            by_cases c35 : 0 ≤ (l1.length : Int)
            ·rw [if_pos c35] at H
             have c35b0 := eq_true c35
             have c35b1 : decide (0 ≤ (l1.length : Int)) = true := decide_eq_true c35
             clear c35
             by_cases c36 : ((l1.length : Int) : Int).toNat ≤ 35184372088832
             ·rw [if_pos c36] at H
              have c36b0 := eq_true c36
              have c36b1 : decide (((l1.length : Int) : Int).toNat ≤ 35184372088832) = true := decide_eq_true c36
              clear c36
              obtain ⟨y251, hy251⟩ : ∃ y_ : List Int, y_ = (List.replicate ((l1.length : Int) : Int).toNat 0) := ⟨_, rfl⟩
              replace H : ((fta_Correct.f a0 y251).bind fun bt254 => (if true = true then (if bt254.2 = 0 then (some (bt254.1 == 0)) else (none)) else (none))) = some r := by first | (rw [hy251]; with_reducible exact H) | (have H2_ := (Option.bind_some _ _).symm.trans H; rw [hy251]; with_reducible exact H2_) | (have H2_ := (Option.bind_some _ _).symm.trans H; with_reducible exact H2_) | with_reducible exact H | (rw [hy251]; exact H) | exact H
              have Ny251 := Aside0.mk hy251
              clear hy251
              replace H := Option.bind_eq_some_iff.mp H
              obtain ⟨⟨t254, t255⟩, A370, H⟩ := H
              replace H : (if true = true then (if t255 = 0 then (some (t254 == 0)) else (none)) else (none)) = some r := H
              have A37 := Aside0.mk A370
              clear A370
              have H1 : (if t255 = 0 then (some (t254 == 0)) else (none)) = some r := by first | (rw [if_pos rfl] at H; exact H) | exact H
              clear H
              have H := H1
              clear H1
              by_cases c38 : t255 = 0
              ·rw [if_pos c38] at H
               have c38b0 : (t255 == 0) = true := beq_iff_eq.mpr c38
               have c38b1 : (t255 != 0) = false := bne_eq_false_iff_eq.mpr c38
               clear c38
               obtain rfl := Option.some.inj H
               go_wp2_with (first | ((with_reducible refine gate_callee (f := 8) rfl ?_); refine goesL_ (some 55) rfl rfl Try.func8 (by kernel_rfl) rfl #[.slice A1 l1.length c1] rfl (by (try simp only [List.map_toArray, List.map_cons, List.map_nil]); first | done | rfl | (simp only [List.length_drop, List.length_take]; first | rfl | (rw [Nat.min_eq_left (Int.toNat_le.2 (of_decide_eq_true (by assumption)))]; rfl))) ?_; (with_reducible refine (fta_Average.calls _ _ l1 t244 t245 _ ?side1 ?side2 A19.out).mono ?_); (case side1 => repeat (first | exact (Kd.C_below HR1.out HB.out) | (with_reducible refine Kd.C_alloc ?_ _) | (with_reducible refine Kd.C_drewN ?_ _) | (with_reducible refine Kd.C_drew ?_))); (case side2 => exact HC1.out); rintro e w39 ⟨rfl, hb⟩; refine ⟨_, rfl, ?_⟩; have n0_ := Aside0.mk (below_step (by repeat (first | (with_reducible first | exact HB.out | apply below_alloc | apply pw_below_drewN | apply below_drew1) | exact HB.out)) hb); clear HB; have HB := n0_; clear n0_; (try clear hb); (try clear hb2); (try clear hk); (try clear hi)) | ((with_reducible refine gate_dst (N := 91) rfl ?_); (try (refine gate_guard (by rfl) ?_; dsimp only)); refine Kd.R_make (Kd.int .i64) _ 2 rfl (N := 91) rfl 22 _ _ rfl (l1.length : Int) rfl rfl Try.underlying22 (.int .i64 0) 8 info2 rfl (by decide) (by omega) 0 (ok := fun _ => True) (okp := fun _ => True) rfl (fun _ hk => hk) trivial (of_decide_eq_true (by first | (with_reducible assumption) | assumption)) (Nat.le_trans (Nat.mul_le_mul_right _ (of_decide_eq_true (by first | (with_reducible assumption) | assumption) : (l1.length : Int).toNat ≤ 35184372088832)) (by omega)) (Below.refl _ _) (Nat.le_refl _) ?_; intro v252 w40 ho41 hb hg_ hnew_; clear hg_ hnew_; (first | rw [← Ny251.out] at ho41 | (simp only [Int.reduceToNat] at ho41; rw [← Ny251.out] at ho41)); have n0_ := Aside0.mk (Kd.R_lower ho41 (below_size (by repeat (first | (with_reducible first | exact HB.out | apply below_alloc | apply pw_below_drewN | apply below_drew1) | exact HB.out)))); have n1_ := Aside0.mk (below_step (by repeat (first | (with_reducible first | exact HB.out | apply below_alloc | apply pw_below_drewN | apply below_drew1) | exact HB.out)) hb); clear HB; have HO253 := n0_; have HB := n1_; clear n0_ n1_; clear hb ho41; obtain ⟨Ao42, co42, eo42⟩ := Kd.R_slice HO253.out; subst eo42) | ((with_reducible refine gate_callee (f := 7) rfl ?_); refine goesL_ (some 92) rfl rfl Try.func7 (by kernel_rfl) rfl #[.int .i64 a0, .slice Ao42 y251.length co42] rfl (by (try simp only [List.map_toArray, List.map_cons, List.map_nil]); first | done | rfl | (simp only [List.length_drop, List.length_take]; first | rfl | (rw [Nat.min_eq_left (Int.toNat_le.2 (of_decide_eq_true (by assumption)))]; rfl))) ?_; (with_reducible refine (fta_Correct.calls a0 _ _ y251 t254 t255 _ ?side1 ?side2 A37.out).mono ?_); (case side1 => repeat (first | exact (Kd.R_reads' HO253.out).2.2 | (with_reducible refine Kd.C_alloc ?_ _) | (with_reducible refine Kd.C_drewN ?_ _) | (with_reducible refine Kd.C_drew ?_))); (case side2 => exact (Kd.R_reads' HO253.out).2.1); rintro e w43 ⟨rfl, hb⟩; refine ⟨_, rfl, ?_⟩; have n0_ := Aside0.mk (Kd.R_below (by (with_reducible repeat (first | apply Kd.R_alloc | apply Kd.R_drewN | apply Kd.R_drew)); first | exact HO253.out | exact Kd.R_mono HO253.out (fun _ _ => trivial)) hb); have n1_ := Aside0.mk (below_step (by repeat (first | (with_reducible first | exact HB.out | apply below_alloc | apply pw_below_drewN | apply below_drew1) | exact HB.out)) hb); clear HO253; clear HB; have HO253 := n0_; have HB := n1_; clear n0_ n1_; (try clear hb); (try clear hb2); (try clear hk); (try clear hi)))
               go_ret
               exact ⟨by first | rfl | (simp [errW_none, errW_some] <;> rfl) | (simp [*, errW_none, errW_some] <;> rfl), by repeat (first | (with_reducible first | exact HB.out | apply below_alloc | apply pw_below_drewN | apply below_drew1) | exact HB.out)⟩
              ·rw [if_neg c38] at H
               exact absurd H (by simp)
             ·rw [if_neg c36] at H
              exact absurd H (by simp)
            ·rw [if_neg c35] at H
             exact absurd H (by simp)
          ·rw [if_neg c23] at H
           have c23b0 : decide (t244 ≤ a0) = false := decide_eq_false c23
           clear c23
           by_cases c44 : 0 ≤ (l1.length : Int)
           ·rw [if_pos c44] at H
            have c44b0 := eq_true c44
            have c44b1 : decide (0 ≤ (l1.length : Int)) = true := decide_eq_true c44
            clear c44
            by_cases c45 : ((l1.length : Int) : Int).toNat ≤ 35184372088832
            ·rw [if_pos c45] at H
             have c45b0 := eq_true c45
             have c45b1 : decide (((l1.length : Int) : Int).toNat ≤ 35184372088832) = true := decide_eq_true c45
             clear c45
             obtain ⟨y256, hy256⟩ : ∃ y_ : List Int, y_ = (List.replicate ((l1.length : Int) : Int).toNat 0) := ⟨_, rfl⟩
             replace H : ((fta_Correct.f a0 y256).bind fun bt259 => (if true = true then (if bt259.2 = 0 then (some (bt259.1 == 0)) else (none)) else (none))) = some r := by first | (rw [hy256]; with_reducible exact H) | (have H2_ := (Option.bind_some _ _).symm.trans H; rw [hy256]; with_reducible exact H2_) | (have H2_ := (Option.bind_some _ _).symm.trans H; with_reducible exact H2_) | with_reducible exact H | (rw [hy256]; exact H) | exact H
             have Ny256 := Aside0.mk hy256
             clear hy256
             replace H := Option.bind_eq_some_iff.mp H
             obtain ⟨⟨t259, t260⟩, A460, H⟩ := H
             replace H : (if true = true then (if t260 = 0 then (some (t259 == 0)) else (none)) else (none)) = some r := H
             have A46 := Aside0.mk A460
             clear A460
             have H1 : (if t260 = 0 then (some (t259 == 0)) else (none)) = some r := by first | (rw [if_pos rfl] at H; exact H) | exact H
             clear H
             have H := H1
             clear H1
             by_cases c47 : t260 = 0
             ·rw [if_pos c47] at H
              have c47b0 : (t260 == 0) = true := beq_iff_eq.mpr c47
              have c47b1 : (t260 != 0) = false := bne_eq_false_iff_eq.mpr c47
              clear c47
              obtain rfl := Option.some.inj H
              go_wp2_with (first | ((with_reducible refine gate_callee (f := 8) rfl ?_); refine goesL_ (some 55) rfl rfl Try.func8 (by kernel_rfl) rfl #[.slice A1 l1.length c1] rfl (by (try simp only [List.map_toArray, List.map_cons, List.map_nil]); first | done | rfl | (simp only [List.length_drop, List.length_take]; first | rfl | (rw [Nat.min_eq_left (Int.toNat_le.2 (of_decide_eq_true (by assumption)))]; rfl))) ?_; (with_reducible refine (fta_Average.calls _ _ l1 t244 t245 _ ?side1 ?side2 A19.out).mono ?_); (case side1 => repeat (first | exact (Kd.C_below HR1.out HB.out) | (with_reducible refine Kd.C_alloc ?_ _) | (with_reducible refine Kd.C_drewN ?_ _) | (with_reducible refine Kd.C_drew ?_))); (case side2 => exact HC1.out); rintro e w48 ⟨rfl, hb⟩; refine ⟨_, rfl, ?_⟩; have n0_ := Aside0.mk (below_step (by repeat (first | (with_reducible first | exact HB.out | apply below_alloc | apply pw_below_drewN | apply below_drew1) | exact HB.out)) hb); clear HB; have HB := n0_; clear n0_; (try clear hb); (try clear hb2); (try clear hk); (try clear hi)) | ((with_reducible refine gate_dst (N := 91) rfl ?_); (try (refine gate_guard (by rfl) ?_; dsimp only)); refine Kd.R_make (Kd.int .i64) _ 2 rfl (N := 91) rfl 22 _ _ rfl (l1.length : Int) rfl rfl Try.underlying22 (.int .i64 0) 8 info2 rfl (by decide) (by omega) 0 (ok := fun _ => True) (okp := fun _ => True) rfl (fun _ hk => hk) trivial (of_decide_eq_true (by first | (with_reducible assumption) | assumption)) (Nat.le_trans (Nat.mul_le_mul_right _ (of_decide_eq_true (by first | (with_reducible assumption) | assumption) : (l1.length : Int).toNat ≤ 35184372088832)) (by omega)) (Below.refl _ _) (Nat.le_refl _) ?_; intro v257 w49 ho50 hb hg_ hnew_; clear hg_ hnew_; (first | rw [← Ny256.out] at ho50 | (simp only [Int.reduceToNat] at ho50; rw [← Ny256.out] at ho50)); have n0_ := Aside0.mk (Kd.R_lower ho50 (below_size (by repeat (first | (with_reducible first | exact HB.out | apply below_alloc | apply pw_below_drewN | apply below_drew1) | exact HB.out)))); have n1_ := Aside0.mk (below_step (by repeat (first | (with_reducible first | exact HB.out | apply below_alloc | apply pw_below_drewN | apply below_drew1) | exact HB.out)) hb); clear HB; have HO258 := n0_; have HB := n1_; clear n0_ n1_; clear hb ho50; obtain ⟨Ao51, co51, eo51⟩ := Kd.R_slice HO258.out; subst eo51) | ((with_reducible refine gate_callee (f := 7) rfl ?_); refine goesL_ (some 92) rfl rfl Try.func7 (by kernel_rfl) rfl #[.int .i64 a0, .slice Ao51 y256.length co51] rfl (by (try simp only [List.map_toArray, List.map_cons, List.map_nil]); first | done | rfl | (simp only [List.length_drop, List.length_take]; first | rfl | (rw [Nat.min_eq_left (Int.toNat_le.2 (of_decide_eq_true (by assumption)))]; rfl))) ?_; (with_reducible refine (fta_Correct.calls a0 _ _ y256 t259 t260 _ ?side1 ?side2 A46.out).mono ?_); (case side1 => repeat (first | exact (Kd.R_reads' HO258.out).2.2 | (with_reducible refine Kd.C_alloc ?_ _) | (with_reducible refine Kd.C_drewN ?_ _) | (with_reducible refine Kd.C_drew ?_))); (case side2 => exact (Kd.R_reads' HO258.out).2.1); rintro e w52 ⟨rfl, hb⟩; refine ⟨_, rfl, ?_⟩; have n0_ := Aside0.mk (Kd.R_below (by (with_reducible repeat (first | apply Kd.R_alloc | apply Kd.R_drewN | apply Kd.R_drew)); first | exact HO258.out | exact Kd.R_mono HO258.out (fun _ _ => trivial)) hb); have n1_ := Aside0.mk (below_step (by repeat (first | (with_reducible first | exact HB.out | apply below_alloc | apply pw_below_drewN | apply below_drew1) | exact HB.out)) hb); clear HO258; clear HB; have HO258 := n0_; have HB := n1_; clear n0_ n1_; (try clear hb); (try clear hb2); (try clear hk); (try clear hi)))
              go_ret
              exact ⟨by first | rfl | (simp [errW_none, errW_some] <;> rfl) | (simp [*, errW_none, errW_some] <;> rfl), by repeat (first | (with_reducible first | exact HB.out | apply below_alloc | apply pw_below_drewN | apply below_drew1) | exact HB.out)⟩
             ·rw [if_neg c47] at H
              exact absurd H (by simp)
            ·rw [if_neg c45] at H
             exact absurd H (by simp)
           ·rw [if_neg c44] at H
            exact absurd H (by simp)
         ·rw [if_neg c22] at H
          have c22b0 : (t245 == 0) = false := beq_eq_false_iff_ne.mpr c22
          have c22b1 : (t245 != 0) = true := bne_iff_ne.mpr c22
          by_cases c53 : 0 ≤ (l1.length : Int)
          ·rw [if_pos c53] at H
           have c53b0 := eq_true c53
           have c53b1 : decide (0 ≤ (l1.length : Int)) = true := decide_eq_true c53
           clear c53
           by_cases c54 : ((l1.length : Int) : Int).toNat ≤ 35184372088832
           ·rw [if_pos c54] at H
            have c54b0 := eq_true c54
            have c54b1 : decide (((l1.length : Int) : Int).toNat ≤ 35184372088832) = true := decide_eq_true c54
            clear c54
            obtain ⟨y261, hy261⟩ : ∃ y_ : List Int, y_ = (List.replicate ((l1.length : Int) : Int).toNat 0) := ⟨_, rfl⟩
            replace H : ((fta_Correct.f a0 y261).bind fun bt264 => (if true = true then (if bt264.2 = 0 then (some (bt264.1 == 0)) else (none)) else (none))) = some r := by first | (rw [hy261]; with_reducible exact H) | (have H2_ := (Option.bind_some _ _).symm.trans H; rw [hy261]; with_reducible exact H2_) | (have H2_ := (Option.bind_some _ _).symm.trans H; with_reducible exact H2_) | with_reducible exact H | (rw [hy261]; exact H) | exact H
            have Ny261 := Aside0.mk hy261
            clear hy261
            replace H := Option.bind_eq_some_iff.mp H
            obtain ⟨⟨t264, t265⟩, A550, H⟩ := H
            replace H : (if true = true then (if t265 = 0 then (some (t264 == 0)) else (none)) else (none)) = some r := H
            have A55 := Aside0.mk A550
            clear A550
            have H1 : (if t265 = 0 then (some (t264 == 0)) else (none)) = some r := by first | (rw [if_pos rfl] at H; exact H) | exact H
            clear H
            have H := H1
            clear H1
            by_cases c56 : t265 = 0
            ·rw [if_pos c56] at H
             have c56b0 : (t265 == 0) = true := beq_iff_eq.mpr c56
             have c56b1 : (t265 != 0) = false := bne_eq_false_iff_eq.mpr c56
             clear c56
             obtain rfl := Option.some.inj H
             go_wp2_with (first | ((with_reducible refine gate_callee (f := 8) rfl ?_); refine goesL_ (some 55) rfl rfl Try.func8 (by kernel_rfl) rfl #[.slice A1 l1.length c1] rfl (by (try simp only [List.map_toArray, List.map_cons, List.map_nil]); first | done | rfl | (simp only [List.length_drop, List.length_take]; first | rfl | (rw [Nat.min_eq_left (Int.toNat_le.2 (of_decide_eq_true (by assumption)))]; rfl))) ?_; (with_reducible refine (fta_Average.calls _ _ l1 t244 t245 _ ?side1 ?side2 A19.out).mono ?_); (case side1 => repeat (first | exact (Kd.C_below HR1.out HB.out) | (with_reducible refine Kd.C_alloc ?_ _) | (with_reducible refine Kd.C_drewN ?_ _) | (with_reducible refine Kd.C_drew ?_))); (case side2 => exact HC1.out); rintro e w57 ⟨rfl, hb⟩; refine ⟨_, rfl, ?_⟩; have n0_ := Aside0.mk (below_step (by repeat (first | (with_reducible first | exact HB.out | apply below_alloc | apply pw_below_drewN | apply below_drew1) | exact HB.out)) hb); clear HB; have HB := n0_; clear n0_; (try clear hb); (try clear hb2); (try clear hk); (try clear hi)) | ((with_reducible refine gate_dst (N := 91) rfl ?_); (try (refine gate_guard (by rfl) ?_; dsimp only)); refine Kd.R_make (Kd.int .i64) _ 2 rfl (N := 91) rfl 22 _ _ rfl (l1.length : Int) rfl rfl Try.underlying22 (.int .i64 0) 8 info2 rfl (by decide) (by omega) 0 (ok := fun _ => True) (okp := fun _ => True) rfl (fun _ hk => hk) trivial (of_decide_eq_true (by first | (with_reducible assumption) | assumption)) (Nat.le_trans (Nat.mul_le_mul_right _ (of_decide_eq_true (by first | (with_reducible assumption) | assumption) : (l1.length : Int).toNat ≤ 35184372088832)) (by omega)) (Below.refl _ _) (Nat.le_refl _) ?_; intro v262 w58 ho59 hb hg_ hnew_; clear hg_ hnew_; (first | rw [← Ny261.out] at ho59 | (simp only [Int.reduceToNat] at ho59; rw [← Ny261.out] at ho59)); have n0_ := Aside0.mk (Kd.R_lower ho59 (below_size (by repeat (first | (with_reducible first | exact HB.out | apply below_alloc | apply pw_below_drewN | apply below_drew1) | exact HB.out)))); have n1_ := Aside0.mk (below_step (by repeat (first | (with_reducible first | exact HB.out | apply below_alloc | apply pw_below_drewN | apply below_drew1) | exact HB.out)) hb); clear HB; have HO263 := n0_; have HB := n1_; clear n0_ n1_; clear hb ho59; obtain ⟨Ao60, co60, eo60⟩ := Kd.R_slice HO263.out; subst eo60) | ((with_reducible refine gate_callee (f := 7) rfl ?_); refine goesL_ (some 92) rfl rfl Try.func7 (by kernel_rfl) rfl #[.int .i64 a0, .slice Ao60 y261.length co60] rfl (by (try simp only [List.map_toArray, List.map_cons, List.map_nil]); first | done | rfl | (simp only [List.length_drop, List.length_take]; first | rfl | (rw [Nat.min_eq_left (Int.toNat_le.2 (of_decide_eq_true (by assumption)))]; rfl))) ?_; (with_reducible refine (fta_Correct.calls a0 _ _ y261 t264 t265 _ ?side1 ?side2 A55.out).mono ?_); (case side1 => repeat (first | exact (Kd.R_reads' HO263.out).2.2 | (with_reducible refine Kd.C_alloc ?_ _) | (with_reducible refine Kd.C_drewN ?_ _) | (with_reducible refine Kd.C_drew ?_))); (case side2 => exact (Kd.R_reads' HO263.out).2.1); rintro e w61 ⟨rfl, hb⟩; refine ⟨_, rfl, ?_⟩; have n0_ := Aside0.mk (Kd.R_below (by (with_reducible repeat (first | apply Kd.R_alloc | apply Kd.R_drewN | apply Kd.R_drew)); first | exact HO263.out | exact Kd.R_mono HO263.out (fun _ _ => trivial)) hb); have n1_ := Aside0.mk (below_step (by repeat (first | (with_reducible first | exact HB.out | apply below_alloc | apply pw_below_drewN | apply below_drew1) | exact HB.out)) hb); clear HO263; clear HB; have HO263 := n0_; have HB := n1_; clear n0_ n1_; (try clear hb); (try clear hb2); (try clear hk); (try clear hi)))
             go_ret
             exact ⟨by first | rfl | (simp [errW_none, errW_some] <;> rfl) | (simp [*, errW_none, errW_some] <;> rfl), by repeat (first | (with_reducible first | exact HB.out | apply below_alloc | apply pw_below_drewN | apply below_drew1) | exact HB.out)⟩
            ·rw [if_neg c56] at H
             exact absurd H (by simp)
           ·rw [if_neg c54] at H
            exact absurd H (by simp)
          ·rw [if_neg c53] at H
           exact absurd H (by simp)
      ·rw [if_neg c18] at H
       have c18b0 : (t241 == 0) = false := beq_eq_false_iff_ne.mpr c18
       have c18b1 : (t241 != 0) = true := bne_iff_ne.mpr c18
       have H1 : (some (decide ((l1.length : Int) > 64))) = some r := by first | (rw [if_pos rfl] at H; exact H) | exact H
       clear H
       have H := H1
       clear H1
       obtain rfl := Option.some.inj H
       go_wp2
       go_ret
       exact ⟨by first | rfl | (simp [errW_none, errW_some] <;> rfl) | (simp [*, errW_none, errW_some] <;> rfl), by repeat (first | (with_reducible first | exact HB.out | apply below_alloc | apply pw_below_drewN | apply below_drew1) | exact HB.out)⟩
 ·replace c4 := Bool.eq_false_iff.mpr c4
  subst c4
  have H1 : (none) = some r := by rw [if_neg (show ¬ (false = true) by decide)] at H; exact H
  clear H
  have H := H1
  clear H1
  exact absurd H (by simp)

end Go.Proofs.Yticlckhgobegnaa.Print
