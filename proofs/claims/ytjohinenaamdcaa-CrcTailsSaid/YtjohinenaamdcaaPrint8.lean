-- PRINTED by print.py (a twelfth state) out of the translation. Not trusted: Lean checks it.
import Derived.Test.YtjohinenaamdcaaPrint0
import Derived.Test.YtjohinenaamdcaaPrint1
import Derived.Test.YtjohinenaamdcaaPrint2
import Derived.Test.YtjohinenaamdcaaPrint4
import Derived.Test.YtjohinenaamdcaaPrint6
namespace Go.Proofs.Ytjohinenaamdcaa.Print
open Go.RowKit Go.Proofs.YtjohinenaamdcaaW.PrintWords Go.Proofs.YtjohinenaamdcaaW.PrintLast Go.Proofs.YtjohinenaamdcaaW.PrintMore Go.Proofs.YtjohinenaamdcaaX
attribute [local go_sem] str_lss str_geq max2_int min2_int max_two min_two max_three min_three max_four min_four   -- for this text's walks alone
set_option linter.unusedVariables false
set_option linter.unusedSimpArgs false

/-! ### palletlaw03_CrcTails: function 5 -/
def palletlaw03_CrcTails.j0 : Nat → List Int → Bool → List Int → Int → Bool → Option (Bool)
 | 0, _, _, _, _, _ => none
 | k + 1, x0, x5, x6, x7, x52 => if x52 = true then (some false) else (if x5 = true then (if x7 = 0 then ((crc_Sum24.f x6).bind fun t185 => (if t185 = 0 then ((crc_Sum24.f x0).bind fun t186 => (some (decide (t186 < 16777216)))) else (some false))) else (some false)) else (some false))
def palletlaw03_CrcTails.f (k : Nat) (l0 : List Int) (a1 : Int) : Option (Bool) := (palletlaw03_live.f).bind fun t170 => (if t170 = true then (if (l0.length : Int) > 5000 then (some t170) else ((crc_Seal24.f l0).bind fun bt171 => ((crc_Turn.f l0 a1).bind fun bt175 => ((crc_Turn.f bt175.1 a1).bind fun bt179 => (if bt175.2 = 0 then (if bt179.2 = 0 then ((palletref02_Same.f bt179.1 l0).bind fun t183 => (if t183 = true then ((palletref02_Same.f bt175.1 l0).bind fun t184 => (palletlaw03_CrcTails.j0 k l0 t170 bt171.1 bt171.2 t184)) else (palletlaw03_CrcTails.j0 k l0 t170 bt171.1 bt171.2 true))) else (palletlaw03_CrcTails.j0 k l0 t170 bt171.1 bt171.2 true)) else (palletlaw03_CrcTails.j0 k l0 t170 bt171.1 bt171.2 false)))))) else (some false))
theorem palletlaw03_CrcTails.mono_l : ∀ k, (∀ y0 y1 y2 y3 y4, LeO (palletlaw03_CrcTails.j0 k y0 y1 y2 y3 y4) (palletlaw03_CrcTails.j0 (k + 1) y0 y1 y2 y3 y4))
 | 0 => fun _ _ _ _ _ r h => by simp [palletlaw03_CrcTails.j0] at h
 | k + 1 => by
  have ih0 := palletlaw03_CrcTails.mono_l k
  ·intro y0 y1 y2 y3 y4
   unfold palletlaw03_CrcTails.j0
   repeat' first
   | (with_reducible exact ih0 _ _ _ _ _)
   | (with_reducible exact LeO.refl _)
   | (with_reducible exact LeO.none _)
   | (with_reducible refine LeO.ite ?_ ?_)
   | (with_reducible refine LeO.bind ?_ (fun _ => ?_))
   | exact ih0 _ _ _ _ _
   | exact LeO.none _
   | refine LeO.ite ?_ ?_
   | refine LeO.bind ?_ (fun _ => ?_)
theorem palletlaw03_CrcTails.mono : ∀ a0 a1 k, LeO (palletlaw03_CrcTails.f k a0 a1) (palletlaw03_CrcTails.f (k + 1) a0 a1) := by
 intro a0 a1 k
 have ih0 := palletlaw03_CrcTails.mono_l k
 unfold palletlaw03_CrcTails.f
 repeat' first
   | (with_reducible exact ih0 _ _ _ _ _)
   | (with_reducible exact LeO.refl _)
   | (with_reducible exact LeO.none _)
   | (with_reducible refine LeO.ite ?_ ?_)
   | (with_reducible refine LeO.bind ?_ (fun _ => ?_))
   | exact ih0 _ _ _ _ _
   | exact LeO.none _
   | refine LeO.ite ?_ ?_
   | refine LeO.bind ?_ (fun _ => ?_)
set_option maxHeartbeats 8000000 in
set_option maxRecDepth 100000 in
theorem palletlaw03_CrcTails.calls (k : Nat) (A0 : Option Addr) (c0 : Nat) (l0 : List Int) (a1 : Int) (r : Bool) (w : World) (hr0 : Kd.C (Kd.int .u8) w A0 l0.length l0) (hc0 : l0.length ≤ c0) (hr_ : Aside0 (r = true)) (h : palletlaw03_CrcTails.f k l0 a1 = some r) :
  Calls Try.prog 5 #[.slice A0 l0.length c0, .int .i64 a1] w fun e w' => e = .returned (.bool r) ∧ Below w.heap.size w w' := by
 have HR0 := Aside0.mk hr0
 have HC0 := Aside0.mk hc0
 clear hr0 hc0
 have HB := Aside0.mk (Below.refl w.heap.size w)
 have H : ((palletlaw03_live.f).bind fun t170 => (if t170 = true then (if (l0.length : Int) > 5000 then (some t170) else ((crc_Seal24.f l0).bind fun bt171 => ((crc_Turn.f l0 a1).bind fun bt175 => ((crc_Turn.f bt175.1 a1).bind fun bt179 => (if bt175.2 = 0 then (if bt179.2 = 0 then ((palletref02_Same.f bt179.1 l0).bind fun t183 => (if t183 = true then ((palletref02_Same.f bt175.1 l0).bind fun t184 => (palletlaw03_CrcTails.j0 k l0 t170 bt171.1 bt171.2 t184)) else (palletlaw03_CrcTails.j0 k l0 t170 bt171.1 bt171.2 true))) else (palletlaw03_CrcTails.j0 k l0 t170 bt171.1 bt171.2 true)) else (palletlaw03_CrcTails.j0 k l0 t170 bt171.1 bt171.2 false)))))) else (some false))) = some r := h
 clear h
 replace H := Option.bind_eq_some_iff.mp H
 obtain ⟨t170, A30, H⟩ := H
 replace H : (if t170 = true then (if (l0.length : Int) > 5000 then (some t170) else ((crc_Seal24.f l0).bind fun bt171 => ((crc_Turn.f l0 a1).bind fun bt175 => ((crc_Turn.f bt175.1 a1).bind fun bt179 => (if bt175.2 = 0 then (if bt179.2 = 0 then ((palletref02_Same.f bt179.1 l0).bind fun t183 => (if t183 = true then ((palletref02_Same.f bt175.1 l0).bind fun t184 => (palletlaw03_CrcTails.j0 k l0 t170 bt171.1 bt171.2 t184)) else (palletlaw03_CrcTails.j0 k l0 t170 bt171.1 bt171.2 true))) else (palletlaw03_CrcTails.j0 k l0 t170 bt171.1 bt171.2 true)) else (palletlaw03_CrcTails.j0 k l0 t170 bt171.1 bt171.2 false)))))) else (some false)) = some r := H
 have A3 := Aside0.mk A30
 clear A30
 by_cases c4 : t170 = true
 ·subst c4
  have H1 : (if (l0.length : Int) > 5000 then (some true) else ((crc_Seal24.f l0).bind fun bt171 => ((crc_Turn.f l0 a1).bind fun bt175 => ((crc_Turn.f bt175.1 a1).bind fun bt179 => (if bt175.2 = 0 then (if bt179.2 = 0 then ((palletref02_Same.f bt179.1 l0).bind fun t183 => (if t183 = true then ((palletref02_Same.f bt175.1 l0).bind fun t184 => (palletlaw03_CrcTails.j0 k l0 true bt171.1 bt171.2 t184)) else (palletlaw03_CrcTails.j0 k l0 true bt171.1 bt171.2 true))) else (palletlaw03_CrcTails.j0 k l0 true bt171.1 bt171.2 true)) else (palletlaw03_CrcTails.j0 k l0 true bt171.1 bt171.2 false)))))) = some r := by rw [if_pos rfl] at H; exact H
  clear H
  have H := H1
  clear H1
  by_cases c5 : (l0.length : Int) > 5000
  ·rw [if_pos c5] at H
   have c5b0 : decide (5000 < (l0.length : Int)) = true := decide_eq_true c5
   have c5b1 : decide (5000 < l0.length) = true := decide_eq_true (by omega)
   clear c5
   obtain rfl := Option.some.inj H
   go_enter Try.func5, Try.ntmps5
   go_wp2_with (first | ((with_reducible refine gate_callee (f := 8) rfl ?_); refine goesL_ (some 12) rfl rfl Try.func8 (by kernel_rfl) rfl #[] rfl (by (try simp only [List.map_toArray, List.map_cons, List.map_nil]); first | done | rfl | (simp only [List.length_drop, List.length_take]; first | rfl | (rw [Nat.min_eq_left (Int.toNat_le.2 (of_decide_eq_true (by assumption)))]; rfl))) ?_; (with_reducible refine (palletlaw03_live.calls  true _ A3.out).mono ?_); rintro e w6 ⟨rfl, hb⟩; refine ⟨_, rfl, ?_⟩; have n0_ := Aside0.mk (below_step (by repeat (first | (with_reducible first | exact HB.out | apply below_alloc | apply pw_below_drewN | apply below_drew1) | exact HB.out)) hb); clear HB; have HB := n0_; clear n0_; (try clear hb); (try clear hb2); (try clear hk); (try clear hi)))
   go_ret
   exact ⟨by first | rfl | (simp [errW_none, errW_some] <;> rfl) | (simp [*, errW_none, errW_some] <;> rfl), by repeat (first | (with_reducible first | exact HB.out | apply below_alloc | apply pw_below_drewN | apply below_drew1) | exact HB.out)⟩
  ·rw [if_neg c5] at H
   have c5b0 : decide (5000 < (l0.length : Int)) = false := decide_eq_false c5
   have c5b1 : decide (5000 < l0.length) = false := decide_eq_false (by omega)
   clear c5
   replace H := Option.bind_eq_some_iff.mp H
   obtain ⟨⟨t171, t172⟩, A70, H⟩ := H
   replace H : ((crc_Turn.f l0 a1).bind fun bt175 => ((crc_Turn.f bt175.1 a1).bind fun bt179 => (if bt175.2 = 0 then (if bt179.2 = 0 then ((palletref02_Same.f bt179.1 l0).bind fun t183 => (if t183 = true then ((palletref02_Same.f bt175.1 l0).bind fun t184 => (palletlaw03_CrcTails.j0 k l0 true t171 t172 t184)) else (palletlaw03_CrcTails.j0 k l0 true t171 t172 true))) else (palletlaw03_CrcTails.j0 k l0 true t171 t172 true)) else (palletlaw03_CrcTails.j0 k l0 true t171 t172 false)))) = some r := H
   have A7 := Aside0.mk A70
   clear A70
   replace H := Option.bind_eq_some_iff.mp H
   obtain ⟨⟨t175, t176⟩, A80, H⟩ := H
   replace H : ((crc_Turn.f t175 a1).bind fun bt179 => (if t176 = 0 then (if bt179.2 = 0 then ((palletref02_Same.f bt179.1 l0).bind fun t183 => (if t183 = true then ((palletref02_Same.f t175 l0).bind fun t184 => (palletlaw03_CrcTails.j0 k l0 true t171 t172 t184)) else (palletlaw03_CrcTails.j0 k l0 true t171 t172 true))) else (palletlaw03_CrcTails.j0 k l0 true t171 t172 true)) else (palletlaw03_CrcTails.j0 k l0 true t171 t172 false))) = some r := H
   have A8 := Aside0.mk A80
   clear A80
   replace H := Option.bind_eq_some_iff.mp H
   obtain ⟨⟨t179, t180⟩, A90, H⟩ := H
   replace H : (if t176 = 0 then (if t180 = 0 then ((palletref02_Same.f t179 l0).bind fun t183 => (if t183 = true then ((palletref02_Same.f t175 l0).bind fun t184 => (palletlaw03_CrcTails.j0 k l0 true t171 t172 t184)) else (palletlaw03_CrcTails.j0 k l0 true t171 t172 true))) else (palletlaw03_CrcTails.j0 k l0 true t171 t172 true)) else (palletlaw03_CrcTails.j0 k l0 true t171 t172 false)) = some r := H
   have A9 := Aside0.mk A90
   clear A90
   have HC10 := Aside0.mk H
   clear H
   go_enter Try.func5, Try.ntmps5
   go_upto_region 9 with (first | ((with_reducible refine gate_callee (f := 8) rfl ?_); refine goesL_ (some 12) rfl rfl Try.func8 (by kernel_rfl) rfl #[] rfl (by (try simp only [List.map_toArray, List.map_cons, List.map_nil]); first | done | rfl | (simp only [List.length_drop, List.length_take]; first | rfl | (rw [Nat.min_eq_left (Int.toNat_le.2 (of_decide_eq_true (by assumption)))]; rfl))) ?_; (with_reducible refine (palletlaw03_live.calls  true _ A3.out).mono ?_); rintro e w11 ⟨rfl, hb⟩; refine ⟨_, rfl, ?_⟩; have n0_ := Aside0.mk (below_step (by repeat (first | (with_reducible first | exact HB.out | apply below_alloc | apply pw_below_drewN | apply below_drew1) | exact HB.out)) hb); clear HB; have HB := n0_; clear n0_; (try clear hb); (try clear hb2); (try clear hk); (try clear hi)) | ((with_reducible refine gate_callee (f := 16) rfl ?_); refine goesL_ (some 21) rfl rfl Try.func16 (by kernel_rfl) rfl #[.slice A0 l0.length c0] rfl (by (try simp only [List.map_toArray, List.map_cons, List.map_nil]); first | done | rfl | (simp only [List.length_drop, List.length_take]; first | rfl | (rw [Nat.min_eq_left (Int.toNat_le.2 (of_decide_eq_true (by assumption)))]; rfl))) ?_; (with_reducible refine (crc_Seal24.calls _ _ l0 t171 t172 _ ?side1 ?side2 A7.out).mono ?_); (case side1 => repeat (first | exact (Kd.C_below HR0.out HB.out) | (with_reducible refine Kd.C_alloc ?_ _) | (with_reducible refine Kd.C_drewN ?_ _) | (with_reducible refine Kd.C_drew ?_))); (case side2 => exact HC0.out); rintro e w12 ⟨v173, rfl, ho0, hb⟩; refine ⟨_, rfl, ?_⟩; have n0_ := Aside0.mk (Kd.R_lower ho0 (below_size (by repeat (first | (with_reducible first | exact HB.out | apply below_alloc | apply pw_below_drewN | apply below_drew1) | exact HB.out)))); have n1_ := Aside0.mk (below_step (by repeat (first | (with_reducible first | exact HB.out | apply below_alloc | apply pw_below_drewN | apply below_drew1) | exact HB.out)) hb); clear HB; have HO174 := n0_; have HB := n1_; clear n0_ n1_; (try clear hb); (try clear hb2); (try clear hk); (try clear hi); (try clear ho0)) | ((with_reducible refine gate_callee (f := 11) rfl ?_); refine goesL_ (some 27) rfl rfl Try.func11 (by kernel_rfl) rfl #[.slice A0 l0.length c0, .int .i64 a1] rfl (by (try simp only [List.map_toArray, List.map_cons, List.map_nil]); first | done | rfl | (simp only [List.length_drop, List.length_take]; first | rfl | (rw [Nat.min_eq_left (Int.toNat_le.2 (of_decide_eq_true (by assumption)))]; rfl))) ?_; (with_reducible refine (crc_Turn.calls _ _ l0 a1 t175 t176 _ ?side1 ?side2 A8.out).mono ?_); (case side1 => repeat (first | exact (Kd.C_below HR0.out HB.out) | (with_reducible refine Kd.C_alloc ?_ _) | (with_reducible refine Kd.C_drewN ?_ _) | (with_reducible refine Kd.C_drew ?_))); (case side2 => exact HC0.out); rintro e w13 ⟨v177, rfl, ho0, hb⟩; refine ⟨_, rfl, ?_⟩; have n0_ := Aside0.mk (Kd.R_elder' (by (with_reducible repeat (first | apply Kd.R_alloc | apply Kd.R_drewN | apply Kd.R_drew)); exact HO174.out) (Kd.R_base ho0) hb); have n1_ := Aside0.mk (Kd.R_lower (Kd.R_new' ho0 (Kd.R_lt (by (with_reducible repeat (first | apply Kd.R_alloc | apply Kd.R_drewN | apply Kd.R_drew)); exact HO174.out))) (below_size (by repeat (first | (with_reducible first | exact HB.out | apply below_alloc | apply pw_below_drewN | apply below_drew1) | exact HB.out)))); have n2_ := Aside0.mk (below_step (by repeat (first | (with_reducible first | exact HB.out | apply below_alloc | apply pw_below_drewN | apply below_drew1) | exact HB.out)) hb); clear HO174; clear HB; have HO174 := n0_; have HO178 := n1_; have HB := n2_; clear n0_ n1_ n2_; (try clear hb); (try clear hb2); (try clear hk); (try clear hi); (try clear ho0); obtain ⟨Ao14, co14, eo14⟩ := Kd.R_slice HO178.out; subst eo14) | ((with_reducible refine gate_callee (f := 11) rfl ?_); refine goesL_ (some 33) rfl rfl Try.func11 (by kernel_rfl) rfl #[.slice Ao14 t175.length co14, .int .i64 a1] rfl (by (try simp only [List.map_toArray, List.map_cons, List.map_nil]); first | done | rfl | (simp only [List.length_drop, List.length_take]; first | rfl | (rw [Nat.min_eq_left (Int.toNat_le.2 (of_decide_eq_true (by assumption)))]; rfl))) ?_; (with_reducible refine (crc_Turn.calls _ _ t175 a1 t179 t180 _ ?side1 ?side2 A9.out).mono ?_); (case side1 => repeat (first | exact (Kd.R_reads' HO178.out).2.2 | (with_reducible refine Kd.C_alloc ?_ _) | (with_reducible refine Kd.C_drewN ?_ _) | (with_reducible refine Kd.C_drew ?_))); (case side2 => exact (Kd.R_reads' HO178.out).2.1); rintro e w15 ⟨v181, rfl, ho0, hb⟩; refine ⟨_, rfl, ?_⟩; have n0_ := Aside0.mk (Kd.R_elder' (by (with_reducible repeat (first | apply Kd.R_alloc | apply Kd.R_drewN | apply Kd.R_drew)); exact HO174.out) (Kd.R_base ho0) hb); have n1_ := Aside0.mk (Kd.R_elder' (by (with_reducible repeat (first | apply Kd.R_alloc | apply Kd.R_drewN | apply Kd.R_drew)); exact HO178.out) (Kd.R_base ho0) hb); have n2_ := Aside0.mk (Kd.R_lower (Kd.R_new' (Kd.R_new' ho0 (Kd.R_lt (by (with_reducible repeat (first | apply Kd.R_alloc | apply Kd.R_drewN | apply Kd.R_drew)); exact HO174.out))) (Kd.R_lt (by (with_reducible repeat (first | apply Kd.R_alloc | apply Kd.R_drewN | apply Kd.R_drew)); exact HO178.out))) (below_size (by repeat (first | (with_reducible first | exact HB.out | apply below_alloc | apply pw_below_drewN | apply below_drew1) | exact HB.out)))); have n3_ := Aside0.mk (below_step (by repeat (first | (with_reducible first | exact HB.out | apply below_alloc | apply pw_below_drewN | apply below_drew1) | exact HB.out)) hb); clear HO174; clear HO178; clear HB; have HO174 := n0_; have HO178 := n1_; have HO182 := n2_; have HB := n3_; clear n0_ n1_ n2_ n3_; (try clear hb); (try clear hb2); (try clear hk); (try clear hi); (try clear ho0)))
   (try simp only [Act.put, List.setIfInBounds_toArray, List.set_cons_zero, List.set_cons_succ])
   go_cut [52] (fun v52 wc => ∃ (kq : Nat) (x52_9 : Bool), v52 = .bool x52_9 ∧ Aside0 (palletlaw03_CrcTails.j0 kq l0 true t171 t172 x52_9 = some r) ∧ Aside0 (kq ≤ k) ∧ Aside0 (Kd.R (Kd.int .u8) 5 wc w.heap.size (fun _ => True) v173 t171) ∧ Aside0 (Below w.heap.size w wc))
   case first =>
    have H := HC10.out
    clear HC10
    by_cases c16 : t176 = 0
    ·rw [if_pos c16] at H
     have c16b0 : (t176 == 0) = true := beq_iff_eq.mpr c16
     have c16b1 : (t176 != 0) = false := bne_eq_false_iff_eq.mpr c16
     clear c16
     (first | rw [c16b0] | (simp only [i64_w, i32_w]; rw [c16b0]) | skip)
     by_cases c17 : t180 = 0
     ·rw [if_pos c17] at H
      have c17b0 : (t180 == 0) = true := beq_iff_eq.mpr c17
      have c17b1 : (t180 != 0) = false := bne_eq_false_iff_eq.mpr c17
      clear c17
      replace H := Option.bind_eq_some_iff.mp H
      obtain ⟨t183, A180, H⟩ := H
      replace H : (if t183 = true then ((palletref02_Same.f t175 l0).bind fun t184 => (palletlaw03_CrcTails.j0 k l0 true t171 t172 t184)) else (palletlaw03_CrcTails.j0 k l0 true t171 t172 true)) = some r := H
      have A18 := Aside0.mk A180
      clear A180
      by_cases c19 : t183 = true
      ·subst c19
       have H1 : ((palletref02_Same.f t175 l0).bind fun t184 => (palletlaw03_CrcTails.j0 k l0 true t171 t172 t184)) = some r := by rw [if_pos rfl] at H; exact H
       clear H
       have H := H1
       clear H1
       replace H := Option.bind_eq_some_iff.mp H
       obtain ⟨t184, A200, H⟩ := H
       replace H : (palletlaw03_CrcTails.j0 k l0 true t171 t172 t184) = some r := H
       have A20 := Aside0.mk A200
       clear A200
       have H' := Aside0.mk H
       clear H
       obtain ⟨Ao21, co21, eo21⟩ := Kd.R_slice HO182.out
       subst eo21
       go_wp2_with (first | (go_at_call 15; (with_reducible refine (palletref02_Same.calls _ _ t179 _ _ l0 true _ ?side1 ?side2 ?side3 ?side4 A18.out).mono ?_); (case side1 => repeat (first | exact (Kd.R_reads' HO182.out).2.2 | (with_reducible refine Kd.C_alloc ?_ _) | (with_reducible refine Kd.C_drewN ?_ _) | (with_reducible refine Kd.C_drew ?_))); (case side2 => exact (Kd.R_reads' HO182.out).2.1); (case side3 => repeat (first | exact (Kd.C_below HR0.out HB.out) | (with_reducible refine Kd.C_alloc ?_ _) | (with_reducible refine Kd.C_drewN ?_ _) | (with_reducible refine Kd.C_drew ?_))); (case side4 => exact HC0.out); rintro e w' ⟨rfl, ⟨nd, rfl⟩⟩) | (go_at_call 15; (with_reducible refine (palletref02_Same.calls _ _ t175 _ _ l0 t184 _ ?side1 ?side2 ?side3 ?side4 A20.out).mono ?_); (case side1 => repeat (first | exact (Kd.R_reads' HO178.out).2.2 | (with_reducible refine Kd.C_alloc ?_ _) | (with_reducible refine Kd.C_drewN ?_ _) | (with_reducible refine Kd.C_drew ?_))); (case side2 => exact (Kd.R_reads' HO178.out).2.1); (case side3 => repeat (first | exact (Kd.C_below HR0.out (by repeat (first | (with_reducible first | exact HB.out | apply below_alloc | apply pw_below_drewN | apply below_drew1) | exact HB.out))) | (with_reducible refine Kd.C_alloc ?_ _) | (with_reducible refine Kd.C_drewN ?_ _) | (with_reducible refine Kd.C_drew ?_))); (case side4 => exact HC0.out); rintro e w' ⟨rfl, ⟨nd, rfl⟩⟩))
       go_meet
       case rel => exact ⟨_, (t184), (by first | rfl | (simp; done) | (simp [*]; done)), H', ⟨by first | omega | exact Nat.le_refl _⟩, ⟨by (with_reducible repeat (first | apply Kd.R_alloc | apply Kd.R_drewN | apply Kd.R_drew)); exact Kd.R_mono HO174.out (fun _ hk => trivial)⟩, ⟨by repeat (first | (with_reducible first | exact HB.out | apply below_alloc | apply pw_below_drewN | apply below_drew1) | exact HB.out)⟩⟩
      ·replace c19 := Bool.eq_false_iff.mpr c19
       subst c19
       have H1 : (palletlaw03_CrcTails.j0 k l0 true t171 t172 true) = some r := by rw [if_neg (show ¬ (false = true) by decide)] at H; exact H
       clear H
       have H := H1
       clear H1
       have H' := Aside0.mk H
       clear H
       obtain ⟨Ao22, co22, eo22⟩ := Kd.R_slice HO182.out
       subst eo22
       go_wp2_with (first | (go_at_call 15; (with_reducible refine (palletref02_Same.calls _ _ t179 _ _ l0 false _ ?side1 ?side2 ?side3 ?side4 A18.out).mono ?_); (case side1 => repeat (first | exact (Kd.R_reads' HO182.out).2.2 | (with_reducible refine Kd.C_alloc ?_ _) | (with_reducible refine Kd.C_drewN ?_ _) | (with_reducible refine Kd.C_drew ?_))); (case side2 => exact (Kd.R_reads' HO182.out).2.1); (case side3 => repeat (first | exact (Kd.C_below HR0.out HB.out) | (with_reducible refine Kd.C_alloc ?_ _) | (with_reducible refine Kd.C_drewN ?_ _) | (with_reducible refine Kd.C_drew ?_))); (case side4 => exact HC0.out); rintro e w' ⟨rfl, ⟨nd, rfl⟩⟩))
       go_meet
       case rel => exact ⟨_, (true), (by first | rfl | (simp; done) | (simp [*]; done)), H', ⟨by first | omega | exact Nat.le_refl _⟩, ⟨by (with_reducible repeat (first | apply Kd.R_alloc | apply Kd.R_drewN | apply Kd.R_drew)); exact Kd.R_mono HO174.out (fun _ hk => trivial)⟩, ⟨by repeat (first | (with_reducible first | exact HB.out | apply below_alloc | apply pw_below_drewN | apply below_drew1) | exact HB.out)⟩⟩
     ·rw [if_neg c17] at H
      have c17b0 : (t180 == 0) = false := beq_eq_false_iff_ne.mpr c17
      have c17b1 : (t180 != 0) = true := bne_iff_ne.mpr c17
      have H' := Aside0.mk H
      clear H
      go_wp2
      go_meet
      case rel => exact ⟨_, (true), (by first | rfl | (simp; done) | (simp [*]; done)), H', ⟨by first | omega | exact Nat.le_refl _⟩, ⟨by (with_reducible repeat (first | apply Kd.R_alloc | apply Kd.R_drewN | apply Kd.R_drew)); exact Kd.R_mono HO174.out (fun _ hk => trivial)⟩, ⟨by repeat (first | (with_reducible first | exact HB.out | apply below_alloc | apply pw_below_drewN | apply below_drew1) | exact HB.out)⟩⟩
    ·rw [if_neg c16] at H
     have c16b0 : (t176 == 0) = false := beq_eq_false_iff_ne.mpr c16
     have c16b1 : (t176 != 0) = true := bne_iff_ne.mpr c16
     (first | rw [c16b0] | (simp only [i64_w, i32_w]; rw [c16b0]) | skip)
     have H' := Aside0.mk H
     clear H
     go_wp2
     go_meet
     case rel => exact ⟨_, (false), (by first | rfl | (simp; done) | (simp [*]; done)), H', ⟨by first | omega | exact Nat.le_refl _⟩, ⟨by (with_reducible repeat (first | apply Kd.R_alloc | apply Kd.R_drewN | apply Kd.R_drew)); exact Kd.R_mono HO174.out (fun _ hk => trivial)⟩, ⟨by repeat (first | (with_reducible first | exact HB.out | apply below_alloc | apply pw_below_drewN | apply below_drew1) | exact HB.out)⟩⟩
   case rest =>
    clear HC10
    try clear c1
    try clear p2
    try clear c4
    try clear c5
    try clear c5b0
    try clear c5b1
    try clear c8
    try clear c11
    try clear c16
    try clear c16b0
    try clear c16b1
    try clear c17
    try clear c17b0
    try clear c17b1
    try clear c19
    obtain ⟨kq, x52_9, rfl, HA, HJ9, HO_6, HB⟩ := hcut
    cases kq with
    | zero => exact absurd HA.out (by simp [palletlaw03_CrcTails.j0])
    | succ kj9 =>
     have H := HA.out
     clear HA
     simp only [palletlaw03_CrcTails.j0] at H
     by_cases c23 : x52_9 = true
     ·subst c23
      have H1 : (some false) = some r := by rw [if_pos rfl] at H; exact H
      clear H
      have H := H1
      clear H1
      obtain rfl := Option.some.inj H
      exact absurd hr_.out (by decide)
     ·replace c23 := Bool.eq_false_iff.mpr c23
      subst c23
      have H1 : (if true = true then (if t172 = 0 then ((crc_Sum24.f t171).bind fun t185 => (if t185 = 0 then ((crc_Sum24.f l0).bind fun t186 => (some (decide (t186 < 16777216)))) else (some false))) else (some false)) else (some false)) = some r := by rw [if_neg (show ¬ (false = true) by decide)] at H; exact H
      clear H
      have H := H1
      clear H1
      have H1 : (if t172 = 0 then ((crc_Sum24.f t171).bind fun t185 => (if t185 = 0 then ((crc_Sum24.f l0).bind fun t186 => (some (decide (t186 < 16777216)))) else (some false))) else (some false)) = some r := by first | (rw [if_pos rfl] at H; exact H) | exact H
      clear H
      have H := H1
      clear H1
      by_cases c24 : t172 = 0
      ·rw [if_pos c24] at H
       have c24b0 : (t172 == 0) = true := beq_iff_eq.mpr c24
       have c24b1 : (t172 != 0) = false := bne_eq_false_iff_eq.mpr c24
       clear c24
       replace H := Option.bind_eq_some_iff.mp H
       obtain ⟨t185, A250, H⟩ := H
       replace H : (if t185 = 0 then ((crc_Sum24.f l0).bind fun t186 => (some (decide (t186 < 16777216)))) else (some false)) = some r := H
       have A25 := Aside0.mk A250
       clear A250
       by_cases c26 : t185 = 0
       ·rw [if_pos c26] at H
        have c26b0 : (t185 == 0) = true := beq_iff_eq.mpr c26
        have c26b1 : (t185 != 0) = false := bne_eq_false_iff_eq.mpr c26
        clear c26
        replace H := Option.bind_eq_some_iff.mp H
        obtain ⟨t186, A270, H⟩ := H
        replace H : (some (decide (t186 < 16777216))) = some r := H
        have A27 := Aside0.mk A270
        clear A270
        obtain rfl := Option.some.inj H
        obtain ⟨Ao28, co28, eo28⟩ := Kd.R_slice HO_6.out
        subst eo28
        go_wp2_with (first | (go_at_call 9; (with_reducible refine (crc_Sum24.calls _ _ t171 t185 _ ?side1 ?side2 A25.out).mono ?_); (case side1 => repeat (first | exact (Kd.R_reads' HO_6.out).2.2 | (with_reducible refine Kd.C_alloc ?_ _) | (with_reducible refine Kd.C_drewN ?_ _) | (with_reducible refine Kd.C_drew ?_))); (case side2 => exact (Kd.R_reads' HO_6.out).2.1); rintro e w29 ⟨rfl, hb⟩; have n0_ := Aside0.mk (Kd.R_below (by (with_reducible repeat (first | apply Kd.R_alloc | apply Kd.R_drewN | apply Kd.R_drew)); exact HO_6.out) hb); have n1_ := Aside0.mk (below_step (by repeat (first | (with_reducible first | exact HB.out | apply below_alloc | apply pw_below_drewN | apply below_drew1) | exact HB.out)) hb); clear HO_6; clear HB; have HO_6 := n0_; have HB := n1_; clear n0_ n1_; (try clear hb); (try clear hb2); (try clear hk); (try clear hi)) | (go_at_call 9; (with_reducible refine (crc_Sum24.calls _ _ l0 t186 _ ?side1 ?side2 A27.out).mono ?_); (case side1 => repeat (first | exact (Kd.C_below HR0.out HB.out) | (with_reducible refine Kd.C_alloc ?_ _) | (with_reducible refine Kd.C_drewN ?_ _) | (with_reducible refine Kd.C_drew ?_))); (case side2 => exact HC0.out); rintro e w30 ⟨rfl, hb⟩; have n0_ := Aside0.mk (Kd.R_below (by (with_reducible repeat (first | apply Kd.R_alloc | apply Kd.R_drewN | apply Kd.R_drew)); exact HO_6.out) hb); have n1_ := Aside0.mk (below_step (by repeat (first | (with_reducible first | exact HB.out | apply below_alloc | apply pw_below_drewN | apply below_drew1) | exact HB.out)) hb); clear HO_6; clear HB; have HO_6 := n0_; have HB := n1_; clear n0_ n1_; (try clear hb); (try clear hb2); (try clear hk); (try clear hi)))
        go_ret
        exact ⟨by first | rfl | (simp [errW_none, errW_some] <;> rfl) | (simp [*, errW_none, errW_some] <;> rfl), by repeat (first | (with_reducible first | exact HB.out | apply below_alloc | apply pw_below_drewN | apply below_drew1) | exact HB.out)⟩
       ·rw [if_neg c26] at H
        have c26b0 : (t185 == 0) = false := beq_eq_false_iff_ne.mpr c26
        have c26b1 : (t185 != 0) = true := bne_iff_ne.mpr c26
        obtain rfl := Option.some.inj H
        exact absurd hr_.out (by decide)
      ·rw [if_neg c24] at H
       have c24b0 : (t172 == 0) = false := beq_eq_false_iff_ne.mpr c24
       have c24b1 : (t172 != 0) = true := bne_iff_ne.mpr c24
       obtain rfl := Option.some.inj H
       exact absurd hr_.out (by decide)
 ·replace c4 := Bool.eq_false_iff.mpr c4
  subst c4
  have H1 : (some false) = some r := by rw [if_neg (show ¬ (false = true) by decide)] at H; exact H
  clear H
  have H := H1
  clear H1
  obtain rfl := Option.some.inj H
  exact absurd hr_.out (by decide)

end Go.Proofs.Ytjohinenaamdcaa.Print
