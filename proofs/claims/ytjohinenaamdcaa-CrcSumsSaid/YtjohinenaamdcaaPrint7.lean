-- PRINTED by print.py (a twelfth state) out of the translation. Not trusted: Lean checks it.
import Derived.Test.YtjohinenaamdcaaPrint0
import Derived.Test.YtjohinenaamdcaaPrint1
import Derived.Test.YtjohinenaamdcaaPrint2
import Derived.Test.YtjohinenaamdcaaPrint4
import Derived.Test.YtjohinenaamdcaaPrint5
import Derived.Test.YtjohinenaamdcaaPrint6
namespace Go.Proofs.Ytjohinenaamdcaa.Print
open Go.RowKit Go.Proofs.YtjohinenaamdcaaW.PrintWords Go.Proofs.YtjohinenaamdcaaW.PrintLast Go.Proofs.YtjohinenaamdcaaW.PrintMore Go.Proofs.YtjohinenaamdcaaX
attribute [local go_sem] str_lss str_geq max2_int min2_int max_two min_two max_three min_three max_four min_four   -- for this text's walks alone
set_option linter.unusedVariables false
set_option linter.unusedSimpArgs false

/-! ### palletlaw03_CrcSums: function 4 -/
def palletlaw03_CrcSums.f (k : Nat) (l0 : List Int) (a1 : Int) : Option (Bool) := (palletlaw03_live.f).bind fun t152 => (if t152 = true then (if (l0.length : Int) > 5000 then (some t152) else (if ([] : List Int).length + l0.length < 140737488355328 then ((crc_Turn.f l0 a1).bind fun bt156 => ((palletref03_Turn.f l0 a1).bind fun bt160 => ((crc_Sum24.f l0).bind fun t164 => ((palletref03_Sum24.f k l0).bind fun t165 => (if t164 = t165 then ((crc_Sum32.f l0).bind fun t166 => ((palletref03_Sum32.f k l0).bind fun t167 => (if t166 = t167 then ((palletref02_Same.f bt156.1 bt160.1).bind fun t168 => (if t168 = true then (if bt156.2 = bt160.2 then ((palletref02_Same.f l0 (([] : List Int) ++ l0)).bind fun t169 => (some t169)) else (some false)) else (some false))) else (some false)))) else (some false)))))) else (none))) else (some false))
theorem palletlaw03_CrcSums.mono : ∀ a0 a1 k, LeO (palletlaw03_CrcSums.f k a0 a1) (palletlaw03_CrcSums.f (k + 1) a0 a1) := by
 intro a0 a1 k
 unfold palletlaw03_CrcSums.f
 repeat' first
   | (with_reducible exact palletref03_Sum24.mono _ _)
   | (with_reducible exact palletref03_Sum32.mono _ _)
   | (with_reducible exact LeO.refl _)
   | (with_reducible exact LeO.none _)
   | (with_reducible refine LeO.ite ?_ ?_)
   | (with_reducible refine LeO.bind ?_ (fun _ => ?_))
   | exact palletref03_Sum24.mono _ _
   | exact palletref03_Sum32.mono _ _
   | exact LeO.none _
   | refine LeO.ite ?_ ?_
   | refine LeO.bind ?_ (fun _ => ?_)
set_option maxHeartbeats 8000000 in
set_option maxRecDepth 100000 in
theorem palletlaw03_CrcSums.calls (k : Nat) (A0 : Option Addr) (c0 : Nat) (l0 : List Int) (a1 : Int) (r : Bool) (w : World) (hr0 : Kd.C (Kd.int .u8) w A0 l0.length l0) (hc0 : l0.length ≤ c0) (hr_ : Aside0 (r = true)) (h : palletlaw03_CrcSums.f k l0 a1 = some r) :
  Calls Try.prog 4 #[.slice A0 l0.length c0, .int .i64 a1] w fun e w' => e = .returned (.bool r) ∧ Below w.heap.size w w' := by
 have HR0 := Aside0.mk hr0
 have HC0 := Aside0.mk hc0
 clear hr0 hc0
 have HB := Aside0.mk (Below.refl w.heap.size w)
 have H : ((palletlaw03_live.f).bind fun t152 => (if t152 = true then (if (l0.length : Int) > 5000 then (some t152) else (if ([] : List Int).length + l0.length < 140737488355328 then ((crc_Turn.f l0 a1).bind fun bt156 => ((palletref03_Turn.f l0 a1).bind fun bt160 => ((crc_Sum24.f l0).bind fun t164 => ((palletref03_Sum24.f k l0).bind fun t165 => (if t164 = t165 then ((crc_Sum32.f l0).bind fun t166 => ((palletref03_Sum32.f k l0).bind fun t167 => (if t166 = t167 then ((palletref02_Same.f bt156.1 bt160.1).bind fun t168 => (if t168 = true then (if bt156.2 = bt160.2 then ((palletref02_Same.f l0 (([] : List Int) ++ l0)).bind fun t169 => (some t169)) else (some false)) else (some false))) else (some false)))) else (some false)))))) else (none))) else (some false))) = some r := h
 clear h
 replace H := Option.bind_eq_some_iff.mp H
 obtain ⟨t152, A30, H⟩ := H
 replace H : (if t152 = true then (if (l0.length : Int) > 5000 then (some t152) else (if ([] : List Int).length + l0.length < 140737488355328 then ((crc_Turn.f l0 a1).bind fun bt156 => ((palletref03_Turn.f l0 a1).bind fun bt160 => ((crc_Sum24.f l0).bind fun t164 => ((palletref03_Sum24.f k l0).bind fun t165 => (if t164 = t165 then ((crc_Sum32.f l0).bind fun t166 => ((palletref03_Sum32.f k l0).bind fun t167 => (if t166 = t167 then ((palletref02_Same.f bt156.1 bt160.1).bind fun t168 => (if t168 = true then (if bt156.2 = bt160.2 then ((palletref02_Same.f l0 (([] : List Int) ++ l0)).bind fun t169 => (some t169)) else (some false)) else (some false))) else (some false)))) else (some false)))))) else (none))) else (some false)) = some r := H
 have A3 := Aside0.mk A30
 clear A30
 by_cases c4 : t152 = true
 ·subst c4
  have H1 : (if (l0.length : Int) > 5000 then (some true) else (if ([] : List Int).length + l0.length < 140737488355328 then ((crc_Turn.f l0 a1).bind fun bt156 => ((palletref03_Turn.f l0 a1).bind fun bt160 => ((crc_Sum24.f l0).bind fun t164 => ((palletref03_Sum24.f k l0).bind fun t165 => (if t164 = t165 then ((crc_Sum32.f l0).bind fun t166 => ((palletref03_Sum32.f k l0).bind fun t167 => (if t166 = t167 then ((palletref02_Same.f bt156.1 bt160.1).bind fun t168 => (if t168 = true then (if bt156.2 = bt160.2 then ((palletref02_Same.f l0 (([] : List Int) ++ l0)).bind fun t169 => (some t169)) else (some false)) else (some false))) else (some false)))) else (some false)))))) else (none))) = some r := by rw [if_pos rfl] at H; exact H
  clear H
  have H := H1
  clear H1
  by_cases c5 : (l0.length : Int) > 5000
  ·rw [if_pos c5] at H
   have c5b0 : decide (5000 < (l0.length : Int)) = true := decide_eq_true c5
   have c5b1 : decide (5000 < l0.length) = true := decide_eq_true (by omega)
   clear c5
   obtain rfl := Option.some.inj H
   go_enter Try.func4, Try.ntmps4
   go_wp2_with (first | ((with_reducible refine gate_callee (f := 8) rfl ?_); refine goesL_ (some 11) rfl rfl Try.func8 (by kernel_rfl) rfl #[] rfl (by (try simp only [List.map_toArray, List.map_cons, List.map_nil]); first | done | rfl | (simp only [List.length_drop, List.length_take]; first | rfl | (rw [Nat.min_eq_left (Int.toNat_le.2 (of_decide_eq_true (by assumption)))]; rfl))) ?_; (with_reducible refine (palletlaw03_live.calls  true _ A3.out).mono ?_); rintro e w6 ⟨rfl, hb⟩; refine ⟨_, rfl, ?_⟩; have n0_ := Aside0.mk (below_step (by repeat (first | (with_reducible first | exact HB.out | apply below_alloc | apply pw_below_drewN | apply below_drew1) | exact HB.out)) hb); clear HB; have HB := n0_; clear n0_; (try clear hb); (try clear hb2); (try clear hk); (try clear hi)))
   go_ret
   exact ⟨by first | rfl | (simp [errW_none, errW_some] <;> rfl) | (simp [*, errW_none, errW_some] <;> rfl), by repeat (first | (with_reducible first | exact HB.out | apply below_alloc | apply pw_below_drewN | apply below_drew1) | exact HB.out)⟩
  ·rw [if_neg c5] at H
   have c5b0 : decide (5000 < (l0.length : Int)) = false := decide_eq_false c5
   have c5b1 : decide (5000 < l0.length) = false := decide_eq_false (by omega)
   clear c5
   by_cases c7 : ([] : List Int).length + l0.length < 140737488355328
   ·rw [if_pos c7] at H
    have LMc7 := Aside0.mk c7
    clear c7
    obtain ⟨y153, hy153⟩ : ∃ y_ : List Int, y_ = (([] : List Int) ++ l0) := ⟨_, rfl⟩
    replace H : ((crc_Turn.f l0 a1).bind fun bt156 => ((palletref03_Turn.f l0 a1).bind fun bt160 => ((crc_Sum24.f l0).bind fun t164 => ((palletref03_Sum24.f k l0).bind fun t165 => (if t164 = t165 then ((crc_Sum32.f l0).bind fun t166 => ((palletref03_Sum32.f k l0).bind fun t167 => (if t166 = t167 then ((palletref02_Same.f bt156.1 bt160.1).bind fun t168 => (if t168 = true then (if bt156.2 = bt160.2 then ((palletref02_Same.f l0 y153).bind fun t169 => (some t169)) else (some false)) else (some false))) else (some false)))) else (some false)))))) = some r := by first | (rw [hy153]; with_reducible exact H) | (have H2_ := (Option.bind_some _ _).symm.trans H; rw [hy153]; with_reducible exact H2_) | (have H2_ := (Option.bind_some _ _).symm.trans H; with_reducible exact H2_) | with_reducible exact H | (rw [hy153]; exact H) | exact H
    have Ny153 := Aside0.mk hy153
    clear hy153
    replace H := Option.bind_eq_some_iff.mp H
    obtain ⟨⟨t156, t157⟩, A80, H⟩ := H
    replace H : ((palletref03_Turn.f l0 a1).bind fun bt160 => ((crc_Sum24.f l0).bind fun t164 => ((palletref03_Sum24.f k l0).bind fun t165 => (if t164 = t165 then ((crc_Sum32.f l0).bind fun t166 => ((palletref03_Sum32.f k l0).bind fun t167 => (if t166 = t167 then ((palletref02_Same.f t156 bt160.1).bind fun t168 => (if t168 = true then (if t157 = bt160.2 then ((palletref02_Same.f l0 y153).bind fun t169 => (some t169)) else (some false)) else (some false))) else (some false)))) else (some false))))) = some r := H
    have A8 := Aside0.mk A80
    clear A80
    replace H := Option.bind_eq_some_iff.mp H
    obtain ⟨⟨t160, t161⟩, A90, H⟩ := H
    replace H : ((crc_Sum24.f l0).bind fun t164 => ((palletref03_Sum24.f k l0).bind fun t165 => (if t164 = t165 then ((crc_Sum32.f l0).bind fun t166 => ((palletref03_Sum32.f k l0).bind fun t167 => (if t166 = t167 then ((palletref02_Same.f t156 t160).bind fun t168 => (if t168 = true then (if t157 = t161 then ((palletref02_Same.f l0 y153).bind fun t169 => (some t169)) else (some false)) else (some false))) else (some false)))) else (some false)))) = some r := H
    have A9 := Aside0.mk A90
    clear A90
    replace H := Option.bind_eq_some_iff.mp H
    obtain ⟨t164, A100, H⟩ := H
    replace H : ((palletref03_Sum24.f k l0).bind fun t165 => (if t164 = t165 then ((crc_Sum32.f l0).bind fun t166 => ((palletref03_Sum32.f k l0).bind fun t167 => (if t166 = t167 then ((palletref02_Same.f t156 t160).bind fun t168 => (if t168 = true then (if t157 = t161 then ((palletref02_Same.f l0 y153).bind fun t169 => (some t169)) else (some false)) else (some false))) else (some false)))) else (some false))) = some r := H
    have A10 := Aside0.mk A100
    clear A100
    replace H := Option.bind_eq_some_iff.mp H
    obtain ⟨t165, A110, H⟩ := H
    replace H : (if t164 = t165 then ((crc_Sum32.f l0).bind fun t166 => ((palletref03_Sum32.f k l0).bind fun t167 => (if t166 = t167 then ((palletref02_Same.f t156 t160).bind fun t168 => (if t168 = true then (if t157 = t161 then ((palletref02_Same.f l0 y153).bind fun t169 => (some t169)) else (some false)) else (some false))) else (some false)))) else (some false)) = some r := H
    have A11 := Aside0.mk A110
    clear A110
    by_cases c12 : t164 = t165
    ·rw [if_pos c12] at H
     have c12b0 : (t164 == t165) = true := beq_iff_eq.mpr c12
     have c12b1 : (t164 != t165) = false := bne_eq_false_iff_eq.mpr c12
     clear c12
     replace H := Option.bind_eq_some_iff.mp H
     obtain ⟨t166, A130, H⟩ := H
     replace H : ((palletref03_Sum32.f k l0).bind fun t167 => (if t166 = t167 then ((palletref02_Same.f t156 t160).bind fun t168 => (if t168 = true then (if t157 = t161 then ((palletref02_Same.f l0 y153).bind fun t169 => (some t169)) else (some false)) else (some false))) else (some false))) = some r := H
     have A13 := Aside0.mk A130
     clear A130
     replace H := Option.bind_eq_some_iff.mp H
     obtain ⟨t167, A140, H⟩ := H
     replace H : (if t166 = t167 then ((palletref02_Same.f t156 t160).bind fun t168 => (if t168 = true then (if t157 = t161 then ((palletref02_Same.f l0 y153).bind fun t169 => (some t169)) else (some false)) else (some false))) else (some false)) = some r := H
     have A14 := Aside0.mk A140
     clear A140
     by_cases c15 : t166 = t167
     ·rw [if_pos c15] at H
      have c15b0 : (t166 == t167) = true := beq_iff_eq.mpr c15
      have c15b1 : (t166 != t167) = false := bne_eq_false_iff_eq.mpr c15
      clear c15
      replace H := Option.bind_eq_some_iff.mp H
      obtain ⟨t168, A160, H⟩ := H
      replace H : (if t168 = true then (if t157 = t161 then ((palletref02_Same.f l0 y153).bind fun t169 => (some t169)) else (some false)) else (some false)) = some r := H
      have A16 := Aside0.mk A160
      clear A160
      by_cases c17 : t168 = true
      ·subst c17
       have H1 : (if t157 = t161 then ((palletref02_Same.f l0 y153).bind fun t169 => (some t169)) else (some false)) = some r := by rw [if_pos rfl] at H; exact H
       clear H
       have H := H1
       clear H1
       by_cases c18 : t157 = t161
       ·rw [if_pos c18] at H
        have c18b0 : (t157 == t161) = true := beq_iff_eq.mpr c18
        have c18b1 : (t157 != t161) = false := bne_eq_false_iff_eq.mpr c18
        clear c18
        replace H := Option.bind_eq_some_iff.mp H
        obtain ⟨t169, A190, H⟩ := H
        replace H : (some t169) = some r := H
        have A19 := Aside0.mk A190
        clear A190
        obtain rfl := Option.some.inj H
        go_enter Try.func4, Try.ntmps4
        go_wp2_with (first | ((with_reducible refine gate_callee (f := 8) rfl ?_); refine goesL_ (some 11) rfl rfl Try.func8 (by kernel_rfl) rfl #[] rfl (by (try simp only [List.map_toArray, List.map_cons, List.map_nil]); first | done | rfl | (simp only [List.length_drop, List.length_take]; first | rfl | (rw [Nat.min_eq_left (Int.toNat_le.2 (of_decide_eq_true (by assumption)))]; rfl))) ?_; (with_reducible refine (palletlaw03_live.calls  true _ A3.out).mono ?_); rintro e w20 ⟨rfl, hb⟩; refine ⟨_, rfl, ?_⟩; have n0_ := Aside0.mk (below_step (by repeat (first | (with_reducible first | exact HB.out | apply below_alloc | apply pw_below_drewN | apply below_drew1) | exact HB.out)) hb); clear HB; have HB := n0_; clear n0_; (try clear hb); (try clear hb2); (try clear hk); (try clear hi)) | ((with_reducible refine gate_builtin (b := .append) (xs := #[.const (.slice none 0 0), .tmp 18]) rfl ?_); at_builtin; refine Kd.R_append_rows (Kd.int .u8) (w0 := w) w.heap.size rfl (.const (.slice none 0 0)) (.tmp 18) 22 5 (.int .u8 0) 1 rfl Try.underlying22 info5 rfl (by decide) (by omega) (.slice none 0 0) ([] : List Int) l0 _ _ _ (fun _ => True) (fun _ => False) rfl rfl ?aO ?aR (fun _ _ h => h) (fun _ h => h.elim) ?aF ?aB ?aS ?aL ?_; (case aR => repeat (first | exact (Kd.C_below HR0.out HB.out) | (with_reducible refine Kd.C_alloc ?_ _) | (with_reducible refine Kd.C_drewN ?_ _) | (with_reducible refine Kd.C_drew ?_))); (case aB => exact (by repeat (first | (with_reducible first | exact HB.out | apply below_alloc | apply pw_below_drewN | apply below_drew1) | exact HB.out))); (case aF => exact (fun _ _ => trivial)); (case aO => exact ((Kd.R_nil _ _ _ _ (fun _ => True)))); (case aS => exact (below_size (by repeat (first | (with_reducible first | exact HB.out | apply below_alloc | apply pw_below_drewN | apply below_drew1) | exact HB.out)))); (case aL => have := LMc7.out; omega); intro v154 w21 ho hb hg hat; rw [← Ny153.out] at ho; have n0_ := Aside0.mk (hb); have n1_ := Aside0.mk (ho); clear HB; have HB := n0_; have HO155 := n1_; clear n0_ n1_; clear ho hb hg hat) | ((with_reducible refine gate_callee (f := 11) rfl ?_); refine goesL_ (some 23) rfl rfl Try.func11 (by kernel_rfl) rfl #[.slice A0 l0.length c0, .int .i64 a1] rfl (by (try simp only [List.map_toArray, List.map_cons, List.map_nil]); first | done | rfl | (simp only [List.length_drop, List.length_take]; first | rfl | (rw [Nat.min_eq_left (Int.toNat_le.2 (of_decide_eq_true (by assumption)))]; rfl))) ?_; (with_reducible refine (crc_Turn.calls _ _ l0 a1 t156 t157 _ ?side1 ?side2 A8.out).mono ?_); (case side1 => repeat (first | exact (Kd.C_below HR0.out HB.out) | (with_reducible refine Kd.C_alloc ?_ _) | (with_reducible refine Kd.C_drewN ?_ _) | (with_reducible refine Kd.C_drew ?_))); (case side2 => exact HC0.out); rintro e w22 ⟨v158, rfl, ho0, hb⟩; refine ⟨_, rfl, ?_⟩; have n0_ := Aside0.mk (Kd.R_elder' (by (with_reducible repeat (first | apply Kd.R_alloc | apply Kd.R_drewN | apply Kd.R_drew)); exact HO155.out) (Kd.R_base ho0) hb); have n1_ := Aside0.mk (Kd.R_lower (Kd.R_new' ho0 (Kd.R_lt (by (with_reducible repeat (first | apply Kd.R_alloc | apply Kd.R_drewN | apply Kd.R_drew)); exact HO155.out))) (below_size (by repeat (first | (with_reducible first | exact HB.out | apply below_alloc | apply pw_below_drewN | apply below_drew1) | exact HB.out)))); have n2_ := Aside0.mk (below_step (by repeat (first | (with_reducible first | exact HB.out | apply below_alloc | apply pw_below_drewN | apply below_drew1) | exact HB.out)) hb); clear HO155; clear HB; have HO155 := n0_; have HO159 := n1_; have HB := n2_; clear n0_ n1_ n2_; (try clear hb); (try clear hb2); (try clear hk); (try clear hi); (try clear ho0)) | ((with_reducible refine gate_callee (f := 12) rfl ?_); refine goesL_ (some 29) rfl rfl Try.func12 (by kernel_rfl) rfl #[.slice A0 l0.length c0, .int .i64 a1] rfl (by (try simp only [List.map_toArray, List.map_cons, List.map_nil]); first | done | rfl | (simp only [List.length_drop, List.length_take]; first | rfl | (rw [Nat.min_eq_left (Int.toNat_le.2 (of_decide_eq_true (by assumption)))]; rfl))) ?_; (with_reducible refine (palletref03_Turn.calls _ _ l0 a1 t160 t161 _ ?side1 ?side2 A9.out).mono ?_); (case side1 => repeat (first | exact (Kd.C_below HR0.out HB.out) | (with_reducible refine Kd.C_alloc ?_ _) | (with_reducible refine Kd.C_drewN ?_ _) | (with_reducible refine Kd.C_drew ?_))); (case side2 => exact HC0.out); rintro e w23 ⟨v162, rfl, ho0, hb⟩; refine ⟨_, rfl, ?_⟩; have n0_ := Aside0.mk (Kd.R_elder' (by (with_reducible repeat (first | apply Kd.R_alloc | apply Kd.R_drewN | apply Kd.R_drew)); exact HO155.out) (Kd.R_base ho0) hb); have n1_ := Aside0.mk (Kd.R_elder' (by (with_reducible repeat (first | apply Kd.R_alloc | apply Kd.R_drewN | apply Kd.R_drew)); exact HO159.out) (Kd.R_base ho0) hb); have n2_ := Aside0.mk (Kd.R_lower (Kd.R_new' (Kd.R_new' ho0 (Kd.R_lt (by (with_reducible repeat (first | apply Kd.R_alloc | apply Kd.R_drewN | apply Kd.R_drew)); exact HO155.out))) (Kd.R_lt (by (with_reducible repeat (first | apply Kd.R_alloc | apply Kd.R_drewN | apply Kd.R_drew)); exact HO159.out))) (below_size (by repeat (first | (with_reducible first | exact HB.out | apply below_alloc | apply pw_below_drewN | apply below_drew1) | exact HB.out)))); have n3_ := Aside0.mk (below_step (by repeat (first | (with_reducible first | exact HB.out | apply below_alloc | apply pw_below_drewN | apply below_drew1) | exact HB.out)) hb); clear HO155; clear HO159; clear HB; have HO155 := n0_; have HO159 := n1_; have HO163 := n2_; have HB := n3_; clear n0_ n1_ n2_ n3_; (try clear hb); (try clear hb2); (try clear hk); (try clear hi); (try clear ho0)) | (go_at_call 9; (with_reducible refine (crc_Sum24.calls _ _ l0 t164 _ ?side1 ?side2 A10.out).mono ?_); (case side1 => repeat (first | exact (Kd.C_below HR0.out HB.out) | (with_reducible refine Kd.C_alloc ?_ _) | (with_reducible refine Kd.C_drewN ?_ _) | (with_reducible refine Kd.C_drew ?_))); (case side2 => exact HC0.out); rintro e w24 ⟨rfl, hb⟩; have n0_ := Aside0.mk (Kd.R_below (by (with_reducible repeat (first | apply Kd.R_alloc | apply Kd.R_drewN | apply Kd.R_drew)); exact HO155.out) hb); have n1_ := Aside0.mk (Kd.R_below (by (with_reducible repeat (first | apply Kd.R_alloc | apply Kd.R_drewN | apply Kd.R_drew)); exact HO159.out) hb); have n2_ := Aside0.mk (Kd.R_below (by (with_reducible repeat (first | apply Kd.R_alloc | apply Kd.R_drewN | apply Kd.R_drew)); exact HO163.out) hb); have n3_ := Aside0.mk (below_step (by repeat (first | (with_reducible first | exact HB.out | apply below_alloc | apply pw_below_drewN | apply below_drew1) | exact HB.out)) hb); clear HO155; clear HO159; clear HO163; clear HB; have HO155 := n0_; have HO159 := n1_; have HO163 := n2_; have HB := n3_; clear n0_ n1_ n2_ n3_; (try clear hb); (try clear hb2); (try clear hk); (try clear hi)) | (go_at_call 13; (with_reducible refine (palletref03_Sum24.calls k _ _ l0 t165 _ ?side1 ?side2 A11.out).mono ?_); (case side1 => repeat (first | exact (Kd.C_below HR0.out HB.out) | (with_reducible refine Kd.C_alloc ?_ _) | (with_reducible refine Kd.C_drewN ?_ _) | (with_reducible refine Kd.C_drew ?_))); (case side2 => exact HC0.out); rintro e w' ⟨rfl, ⟨nd, rfl⟩⟩) | (go_at_call 10; (with_reducible refine (crc_Sum32.calls _ _ l0 t166 _ ?side1 ?side2 A13.out).mono ?_); (case side1 => repeat (first | exact (Kd.C_below HR0.out (by repeat (first | (with_reducible first | exact HB.out | apply below_alloc | apply pw_below_drewN | apply below_drew1) | exact HB.out))) | (with_reducible refine Kd.C_alloc ?_ _) | (with_reducible refine Kd.C_drewN ?_ _) | (with_reducible refine Kd.C_drew ?_))); (case side2 => exact HC0.out); rintro e w25 ⟨rfl, hb⟩; have n0_ := Aside0.mk (Kd.R_below (by (with_reducible repeat (first | apply Kd.R_alloc | apply Kd.R_drewN | apply Kd.R_drew)); exact HO155.out) hb); have n1_ := Aside0.mk (Kd.R_below (by (with_reducible repeat (first | apply Kd.R_alloc | apply Kd.R_drewN | apply Kd.R_drew)); exact HO159.out) hb); have n2_ := Aside0.mk (Kd.R_below (by (with_reducible repeat (first | apply Kd.R_alloc | apply Kd.R_drewN | apply Kd.R_drew)); exact HO163.out) hb); have n3_ := Aside0.mk (below_step (by repeat (first | (with_reducible first | exact HB.out | apply below_alloc | apply pw_below_drewN | apply below_drew1) | exact HB.out)) hb); clear HO155; clear HO159; clear HO163; clear HB; have HO155 := n0_; have HO159 := n1_; have HO163 := n2_; have HB := n3_; clear n0_ n1_ n2_ n3_; (try clear hb); (try clear hb2); (try clear hk); (try clear hi)) | (go_at_call 14; (with_reducible refine (palletref03_Sum32.calls k _ _ l0 t167 _ ?side1 ?side2 A14.out).mono ?_); (case side1 => repeat (first | exact (Kd.C_below HR0.out HB.out) | (with_reducible refine Kd.C_alloc ?_ _) | (with_reducible refine Kd.C_drewN ?_ _) | (with_reducible refine Kd.C_drew ?_))); (case side2 => exact HC0.out); rintro e w' ⟨rfl, ⟨nd, rfl⟩⟩; obtain ⟨Ao26, co26, eo26⟩ := Kd.R_slice HO159.out; subst eo26; obtain ⟨Ao27, co27, eo27⟩ := Kd.R_slice HO163.out; subst eo27) | (go_at_call 15; (with_reducible refine (palletref02_Same.calls _ _ t156 _ _ t160 true _ ?side1 ?side2 ?side3 ?side4 A16.out).mono ?_); (case side1 => repeat (first | exact (Kd.R_reads' HO159.out).2.2 | (with_reducible refine Kd.C_alloc ?_ _) | (with_reducible refine Kd.C_drewN ?_ _) | (with_reducible refine Kd.C_drew ?_))); (case side2 => exact (Kd.R_reads' HO159.out).2.1); (case side3 => repeat (first | exact (Kd.R_reads' HO163.out).2.2 | (with_reducible refine Kd.C_alloc ?_ _) | (with_reducible refine Kd.C_drewN ?_ _) | (with_reducible refine Kd.C_drew ?_))); (case side4 => exact (Kd.R_reads' HO163.out).2.1); rintro e w' ⟨rfl, ⟨nd, rfl⟩⟩; obtain ⟨Ao28, co28, eo28⟩ := Kd.R_slice HO155.out; subst eo28) | (go_at_call 15; (with_reducible refine (palletref02_Same.calls _ _ l0 _ _ y153 t169 _ ?side1 ?side2 ?side3 ?side4 A19.out).mono ?_); (case side1 => repeat (first | exact (Kd.C_below HR0.out (by repeat (first | (with_reducible first | exact HB.out | apply below_alloc | apply pw_below_drewN | apply below_drew1) | exact HB.out))) | (with_reducible refine Kd.C_alloc ?_ _) | (with_reducible refine Kd.C_drewN ?_ _) | (with_reducible refine Kd.C_drew ?_))); (case side2 => exact HC0.out); (case side3 => repeat (first | exact (Kd.R_reads' HO155.out).2.2 | (with_reducible refine Kd.C_alloc ?_ _) | (with_reducible refine Kd.C_drewN ?_ _) | (with_reducible refine Kd.C_drew ?_))); (case side4 => exact (Kd.R_reads' HO155.out).2.1); rintro e w' ⟨rfl, ⟨nd, rfl⟩⟩))
        go_ret
        exact ⟨by first | rfl | (simp [errW_none, errW_some] <;> rfl) | (simp [*, errW_none, errW_some] <;> rfl), by repeat (first | (with_reducible first | exact HB.out | apply below_alloc | apply pw_below_drewN | apply below_drew1) | exact HB.out)⟩
       ·rw [if_neg c18] at H
        have c18b0 : (t157 == t161) = false := beq_eq_false_iff_ne.mpr c18
        have c18b1 : (t157 != t161) = true := bne_iff_ne.mpr c18
        obtain rfl := Option.some.inj H
        exact absurd hr_.out (by decide)
      ·replace c17 := Bool.eq_false_iff.mpr c17
       subst c17
       have H1 : (some false) = some r := by rw [if_neg (show ¬ (false = true) by decide)] at H; exact H
       clear H
       have H := H1
       clear H1
       obtain rfl := Option.some.inj H
       exact absurd hr_.out (by decide)
     ·rw [if_neg c15] at H
      have c15b0 : (t166 == t167) = false := beq_eq_false_iff_ne.mpr c15
      have c15b1 : (t166 != t167) = true := bne_iff_ne.mpr c15
      obtain rfl := Option.some.inj H
      exact absurd hr_.out (by decide)
    ·rw [if_neg c12] at H
     have c12b0 : (t164 == t165) = false := beq_eq_false_iff_ne.mpr c12
     have c12b1 : (t164 != t165) = true := bne_iff_ne.mpr c12
     obtain rfl := Option.some.inj H
     exact absurd hr_.out (by decide)
   ·rw [if_neg c7] at H
    exact absurd H (by simp)
 ·replace c4 := Bool.eq_false_iff.mpr c4
  subst c4
  have H1 : (some false) = some r := by rw [if_neg (show ¬ (false = true) by decide)] at H; exact H
  clear H
  have H := H1
  clear H1
  obtain rfl := Option.some.inj H
  exact absurd hr_.out (by decide)

end Go.Proofs.Ytjohinenaamdcaa.Print
