-- PRINTED by print.py (a twelfth state) out of the translation. Not trusted: Lean checks it.
import Derived.Test.YtcofclkgfandfaaGreatSq
import Derived.Test.YtcofclkgfandfaaGreatPrint0
import Derived.Test.YtcofclkgfandfaaGreatPrint23
import Derived.Test.YtcofclkgfandfaaGreatPrint5
import Derived.Test.YtcofclkgfandfaaGreatPrint7
namespace Go.Proofs.YtcofclkgfandfaaGreat.Print
open Go.RowKit Go.Proofs.YtcofclkgfandfaaGreatW.PrintWords Go.Proofs.YtcofclkgfandfaaGreatW.PrintLast Go.Proofs.YtcofclkgfandfaaGreatW.PrintMore Go.Proofs.YtcofclkgfandfaaGreatX
attribute [local go_sem] str_lss str_geq max2_int min2_int max_two min_two max_three min_three max_four min_four   -- for this text's walks alone
set_option linter.unusedVariables false
set_option linter.unusedSimpArgs false

/-! ### crc_open_at_crc_tail24: function 89 -/
def crc_open_at_crc_tail24.f (l0 : List Int) (a1 : Int)  : Option (List Int × Int) := if (wrap64 ((l0.length : Int) - a1)) < 0 then (some (([] : List Int), 3)) else (if (wrap64 ((l0.length : Int) - a1)) > 1048576 then (some (([] : List Int), 6)) else (if 0 ≤ (wrap64 ((l0.length : Int) - a1)) then (if (wrap64 ((l0.length : Int) - a1)) ≤ (l0.length : Int) then ((crc_tail24.f (l0.take ((wrap64 ((l0.length : Int) - a1)) : Int).toNat)).bind fun t498 => ((bytes_Equal.f t498 (l0.drop ((wrap64 ((l0.length : Int) - a1)) : Int).toNat)).bind fun t502 => (if t502 = true then ((slices_Clone_byte_byte.f (l0.take ((wrap64 ((l0.length : Int) - a1)) : Int).toNat)).bind fun t504 => (some (t504, 0))) else (some (([] : List Int), 5))))) else (none)) else (none)))
def crc_open_at_crc_tail24.T6 : Bool × List (List Nat × List Nat) := (true, [([], []), ([], []), ([], []), ([1, 2], [1, 2]), ([0, 3], [0, 3]), ([], []), ([], []), ([5, 6], [5, 6]), ([4, 7, 4], [4, 7]), ([8], [8]), ([9, 8], [9])])
def crc_open_at_crc_tail24.B6 : List Nat := [0, 0, 0, 6, 15, 0, 0, 96, 255, 511, 1023]
theorem crc_open_at_crc_tail24.tab6 : rtab .any (opsOf Tryz.f89 6) = crc_open_at_crc_tail24.T6 := by kernel_rfl
theorem crc_open_at_crc_tail24.bits6 : waitsOk crc_open_at_crc_tail24.T6.2 crc_open_at_crc_tail24.B6 = true := by kernel_rfl
set_option maxHeartbeats 8000000 in
set_option maxRecDepth 100000 in
theorem crc_open_at_crc_tail24.calls (A0 : Option Addr) (c0 : Nat) (l0 : List Int) (a1 : Int)  (r1 : List Int) (r2 : Int) (w : World) (hr0 : Kd.C (Kd.int .u8) w A0 l0.length l0) (hc0 : l0.length ≤ c0) (h : crc_open_at_crc_tail24.f l0 a1 = some (r1, r2)) :
  Calls Tryz.prog 89 #[.slice A0 l0.length c0, .int .i64 a1, .func (.func 90) #[] #[]] w fun e w' => ∃ v0_ : Value, e = .returned (.tuple #[v0_, .int .i64 r2]) ∧ Kd.R (Kd.int .u8) 5 w' w.heap.size (fun _ => True) v0_ r1 ∧ Below w.heap.size w w' := by
 have HR0 := asd hr0
 have HC0 := asd hc0
 clear hr0 hc0
 have HB := asd (Below.refl w.heap.size w)
 have H : (if (wrap64 ((l0.length : Int) - a1)) < 0 then (some (([] : List Int), 3)) else (if (wrap64 ((l0.length : Int) - a1)) > 1048576 then (some (([] : List Int), 6)) else (if 0 ≤ (wrap64 ((l0.length : Int) - a1)) then (if (wrap64 ((l0.length : Int) - a1)) ≤ (l0.length : Int) then ((crc_tail24.f (l0.take ((wrap64 ((l0.length : Int) - a1)) : Int).toNat)).bind fun t498 => ((bytes_Equal.f t498 (l0.drop ((wrap64 ((l0.length : Int) - a1)) : Int).toNat)).bind fun t502 => (if t502 = true then ((slices_Clone_byte_byte.f (l0.take ((wrap64 ((l0.length : Int) - a1)) : Int).toNat)).bind fun t504 => (some (t504, 0))) else (some (([] : List Int), 5))))) else (none)) else (none)))) = some (r1, r2) := h
 clear h
 by_cases c4 : (wrap64 ((l0.length : Int) - a1)) < 0
 ·rw [if_pos c4] at H
  have c4b0 : decide ((wrap64 ((l0.length : Int) - a1)) < 0) = true := decide_eq_true c4
  clear c4
  simp only [Option.some.injEq, Prod.mk.injEq] at H
  obtain ⟨rfl, rfl⟩ := H
  go_enter Tryz.func89, Tryz.ntmps89
  go_wp2
  go_ret2
  exact ⟨_, by first | rfl | (simp [errW_none, errW_some] <;> rfl) | (simp [*, errW_none, errW_some] <;> rfl), by first | exact Kd.R_nil _ _ _ _ _ | exact Kd.N_nil _ _ _ _ _ | exact Kd.V_nil _ _ _ _ _ | exact Kd.Q_nil _ _ _ _ _ | exact Kd.S_nil _ _ _ _ _, by repeat (first | (with_reducible first | exact HB.out | apply below_alloc | apply pw_below_drewN | apply below_drew1) | exact HB.out)⟩
 ·rw [if_neg c4] at H
  have c4b0 : decide ((wrap64 ((l0.length : Int) - a1)) < 0) = false := decide_eq_false c4
  clear c4
  by_cases c5 : (wrap64 ((l0.length : Int) - a1)) > 1048576
  ·rw [if_pos c5] at H
   have c5b0 : decide (1048576 < (wrap64 ((l0.length : Int) - a1))) = true := decide_eq_true c5
   clear c5
   simp only [Option.some.injEq, Prod.mk.injEq] at H
   obtain ⟨rfl, rfl⟩ := H
   go_enter Tryz.func89, Tryz.ntmps89
   go_wp2
   go_ret2
   exact ⟨_, by first | rfl | (simp [errW_none, errW_some] <;> rfl) | (simp [*, errW_none, errW_some] <;> rfl), by first | exact Kd.R_nil _ _ _ _ _ | exact Kd.N_nil _ _ _ _ _ | exact Kd.V_nil _ _ _ _ _ | exact Kd.Q_nil _ _ _ _ _ | exact Kd.S_nil _ _ _ _ _, by repeat (first | (with_reducible first | exact HB.out | apply below_alloc | apply pw_below_drewN | apply below_drew1) | exact HB.out)⟩
  ·rw [if_neg c5] at H
   have c5b0 : decide (1048576 < (wrap64 ((l0.length : Int) - a1))) = false := decide_eq_false c5
   clear c5
   obtain ⟨ji6, hji6⟩ : ∃ j_ : Int, (wrap64 ((l0.length : Int) - a1)) = j_ := ⟨_, rfl⟩
   replace H : (if 0 ≤ (ji6) then (if (ji6) ≤ (l0.length : Int) then ((crc_tail24.f (l0.take ((ji6) : Int).toNat)).bind fun t498 => ((bytes_Equal.f t498 (l0.drop ((ji6) : Int).toNat)).bind fun t502 => (if t502 = true then ((slices_Clone_byte_byte.f (l0.take ((ji6) : Int).toNat)).bind fun t504 => (some (t504, 0))) else (some (([] : List Int), 5))))) else (none)) else (none)) = some (r1, r2) := by first | (rw [hji6] at H; exact H) | (simp only [hji6] at H ⊢; exact H)
   (try rw [hji6] at c4b0)
   (try rw [hji6] at c5b0)
   have hji6w : (IntKind.i64.wrap ((l0.length : Int) - a1)) = ji6 := (i64_w _).trans hji6
   by_cases c7 : 0 ≤ (ji6)
   ·rw [if_pos c7] at H
    have c7b0 := eq_true c7
    have c7b1 : decide (0 ≤ (ji6)) = true := decide_eq_true c7
    clear c7
    by_cases c8 : (ji6) ≤ (l0.length : Int)
    ·rw [if_pos c8] at H
     have c8b0 := eq_true c8
     have c8b1 : decide ((ji6) ≤ (l0.length : Int)) = true := decide_eq_true c8
     clear c8
     replace H := Option.bind_eq_some_iff.mp H
     obtain ⟨t498, A90, H⟩ := H
     replace H : ((bytes_Equal.f t498 (l0.drop ((ji6) : Int).toNat)).bind fun t502 => (if t502 = true then ((slices_Clone_byte_byte.f (l0.take ((ji6) : Int).toNat)).bind fun t504 => (some (t504, 0))) else (some (([] : List Int), 5)))) = some (r1, r2) := H
     have A9 := asd A90
     clear A90
     have c10b0 := eq_true (of_decide_eq_true (by first | (with_reducible assumption) | assumption) : 0 ≤ (ji6))
     have c11b0 := eq_true (of_decide_eq_true (by first | (with_reducible assumption) | assumption) : (ji6) ≤ (l0.length : Int))
     replace H := Option.bind_eq_some_iff.mp H
     obtain ⟨t502, A120, H⟩ := H
     replace H : (if t502 = true then ((slices_Clone_byte_byte.f (l0.take ((ji6) : Int).toNat)).bind fun t504 => (some (t504, 0))) else (some (([] : List Int), 5))) = some (r1, r2) := H
     have A12 := asd A120
     clear A120
     by_cases c13 : t502 = true
     ·subst c13
      have H1 : ((slices_Clone_byte_byte.f (l0.take ((ji6) : Int).toNat)).bind fun t504 => (some (t504, 0))) = some (r1, r2) := by rw [if_pos rfl] at H; exact H
      clear H
      have H := H1
      clear H1
      have c14b0 := eq_true (of_decide_eq_true (by first | (with_reducible assumption) | assumption) : 0 ≤ (ji6))
      have c15b0 := eq_true (of_decide_eq_true (by first | (with_reducible assumption) | assumption) : (ji6) ≤ (l0.length : Int))
      replace H := Option.bind_eq_some_iff.mp H
      obtain ⟨t504, A160, H⟩ := H
      replace H : (some (t504, 0)) = some (r1, r2) := H
      have A16 := asd A160
      clear A160
      simp only [Option.some.injEq, Prod.mk.injEq] at H
      obtain ⟨rfl, rfl⟩ := H
      go_enter Tryz.func89, Tryz.ntmps89
      try go_wp2
      have n0_ := asd (below_drew1 HB.out)
      clear HB
      have HB := n0_
      clear n0_
      obtain ⟨i018, hi018, _, hsz18, _⟩ := info_parts info5
      obtain ⟨hcut18, hA18, hC18⟩ := print_take_of (P := Tryz.prog) (Value.int .u8) 0 33 5 .i64 Tryz.underlying33 hi018 hsz18 A0 c0 l0 (ji6) (of_decide_eq_true (by first | (with_reducible assumption) | assumption)) (of_decide_eq_true (by first | (with_reducible assumption) | assumption)) HC0.out
      have HR497 := asd (Kd.C_of_reads (h1 := fun _ => rfl) (hA18 _ (Kd.reads_of_C HR0.out)))
      have HC497 := asd hC18
      clear hA18 hC18 hi018 hsz18
      obtain ⟨i019, hi019, _, hsz19, _⟩ := info_parts info5
      obtain ⟨A19, hcut19, hA19, hC19⟩ := print_drop_of (P := Tryz.prog) (Value.int .u8) 0 33 5 .i64 Tryz.underlying33 hi019 hsz19 A0 c0 l0 (ji6) (of_decide_eq_true (by first | (with_reducible assumption) | assumption)) (of_decide_eq_true (by first | (with_reducible assumption) | assumption)) HC0.out
      have HR501 := asd (Kd.C_of_reads (h1 := fun _ => rfl) (hA19 _ (Kd.reads_of_C HR0.out)))
      have HC501 := asd hC19
      clear hA19 hC19 hi019 hsz19
      refine start_ (n := 11) (S := fun w' => True) (ds := []) (fb 11 0) (by kernel_rfl) rfl rfl trivial (fun hHeld => ?_); refine with_tabW crc_open_at_crc_tail24.tab6 crc_open_at_crc_tail24.bits6 (fun HT_ HW_ => ?_)
      generalize w.drew = w17 at HB HR497 HR501 hHeld ⊢
      refine pz (i := 0) (N := some 20) (fb 11 1) ?_ (hc := any_of HT_.out (by kernel_rfl))
      refine pz (i := 1) (N := some 21) (fb 11 3) ?_ (hc := any_of HT_.out (by kernel_rfl))
      refine pz (i := 2) (N := some 22) (fb 11 7) ?_ (hc := any_of HT_.out (by kernel_rfl))
      refine pz (i := 3) (N := some 23) (fb 11 15) ?_ (hc := any_of HT_.out (by kernel_rfl))
      refine pz (i := 5) (N := some 25) (fb 11 47) ?_ (hc := any_of HT_.out (by kernel_rfl))
      refine pz (i := 6) (N := some 26) (fb 11 111) ?_ (hc := any_of HT_.out (by kernel_rfl))
      refine pz (i := 7) (N := some 27) (fb 11 239) ?_ (hc := any_of HT_.out (by kernel_rfl))
      refine one_ (i := 4) (N := some 24) (fb 11 255) rfl rfl (one_of HT_.out (by kernel_rfl)) (by decide) (fun K hK => ?_)
      refine goesV_ Tryz.func90 (by kernel_rfl) rfl #[.slice A0 (l0.take ((ji6) : Int).toNat).length c0] (by rfl) rfl rfl (by first | rfl | (simp; done) | (go_simp; done)) (by (try simp only [List.map_toArray, List.map_cons, List.map_nil]); first | done | (rw [show (l0.take ((ji6) : Int).toNat).length = (ji6).toNat from (by rw [List.length_take]; have h_ : ((ji6) : Int) ≤ (l0.length : Int) := of_decide_eq_true (by first | (with_reducible assumption) | assumption); omega)] <;> rfl) | (simp only [hji6]; rfl) | rfl | (simp only [List.length_drop, List.length_take]; first | rfl | (rw [Nat.min_eq_left (Int.toNat_le.2 (of_decide_eq_true (by assumption)))]; rfl))) ?_
      with_reducible refine (crc_tail24.calls _ _ (l0.take ((ji6) : Int).toNat) t498 _ ?side1 ?side2 A9.out).mono ?_
      (case side1 => exact cb HR497 HB)
      (case side2 => exact HC497.out)
      rintro e w20 ⟨v499, rfl, ho0, hb⟩
      refine ⟨_, rfl, ?_⟩
      have HO500 := rl ho0 HB
      replace HB := bs HB hb
      (try clear hb)
      (try clear hb2)
      (try clear hk)
      (try clear hi)
      (try clear ho0)
      obtain ⟨Ao21, co21, eo21⟩ := Kd.R_slice HO500.out
      (first | subst eo21 | (injection eo21 with f1_ f2_ f3_; have f4_ := f1_.symm; have f5_ := f3_.symm; clear f1_ f2_ f3_; subst f4_; subst f5_))
      refine hK.out _ _ trivial (fun hHeld => ?_)
      clear hK K
      refine norm_ (a' := ?_) ?_ ?_
      rotate_left
      ·show Act.put _ (some 24) _ = _
       simp only [Act.put, List.setIfInBounds_toArray, List.set_cons_zero, List.set_cons_succ, i64_w, i32_w]
       rfl
      refine one_ (i := 8) (N := some 28) (fb 11 511) rfl rfl (one_of HT_.out (by kernel_rfl)) (by decide) (fun K hK => ?_)
      refine goes_ Tryz.func129 (by kernel_rfl) rfl #[.slice Ao21 t498.length co21, .slice A19 (l0.drop ((ji6) : Int).toNat).length (c0 - (ji6).toNat)] (by rfl) rfl rfl (by (try simp only [List.map_toArray, List.map_cons, List.map_nil]); first | done | (rw [show (l0.drop ((ji6) : Int).toNat).length = (l0.length - (ji6).toNat) from List.length_drop] <;> rfl) | (simp only [hji6]; rfl) | rfl | (simp only [List.length_drop, List.length_take]; first | rfl | (rw [Nat.min_eq_left (Int.toNat_le.2 (of_decide_eq_true (by assumption)))]; rfl))) ?_
      with_reducible refine (bytes_Equal.calls _ _ t498 _ _ (l0.drop ((ji6) : Int).toNat) true _ ?side1 ?side2 ?side3 ?side4 A12.out).mono ?_
      (case side1 => repeat (first | exact (Kd.R_reads' HO500.out).2.2 | (with_reducible refine Kd.C_alloc ?_ _) | (with_reducible refine Kd.C_drewN ?_ _) | (with_reducible refine Kd.C_drew ?_)))
      (case side2 => exact (Kd.R_reads' HO500.out).2.1)
      (case side3 => exact cb HR501 HB)
      (case side4 => exact HC501.out)
      rintro e w' ⟨rfl, ⟨nd, rfl⟩⟩
      refine ⟨_, rfl, ?_⟩
      refine hK.out _ _ trivial (fun hHeld => ?_)
      clear hK K
      refine norm_ (a' := ?_) ?_ ?_
      rotate_left
      ·show Act.put _ (some 28) _ = _
       simp only [Act.put, List.setIfInBounds_toArray, List.set_cons_zero, List.set_cons_succ, i64_w, i32_w]
       rfl
      refine pz (i := 9) (N := some 29) (fb 11 1023) ?_ (hc := any_of HT_.out (by kernel_rfl))
      refine pz (i := 10) (N := some 19) (fb 11 2047) ?_ (hc := any_of HT_.out (by kernel_rfl))
      refine done_ (done_of HT_.out (by kernel_rfl)) ?_
      obtain ⟨i022, hi022, _, hsz22, _⟩ := info_parts info5
      obtain ⟨hcut22, hA22, hC22⟩ := print_take_of (P := Tryz.prog) (Value.int .u8) 0 33 5 .i64 Tryz.underlying33 hi022 hsz22 A0 c0 l0 (ji6) (of_decide_eq_true (by first | (with_reducible assumption) | assumption)) (of_decide_eq_true (by first | (with_reducible assumption) | assumption)) HC0.out
      have HR503 := asd (Kd.C_of_reads (h1 := fun _ => rfl) (hA22 _ (Kd.reads_of_C HR0.out)))
      have HC503 := asd hC22
      clear hA22 hC22 hi022 hsz22
      try go_wp2_with (first | ((with_reducible refine gate_callee (f := 94) rfl ?_); refine goesL_ (some 33) rfl rfl Tryz.func94 (by kernel_rfl) rfl #[.slice A0 (l0.take ((ji6) : Int).toNat).length c0] rfl (by (try simp only [List.map_toArray, List.map_cons, List.map_nil]); first | done | (rw [show (l0.take ((ji6) : Int).toNat).length = (ji6).toNat from (by rw [List.length_take]; have h_ : ((ji6) : Int) ≤ (l0.length : Int) := of_decide_eq_true (by first | (with_reducible assumption) | assumption); omega)] <;> rfl) | (simp only [hji6]; rfl) | rfl | (simp only [List.length_drop, List.length_take]; first | rfl | (rw [Nat.min_eq_left (Int.toNat_le.2 (of_decide_eq_true (by assumption)))]; rfl))) ?_; (with_reducible refine (slices_Clone_byte_byte.calls _ _ (l0.take ((ji6) : Int).toNat) t504 _ ?side1 ?side2 A16.out).mono ?_); (case side1 => repeat (first | exact (Kd.C_below HR503.out (by repeat (first | (with_reducible first | exact HB.out | apply below_alloc | apply pw_below_drewN | apply below_drew1) | exact HB.out))) | (with_reducible refine Kd.C_alloc ?_ _) | (with_reducible refine Kd.C_drewN ?_ _) | (with_reducible refine Kd.C_drew ?_))); (case side2 => exact HC503.out); rintro e w23 ⟨v505, rfl, ho0, hb⟩; refine ⟨_, rfl, ?_⟩; have n0_ := asd (Kd.R_elder' (by (with_reducible repeat (first | apply Kd.R_alloc | apply Kd.R_drewN | apply Kd.R_drew)); exact HO500.out) (Kd.R_base ho0) hb); have n1_ := asd (Kd.R_lower (Kd.R_new' ho0 (Kd.R_lt (by (with_reducible repeat (first | apply Kd.R_alloc | apply Kd.R_drewN | apply Kd.R_drew)); exact HO500.out))) (below_size (by repeat (first | (with_reducible first | exact HB.out | apply below_alloc | apply pw_below_drewN | apply below_drew1) | exact HB.out)))); have n2_ := bs HB hb; clear HO500 HB; have HO500 := n0_; have HO506 := n1_; have HB := n2_; clear n0_ n1_ n2_; (try clear hb); (try clear ho0)))
      go_ret2
      exact ⟨_, by first | rfl | (simp [errW_none, errW_some] <;> rfl) | (simp only [← hji6]; first | rfl | (simp [errW_none, errW_some] <;> rfl)) | (simp [*, errW_none, errW_some] <;> rfl), by (with_reducible repeat (first | apply Kd.R_alloc | apply Kd.R_drewN | apply Kd.R_drew)); exact Kd.R_mono HO506.out (fun _ hk => trivial), by repeat (first | (with_reducible first | exact HB.out | apply below_alloc | apply pw_below_drewN | apply below_drew1) | exact HB.out)⟩
     ·replace c13 := Bool.eq_false_iff.mpr c13
      subst c13
      have H1 : (some (([] : List Int), 5)) = some (r1, r2) := by rw [if_neg (show ¬ (false = true) by decide)] at H; exact H
      clear H
      have H := H1
      clear H1
      simp only [Option.some.injEq, Prod.mk.injEq] at H
      obtain ⟨rfl, rfl⟩ := H
      go_enter Tryz.func89, Tryz.ntmps89
      try go_wp2
      have n0_ := asd (below_drew1 HB.out)
      clear HB
      have HB := n0_
      clear n0_
      obtain ⟨i025, hi025, _, hsz25, _⟩ := info_parts info5
      obtain ⟨hcut25, hA25, hC25⟩ := print_take_of (P := Tryz.prog) (Value.int .u8) 0 33 5 .i64 Tryz.underlying33 hi025 hsz25 A0 c0 l0 (ji6) (of_decide_eq_true (by first | (with_reducible assumption) | assumption)) (of_decide_eq_true (by first | (with_reducible assumption) | assumption)) HC0.out
      have HR497 := asd (Kd.C_of_reads (h1 := fun _ => rfl) (hA25 _ (Kd.reads_of_C HR0.out)))
      have HC497 := asd hC25
      clear hA25 hC25 hi025 hsz25
      obtain ⟨i026, hi026, _, hsz26, _⟩ := info_parts info5
      obtain ⟨A26, hcut26, hA26, hC26⟩ := print_drop_of (P := Tryz.prog) (Value.int .u8) 0 33 5 .i64 Tryz.underlying33 hi026 hsz26 A0 c0 l0 (ji6) (of_decide_eq_true (by first | (with_reducible assumption) | assumption)) (of_decide_eq_true (by first | (with_reducible assumption) | assumption)) HC0.out
      have HR501 := asd (Kd.C_of_reads (h1 := fun _ => rfl) (hA26 _ (Kd.reads_of_C HR0.out)))
      have HC501 := asd hC26
      clear hA26 hC26 hi026 hsz26
      refine start_ (n := 11) (S := fun w' => True) (ds := []) (fb 11 0) (by kernel_rfl) rfl rfl trivial (fun hHeld => ?_); refine with_tabW crc_open_at_crc_tail24.tab6 crc_open_at_crc_tail24.bits6 (fun HT_ HW_ => ?_)
      generalize w.drew = w24 at HB HR497 HR501 hHeld ⊢
      refine pz (i := 0) (N := some 20) (fb 11 1) ?_ (hc := any_of HT_.out (by kernel_rfl))
      refine pz (i := 1) (N := some 21) (fb 11 3) ?_ (hc := any_of HT_.out (by kernel_rfl))
      refine pz (i := 2) (N := some 22) (fb 11 7) ?_ (hc := any_of HT_.out (by kernel_rfl))
      refine pz (i := 3) (N := some 23) (fb 11 15) ?_ (hc := any_of HT_.out (by kernel_rfl))
      refine pz (i := 5) (N := some 25) (fb 11 47) ?_ (hc := any_of HT_.out (by kernel_rfl))
      refine pz (i := 6) (N := some 26) (fb 11 111) ?_ (hc := any_of HT_.out (by kernel_rfl))
      refine pz (i := 7) (N := some 27) (fb 11 239) ?_ (hc := any_of HT_.out (by kernel_rfl))
      refine one_ (i := 4) (N := some 24) (fb 11 255) rfl rfl (one_of HT_.out (by kernel_rfl)) (by decide) (fun K hK => ?_)
      refine goesV_ Tryz.func90 (by kernel_rfl) rfl #[.slice A0 (l0.take ((ji6) : Int).toNat).length c0] (by rfl) rfl rfl (by first | rfl | (simp; done) | (go_simp; done)) (by (try simp only [List.map_toArray, List.map_cons, List.map_nil]); first | done | (rw [show (l0.take ((ji6) : Int).toNat).length = (ji6).toNat from (by rw [List.length_take]; have h_ : ((ji6) : Int) ≤ (l0.length : Int) := of_decide_eq_true (by first | (with_reducible assumption) | assumption); omega)] <;> rfl) | (simp only [hji6]; rfl) | rfl | (simp only [List.length_drop, List.length_take]; first | rfl | (rw [Nat.min_eq_left (Int.toNat_le.2 (of_decide_eq_true (by assumption)))]; rfl))) ?_
      with_reducible refine (crc_tail24.calls _ _ (l0.take ((ji6) : Int).toNat) t498 _ ?side1 ?side2 A9.out).mono ?_
      (case side1 => exact cb HR497 HB)
      (case side2 => exact HC497.out)
      rintro e w27 ⟨v499, rfl, ho0, hb⟩
      refine ⟨_, rfl, ?_⟩
      have HO500 := rl ho0 HB
      replace HB := bs HB hb
      (try clear hb)
      (try clear hb2)
      (try clear hk)
      (try clear hi)
      (try clear ho0)
      obtain ⟨Ao28, co28, eo28⟩ := Kd.R_slice HO500.out
      (first | subst eo28 | (injection eo28 with f1_ f2_ f3_; have f4_ := f1_.symm; have f5_ := f3_.symm; clear f1_ f2_ f3_; subst f4_; subst f5_))
      refine hK.out _ _ trivial (fun hHeld => ?_)
      clear hK K
      refine norm_ (a' := ?_) ?_ ?_
      rotate_left
      ·show Act.put _ (some 24) _ = _
       simp only [Act.put, List.setIfInBounds_toArray, List.set_cons_zero, List.set_cons_succ, i64_w, i32_w]
       rfl
      refine one_ (i := 8) (N := some 28) (fb 11 511) rfl rfl (one_of HT_.out (by kernel_rfl)) (by decide) (fun K hK => ?_)
      refine goes_ Tryz.func129 (by kernel_rfl) rfl #[.slice Ao28 t498.length co28, .slice A26 (l0.drop ((ji6) : Int).toNat).length (c0 - (ji6).toNat)] (by rfl) rfl rfl (by (try simp only [List.map_toArray, List.map_cons, List.map_nil]); first | done | (rw [show (l0.drop ((ji6) : Int).toNat).length = (l0.length - (ji6).toNat) from List.length_drop] <;> rfl) | (simp only [hji6]; rfl) | rfl | (simp only [List.length_drop, List.length_take]; first | rfl | (rw [Nat.min_eq_left (Int.toNat_le.2 (of_decide_eq_true (by assumption)))]; rfl))) ?_
      with_reducible refine (bytes_Equal.calls _ _ t498 _ _ (l0.drop ((ji6) : Int).toNat) false _ ?side1 ?side2 ?side3 ?side4 A12.out).mono ?_
      (case side1 => repeat (first | exact (Kd.R_reads' HO500.out).2.2 | (with_reducible refine Kd.C_alloc ?_ _) | (with_reducible refine Kd.C_drewN ?_ _) | (with_reducible refine Kd.C_drew ?_)))
      (case side2 => exact (Kd.R_reads' HO500.out).2.1)
      (case side3 => exact cb HR501 HB)
      (case side4 => exact HC501.out)
      rintro e w' ⟨rfl, ⟨nd, rfl⟩⟩
      refine ⟨_, rfl, ?_⟩
      refine hK.out _ _ trivial (fun hHeld => ?_)
      clear hK K
      refine norm_ (a' := ?_) ?_ ?_
      rotate_left
      ·show Act.put _ (some 28) _ = _
       simp only [Act.put, List.setIfInBounds_toArray, List.set_cons_zero, List.set_cons_succ, i64_w, i32_w]
       rfl
      refine pz (i := 9) (N := some 29) (fb 11 1023) ?_ (hc := any_of HT_.out (by kernel_rfl))
      refine pz (i := 10) (N := some 19) (fb 11 2047) ?_ (hc := any_of HT_.out (by kernel_rfl))
      refine done_ (done_of HT_.out (by kernel_rfl)) ?_
      try go_wp2
      go_ret2
      exact ⟨_, by first | rfl | (simp [errW_none, errW_some] <;> rfl) | (simp only [← hji6]; first | rfl | (simp [errW_none, errW_some] <;> rfl)) | (simp [*, errW_none, errW_some] <;> rfl), by first | exact Kd.R_nil _ _ _ _ _ | exact Kd.N_nil _ _ _ _ _ | exact Kd.V_nil _ _ _ _ _ | exact Kd.Q_nil _ _ _ _ _ | exact Kd.S_nil _ _ _ _ _, by repeat (first | (with_reducible first | exact HB.out | apply below_alloc | apply pw_below_drewN | apply below_drew1) | exact HB.out)⟩
    ·rw [if_neg c8] at H
     exact absurd H (by simp)
   ·rw [if_neg c7] at H
    exact absurd H (by simp)

/-! ### crc_Open24: function 44 -/
def crc_Open24.f (l0 : List Int) : Option (List Int × Int) := (crc_open_at_crc_tail24.f l0 3).bind fun bt507 => (some (bt507.1, bt507.2))
set_option maxHeartbeats 8000000 in
set_option maxRecDepth 100000 in
theorem crc_Open24.calls (A0 : Option Addr) (c0 : Nat) (l0 : List Int) (r1 : List Int) (r2 : Int) (w : World) (hr0 : Kd.C (Kd.int .u8) w A0 l0.length l0) (hc0 : l0.length ≤ c0) (h : crc_Open24.f l0 = some (r1, r2)) :
  Calls Tryz.prog 44 #[.slice A0 l0.length c0] w fun e w' => ∃ v0_ : Value, e = .returned (.tuple #[v0_, .int .i64 r2]) ∧ Kd.R (Kd.int .u8) 5 w' w.heap.size (fun _ => True) v0_ r1 ∧ Below w.heap.size w w' := by
 have HR0 := asd hr0
 have HC0 := asd hc0
 clear hr0 hc0
 have HB := asd (Below.refl w.heap.size w)
 have H : ((crc_open_at_crc_tail24.f l0 3).bind fun bt507 => (some (bt507.1, bt507.2))) = some (r1, r2) := h
 clear h
 replace H := Option.bind_eq_some_iff.mp H
 obtain ⟨⟨t507, t510⟩, A20, H⟩ := H
 replace H : (some (t507, t510)) = some (r1, r2) := H
 have A2 := asd A20
 clear A20
 simp only [Option.some.injEq, Prod.mk.injEq] at H
 obtain ⟨rfl, rfl⟩ := H
 go_enter Tryz.func44, Tryz.ntmps44
 go_wp2_with (first | ((with_reducible refine gate_callee (f := 89) rfl ?_); refine gL (some 5) Tryz.func89 #[.slice A0 l0.length c0, .int .i64 3, .func (.func 90) #[] #[]] ?_; (with_reducible refine (crc_open_at_crc_tail24.calls _ _ l0 3  t507 t510 _ ?side1 ?side2 A2.out).mono ?_); (case side1 => repeat (first | exact HR0.out | (with_reducible refine Kd.C_alloc ?_ _) | (with_reducible refine Kd.C_drewN ?_ _) | (with_reducible refine Kd.C_drew ?_))); (case side2 => exact HC0.out); rintro e w3 ⟨v508, rfl, ho0, hb⟩; refine ⟨_, rfl, ?_⟩; have HO509 := rl ho0 HB; replace HB := bs HB hb; (try clear hb); (try clear ho0)))
 go_ret2
 exact ⟨_, by first | rfl | (simp [errW_none, errW_some] <;> rfl) | (simp [*, errW_none, errW_some] <;> rfl), by (with_reducible repeat (first | apply Kd.R_alloc | apply Kd.R_drewN | apply Kd.R_drew)); exact HO509.out, by repeat (first | (with_reducible first | exact HB.out | apply below_alloc | apply pw_below_drewN | apply below_drew1) | exact HB.out)⟩


/-! ### wire_wide: function 91 -/
def wire_wide.f (a0 : Int) : Option (Bool) := if a0 > 0 then (some (decide (a0 ≤ 8))) else (some false)
set_option maxHeartbeats 8000000 in
set_option maxRecDepth 100000 in
theorem wire_wide.calls (a0 : Int) (r : Bool) (w : World) (h : wire_wide.f a0 = some r) :
  Calls Tryz.prog 91 #[.int .i64 a0] w fun e w' => e = .returned (.bool r) ∧ Drawn0 w w' := by
 have H : (if a0 > 0 then (some (decide (a0 ≤ 8))) else (some false)) = some r := h
 clear h
 by_cases c2 : a0 > 0
 ·rw [if_pos c2] at H
  have c2b0 : decide (0 < a0) = true := decide_eq_true c2
  clear c2
  obtain rfl := Option.some.inj H
  go_enter Tryz.func91, Tryz.ntmps91
  go_wp2
  go_ret
  exact ⟨by first | rfl | (simp; done) | (simp [*]; done), by repeat (first | exact Drawn0.refl _ | apply Drawn0.step)⟩
 ·rw [if_neg c2] at H
  have c2b0 : decide (0 < a0) = false := decide_eq_false c2
  clear c2
  obtain rfl := Option.some.inj H
  go_enter Tryz.func91, Tryz.ntmps91
  go_wp2
  go_ret
  exact ⟨by first | rfl | (simp; done) | (simp [*]; done), by repeat (first | exact Drawn0.refl _ | apply Drawn0.step)⟩

/-! ### wire_TakeFixed: function 46 -/
mutual
def wire_TakeFixed.j0 : Nat → List Int → Int → Int → Int → Bool → Option (Int × Int × Int)
 | 0, _, _, _, _, _ => none
 | k + 1, x0, x1, x2, x6, x11 => if x11 = true then (some (0, 0, 1)) else (if x1 > (wrap64 ((x0.length : Int) - x2)) then (some (0, 0, 3)) else (if 0 ≤ x1 then (if x1 ≤ (wrap64 (x1 + x2)) then (if (wrap64 (x1 + x2)) ≤ (x0.length : Int) then (wire_TakeFixed.l0 k x1 x2 x6 ((x0.take ((wrap64 (x1 + x2)) : Int).toNat).drop (x1 : Int).toNat) (((x0.take ((wrap64 (x1 + x2)) : Int).toNat).drop (x1 : Int).toNat).length : Int) 0) else (none)) else (none)) else (none)))
def wire_TakeFixed.l0 : Nat → Int → Int → Int → List Int → Int → Int → Option (Int × Int × Int)
 | 0, _, _, _, _, _, _ => none
 | k + 1, x1, x2, x6, x31, x32, x33 => if x33 < x32 then (if 0 ≤ x33 then (if x33 < (x31.length : Int) then (wire_TakeFixed.l0 k x1 x2 (IntKind.u64.wrap ((IntKind.u64.wrap (x6 * 256)) + (IntKind.u64.wrap (rd x31 x33)))) x31 x32 (wrap64 (x33 + 1))) else (none)) else (none)) else (some (x6, wrap64 (x1 + x2), 0))
end
def wire_TakeFixed.f (k : Nat) (l0 : List Int) (a1 : Int) (a2 : Int) : Option (Int × Int × Int) := if a1 < 0 then (wire_TakeFixed.j0 k l0 a1 a2 0 true) else ((wire_wide.f a2).bind fun t511 => (wire_TakeFixed.j0 k l0 a1 a2 0 (!t511)))
set_option maxHeartbeats 8000000 in
set_option maxRecDepth 100000 in
theorem wire_TakeFixed.calls (k : Nat) (A0 : Option Addr) (c0 : Nat) (l0 : List Int) (a1 : Int) (a2 : Int) (r1 : Int) (r2 : Int) (r3 : Int) (w : World) (hr0 : Kd.C (Kd.int .u8) w A0 l0.length l0) (hc0 : l0.length ≤ c0) (h : wire_TakeFixed.f k l0 a1 a2 = some (r1, r2, r3)) :
  Calls Tryz.prog 46 #[.slice A0 l0.length c0, .int .i64 a1, .int .i64 a2] w fun e w' => e = .returned (.tuple #[.int .u64 r1, .int .i64 r2, .int .i64 r3]) ∧ Drawn0 w w' := by
 have HR0 := asd hr0
 have HC0 := asd hc0
 clear hr0 hc0
 have H : (if a1 < 0 then (wire_TakeFixed.j0 k l0 a1 a2 0 true) else ((wire_wide.f a2).bind fun t511 => (wire_TakeFixed.j0 k l0 a1 a2 0 (!t511)))) = some (r1, r2, r3) := h
 clear h
 have HC4 := asd H
 clear H
 go_enter Tryz.func46, Tryz.ntmps46
 go_upto_region 1 with (fail)
 go_cut [11] (fun v11 wc => ∃ (kq : Nat) (x11_3 : Bool), v11 = .bool x11_3 ∧ Aside0 (wire_TakeFixed.j0 kq l0 a1 a2 0 x11_3 = some (r1, r2, r3)) ∧ Aside0 (kq ≤ k) ∧ Drawn0 w wc)
 case first =>
  have H := HC4.out
  clear HC4
  by_cases c5 : a1 < 0
  ·rw [if_pos c5] at H
   have c5b0 : decide (a1 < 0) = true := decide_eq_true c5
   clear c5
   (first | rw [c5b0] | (simp only [i64_w, i32_w]; rw [c5b0]) | skip)
   have H' := asd H
   clear H
   go_wp2
   go_meet
   case rel => exact ⟨_, (true), (by first | rfl | (simp; done) | (simp [*]; done)), H', ⟨by first | omega | exact Nat.le_refl _⟩, by repeat (first | exact Drawn0.refl _ | apply Drawn0.step)⟩
  ·rw [if_neg c5] at H
   have c5b0 : decide (a1 < 0) = false := decide_eq_false c5
   clear c5
   (first | rw [c5b0] | (simp only [i64_w, i32_w]; rw [c5b0]) | skip)
   replace H := Option.bind_eq_some_iff.mp H
   obtain ⟨t511, A60, H⟩ := H
   replace H : (wire_TakeFixed.j0 k l0 a1 a2 0 (!t511)) = some (r1, r2, r3) := H
   have A6 := asd A60
   clear A60
   have H' := asd H
   clear H
   go_wp2_with (first | (go_at_call 91; (with_reducible refine (wire_wide.calls a2 t511 _ A6.out).mono ?_); rintro e w' ⟨rfl, ⟨nd, rfl⟩⟩))
   go_meet
   case rel => exact ⟨_, (!t511), (by first | rfl | (simp; done) | (simp [*]; done)), H', ⟨by first | omega | exact Nat.le_refl _⟩, by repeat (first | exact Drawn0.refl _ | apply Drawn0.step)⟩
 case rest =>
  clear HC4
  try clear p2
  try clear c4
  try clear c5
  try clear c5b0
  obtain ⟨kq, x11_3, rfl, HA, HJ3, ⟨mc3, rfl⟩⟩ := hcut
  cases kq with
  | zero => exact absurd HA.out (by simp [wire_TakeFixed.j0])
  | succ kj3 =>
   have H := HA.out
   clear HA
   simp only [wire_TakeFixed.j0] at H
   by_cases c7 : x11_3 = true
   ·subst c7
    have H1 : (some (0, 0, 1)) = some (r1, r2, r3) := by rw [if_pos rfl] at H; exact H
    clear H
    have H := H1
    clear H1
    simp only [Option.some.injEq, Prod.mk.injEq] at H
    obtain ⟨rfl, rfl, rfl⟩ := H
    go_wp2
    go_ret3
    exact ⟨by first | rfl | (simp; done) | (simp [*]; done), by repeat (first | exact Drawn0.refl _ | apply Drawn0.step)⟩
   ·replace c7 := Bool.eq_false_iff.mpr c7
    subst c7
    have H1 : (if a1 > (wrap64 ((l0.length : Int) - a2)) then (some (0, 0, 3)) else (if 0 ≤ a1 then (if a1 ≤ (wrap64 (a1 + a2)) then (if (wrap64 (a1 + a2)) ≤ (l0.length : Int) then (wire_TakeFixed.l0 kj3 a1 a2 0 ((l0.take ((wrap64 (a1 + a2)) : Int).toNat).drop (a1 : Int).toNat) (((l0.take ((wrap64 (a1 + a2)) : Int).toNat).drop (a1 : Int).toNat).length : Int) 0) else (none)) else (none)) else (none))) = some (r1, r2, r3) := by rw [if_neg (show ¬ (false = true) by decide)] at H; exact H
    clear H
    have H := H1
    clear H1
    by_cases c8 : a1 > (wrap64 ((l0.length : Int) - a2))
    ·rw [if_pos c8] at H
     have c8b0 : decide ((wrap64 ((l0.length : Int) - a2)) < a1) = true := decide_eq_true c8
     clear c8
     simp only [Option.some.injEq, Prod.mk.injEq] at H
     obtain ⟨rfl, rfl, rfl⟩ := H
     go_wp2
     go_ret3
     exact ⟨by first | rfl | (simp; done) | (simp [*]; done), by repeat (first | exact Drawn0.refl _ | apply Drawn0.step)⟩
    ·rw [if_neg c8] at H
     have c8b0 : decide ((wrap64 ((l0.length : Int) - a2)) < a1) = false := decide_eq_false c8
     clear c8
     by_cases c9 : 0 ≤ a1
     ·rw [if_pos c9] at H
      have c9b0 := eq_true c9
      have c9b1 : decide (0 ≤ a1) = true := decide_eq_true c9
      clear c9
      by_cases c10 : a1 ≤ (wrap64 (a1 + a2))
      ·rw [if_pos c10] at H
       have c10b0 := eq_true c10
       have c10b1 : decide (a1 ≤ (wrap64 (a1 + a2))) = true := decide_eq_true c10
       by_cases c11 : (wrap64 (a1 + a2)) ≤ (l0.length : Int)
       ·rw [if_pos c11] at H
        have c11b0 := eq_true c11
        have c11b1 : decide ((wrap64 (a1 + a2)) ≤ (l0.length : Int)) = true := decide_eq_true c11
        have H' := asd H
        clear H
        obtain ⟨i012, hi012, _, hsz12, _⟩ := info_parts info5
        obtain ⟨A12, hcut12, hA12, hC12⟩ := print_mid_of (P := Tryz.prog) (Value.int .u8) 0 33 5 .i64 .i64 Tryz.underlying33 hi012 hsz12 A0 c0 l0 a1 (wrap64 (a1 + a2)) (of_decide_eq_true (by first | (with_reducible assumption) | assumption)) (by first | omega | exact of_decide_eq_true (by first | (with_reducible assumption) | assumption)) (of_decide_eq_true (by first | (with_reducible assumption) | assumption)) HC0.out
        (try have KZ1 := asd (of_decide_eq_true (by assumption : decide ((wrap64 (a1 + a2)) ≤ (l0.length : Int)) = true)))
        have HR512 := asd (Kd.C_of_reads (h1 := fun _ => rfl) (hA12 _ (Kd.reads_of_C HR0.out)))
        have HC512 := asd hC12
        clear hA12 hC12 hi012 hsz12
        go_wp2
        go_loopg [6, 33] kj3 (fun kq v6 v33 w' => ∃ (x6_2 : Int) (x33_2 : Int), v6 = .int .u64 x6_2 ∧ v33 = .int .i64 x33_2 ∧ Aside0 (wire_TakeFixed.l0 kq a1 a2 x6_2 ((l0.take ((wrap64 (a1 + a2)) : Int).toNat).drop (a1 : Int).toNat) (((l0.take ((wrap64 (a1 + a2)) : Int).toNat).drop (a1 : Int).toNat).length : Int) x33_2 = some (r1, r2, r3)) ∧ Aside0 (kq ≤ kj3) ∧ Drawn0 w w')
        case atStart => exact ⟨(0), (0), (by first | rfl | (simp; done) | (simp [*]; done)), (by first | rfl | (simp; done) | (simp [*]; done)), H', ⟨Nat.le_refl _⟩, by repeat (first | exact Drawn0.refl _ | apply Drawn0.step)⟩
        case round =>
         clear H'
         try clear c1
         try clear p2
         try clear c3
         try clear c4
         try clear c5
         try clear c5b0
         try clear p6
         try clear c7
         try clear c8
         try clear c8b0
         try clear c9
         try clear c9b0
         try clear c9b1
         try clear c10
         try clear c10b0
         try clear c10b1
         try clear c11
         try clear c11b0
         try clear c11b1
         try clear p2
         obtain ⟨x6_2, x33_2, rfl, rfl, HA, HK2, ⟨m2, rfl⟩⟩ := hrel
         cases gk with
         | zero => exact absurd HA.out (by simp [wire_TakeFixed.l0])
         | succ k2 =>
          have H := HA.out
          clear HA
          simp only [wire_TakeFixed.l0] at H
          by_cases c13 : x33_2 < (((l0.take ((wrap64 (a1 + a2)) : Int).toNat).drop (a1 : Int).toNat).length : Int)
          ·rw [if_pos c13] at H
           have c13b0 : decide (x33_2 < (((l0.take ((wrap64 (a1 + a2)) : Int).toNat).drop (a1 : Int).toNat).length : Int)) = true := decide_eq_true c13
           (try have c13n0 : decide (x33_2 < ((((wrap64 (a1 + a2)) : Int).toNat - (a1 : Int).toNat : Nat) : Int)) = true := by have h_ := of_decide_eq_true c13b0; rw [List.length_drop, List.length_take] at h_; (try have g_ := of_decide_eq_true (by assumption : decide ((wrap64 (a1 + a2)) ≤ (l0.length : Int)) = true)); (try have g_ := (by assumption : Aside0 ((wrap64 (a1 + a2)) ≤ (l0.length : Int))).out); exact decide_eq_true (by omega))
           clear c13
           by_cases c14 : 0 ≤ x33_2
           ·rw [if_pos c14] at H
            have c14b0 : decide (0 ≤ x33_2) = true := decide_eq_true c14
            clear c14
            by_cases c15 : x33_2 < (((l0.take ((wrap64 (a1 + a2)) : Int).toNat).drop (a1 : Int).toNat).length : Int)
            ·rw [if_pos c15] at H
             have c15b0 : decide (x33_2 < (((l0.take ((wrap64 (a1 + a2)) : Int).toNat).drop (a1 : Int).toNat).length : Int)) = true := decide_eq_true c15
             (try have c15n0 : decide (x33_2 < ((((wrap64 (a1 + a2)) : Int).toNat - (a1 : Int).toNat : Nat) : Int)) = true := by have h_ := of_decide_eq_true c15b0; rw [List.length_drop, List.length_take] at h_; (try have g_ := of_decide_eq_true (by assumption : decide ((wrap64 (a1 + a2)) ≤ (l0.length : Int)) = true)); (try have g_ := (by assumption : Aside0 ((wrap64 (a1 + a2)) ≤ (l0.length : Int))).out); exact decide_eq_true (by omega))
             clear c15
             have H' := asd H
             clear H
             have p513 : 0 ≤ (x33_2 : Int) := of_decide_eq_true (by first | (with_reducible assumption) | assumption)
             have q513 : x33_2 < (((l0.take ((wrap64 (a1 + a2)) : Int).toNat).drop (a1 : Int).toNat).length : Int) := of_decide_eq_true (by first | (with_reducible assumption) | assumption)
             (try have qn513 := eq_true (show x33_2 < ((((wrap64 (a1 + a2)) : Int).toNat - (a1 : Int).toNat : Nat) : Int) from (by have h_ := q513; rw [List.length_drop, List.length_take] at h_; omega)))
             obtain ⟨ad513, e513, hx513_0⟩ := Kd.at_int HR512.out x33_2 p513 q513
             cases e513
             replace p513 := eq_true p513
             replace q513 := eq_true q513
             go_wp2
             go_roundg k2
             case measure => have := HJ3.out; have := HK2.out; omega
             case rel => exact ⟨(IntKind.u64.wrap ((IntKind.u64.wrap (x6_2 * 256)) + (IntKind.u64.wrap (rd ((l0.take ((wrap64 (a1 + a2)) : Int).toNat).drop (a1 : Int).toNat) x33_2)))), (wrap64 (x33_2 + 1)), (by first | rfl | (simp; done) | (simp [*]; done)), (by first | rfl | (simp; done) | (simp [*]; done)), H', ⟨by have := HJ3.out; have := HK2.out; omega⟩, by repeat (first | exact Drawn0.refl _ | apply Drawn0.step)⟩
            ·rw [if_neg c15] at H
             exact absurd H (by simp)
           ·rw [if_neg c14] at H
            exact absurd H (by simp)
          ·rw [if_neg c13] at H
           have c13b0 : decide (x33_2 < (((l0.take ((wrap64 (a1 + a2)) : Int).toNat).drop (a1 : Int).toNat).length : Int)) = false := decide_eq_false c13
           (try have c13n0 : decide (x33_2 < ((((wrap64 (a1 + a2)) : Int).toNat - (a1 : Int).toNat : Nat) : Int)) = false := by have h_ := of_decide_eq_false c13b0; rw [List.length_drop, List.length_take] at h_; (try have g_ := of_decide_eq_true (by assumption : decide ((wrap64 (a1 + a2)) ≤ (l0.length : Int)) = true)); (try have g_ := (by assumption : Aside0 ((wrap64 (a1 + a2)) ≤ (l0.length : Int))).out); exact decide_eq_false (by omega))
           clear c13
           simp only [Option.some.injEq, Prod.mk.injEq] at H
           obtain ⟨rfl, rfl, rfl⟩ := H
           go_wp2
           go_ret3
           exact ⟨by first | rfl | (simp; done) | (simp [*]; done), by repeat (first | exact Drawn0.refl _ | apply Drawn0.step)⟩
       ·rw [if_neg c11] at H
        exact absurd H (by simp)
      ·rw [if_neg c10] at H
       exact absurd H (by simp)
     ·rw [if_neg c9] at H
      exact absurd H (by simp)

-- NOT PRINTED: function 45 (frame_Read_1)


/-! ### wire_TakeVary: function 47 -/
mutual
def wire_TakeVary.l0 : Nat → Int → Int → List Int → Int → Int → Option (Int × Int × Int)
 | 0, _, _, _, _, _ => none
 | k + 1, x1, x4, x16, x17, x18 => if x18 < x17 then (if 0 ≤ x18 then (if x18 < (x16.length : Int) then (if x18 = 0 then (if (rd x16 x18) = 128 then (wire_TakeVary.j1 k x1 x4 x18 (rd x16 x18) x16 x17 x18 true) else ((bits_Len64.f k x4).bind fun t516 => (wire_TakeVary.j1 k x1 x4 x18 (rd x16 x18) x16 x17 x18 (decide (t516 > 57))))) else ((bits_Len64.f k x4).bind fun t517 => (wire_TakeVary.j1 k x1 x4 x18 (rd x16 x18) x16 x17 x18 (decide (t517 > 57))))) else (none)) else (none)) else (some (0, 0, 3))
def wire_TakeVary.j1 : Nat → Int → Int → Int → Int → List Int → Int → Int → Bool → Option (Int × Int × Int)
 | 0, _, _, _, _, _, _, _, _ => none
 | k + 1, x1, x4, x7, x8, x16, x17, x18, x33 => if x33 = true then (some (0, 0, 4)) else (if (Go.bits .and .u8 x8 128) = 0 then (some (Go.bits .or .u64 (IntKind.u64.wrap (x4 * 128)) (IntKind.u64.wrap (Go.bits .and .u8 x8 127)), wrap64 ((wrap64 (x1 + x7)) + 1), 0)) else (wire_TakeVary.l0 k x1 (Go.bits .or .u64 (IntKind.u64.wrap (x4 * 128)) (IntKind.u64.wrap (Go.bits .and .u8 x8 127))) x16 x17 (wrap64 (x18 + 1))))
end
def wire_TakeVary.f (k : Nat) (l0 : List Int) (a1 : Int) : Option (Int × Int × Int) := if a1 < 0 then (some (0, 0, 1)) else (if 0 ≤ (mn a1 (l0.length : Int)) then (if (mn a1 (l0.length : Int)) ≤ (l0.length : Int) then (wire_TakeVary.l0 k a1 0 (l0.drop ((mn a1 (l0.length : Int)) : Int).toNat) ((l0.drop ((mn a1 (l0.length : Int)) : Int).toNat).length : Int) 0) else (none)) else (none))
set_option maxHeartbeats 8000000 in
set_option maxRecDepth 100000 in
theorem wire_TakeVary.calls (k : Nat) (A0 : Option Addr) (c0 : Nat) (l0 : List Int) (a1 : Int) (r1 : Int) (r2 : Int) (r3 : Int) (w : World) (hr0 : Kd.C (Kd.int .u8) w A0 l0.length l0) (hc0 : l0.length ≤ c0) (h : wire_TakeVary.f k l0 a1 = some (r1, r2, r3)) :
  Calls Tryz.prog 47 #[.slice A0 l0.length c0, .int .i64 a1] w fun e w' => e = .returned (.tuple #[.int .u64 r1, .int .i64 r2, .int .i64 r3]) ∧ Below w.heap.size w w' := by
 have HR0 := asd hr0
 have HC0 := asd hc0
 clear hr0 hc0
 have HB := asd (Below.refl w.heap.size w)
 have H : (if a1 < 0 then (some (0, 0, 1)) else (if 0 ≤ (mn a1 (l0.length : Int)) then (if (mn a1 (l0.length : Int)) ≤ (l0.length : Int) then (wire_TakeVary.l0 k a1 0 (l0.drop ((mn a1 (l0.length : Int)) : Int).toNat) ((l0.drop ((mn a1 (l0.length : Int)) : Int).toNat).length : Int) 0) else (none)) else (none))) = some (r1, r2, r3) := h
 clear h
 by_cases c3 : a1 < 0
 ·rw [if_pos c3] at H
  have c3b0 : decide (a1 < 0) = true := decide_eq_true c3
  clear c3
  simp only [Option.some.injEq, Prod.mk.injEq] at H
  obtain ⟨rfl, rfl, rfl⟩ := H
  go_enter Tryz.func47, Tryz.ntmps47
  go_wp2
  go_ret3
  exact ⟨by first | rfl | (simp [errW_none, errW_some] <;> rfl) | (simp [*, errW_none, errW_some] <;> rfl), by repeat (first | (with_reducible first | exact HB.out | apply below_alloc | apply pw_below_drewN | apply below_drew1) | exact HB.out)⟩
 ·rw [if_neg c3] at H
  have c3b0 : decide (a1 < 0) = false := decide_eq_false c3
  clear c3
  obtain ⟨ji4, hji4⟩ : ∃ j_ : Int, (mn a1 (l0.length : Int)) = j_ := ⟨_, rfl⟩
  replace H : (if 0 ≤ (ji4) then (if (ji4) ≤ (l0.length : Int) then (wire_TakeVary.l0 k a1 0 (l0.drop ((ji4) : Int).toNat) ((l0.drop ((ji4) : Int).toNat).length : Int) 0) else (none)) else (none)) = some (r1, r2, r3) := by first | (rw [hji4] at H; exact H) | (simp only [hji4] at H ⊢; exact H)
  have hji4_ : (if (l0.length : Int) < a1 then (l0.length : Int) else a1) = ji4 := hji4
  by_cases c5 : 0 ≤ (ji4)
  ·rw [if_pos c5] at H
   have c5b0 := eq_true c5
   have c5b1 : decide (0 ≤ (ji4)) = true := decide_eq_true c5
   clear c5
   by_cases c6 : (ji4) ≤ (l0.length : Int)
   ·rw [if_pos c6] at H
    have c6b0 := eq_true c6
    have c6b1 : decide ((ji4) ≤ (l0.length : Int)) = true := decide_eq_true c6
    clear c6
    have H' := asd H
    clear H
    obtain ⟨i07, hi07, _, hsz7, _⟩ := info_parts info5
    obtain ⟨A7, hcut7, hA7, hC7⟩ := print_drop_of (P := Tryz.prog) (Value.int .u8) 0 33 5 .i64 Tryz.underlying33 hi07 hsz7 A0 c0 l0 (ji4) (of_decide_eq_true (by first | (with_reducible assumption) | assumption)) (of_decide_eq_true (by first | (with_reducible assumption) | assumption)) HC0.out
    have HR514 := asd (Kd.C_of_reads (h1 := fun _ => rfl) (hA7 _ (Kd.reads_of_C HR0.out)))
    have HC514 := asd hC7
    clear hA7 hC7 hi07 hsz7
    go_enter Tryz.func47, Tryz.ntmps47
    go_wp2
    go_loopg [4, 18] k (fun kq v4 v18 w' => ∃ (x4_1 : Int) (x18_1 : Int), v4 = .int .u64 x4_1 ∧ v18 = .int .i64 x18_1 ∧ Aside0 (wire_TakeVary.l0 kq a1 x4_1 (l0.drop ((ji4) : Int).toNat) ((l0.drop ((ji4) : Int).toNat).length : Int) x18_1 = some (r1, r2, r3)) ∧ Aside0 (kq ≤ k) ∧ Aside0 (Below w.heap.size w w'))
    case atStart => exact ⟨(0), (0), (by first | rfl | (simp; done) | (simp [*]; done)), (by first | rfl | (simp; done) | (simp [*]; done)), H', ⟨Nat.le_refl _⟩, ⟨by repeat (first | (with_reducible first | exact HB.out | apply below_alloc | apply pw_below_drewN | apply below_drew1) | exact HB.out)⟩⟩
    case round =>
     clear H'
     try clear p2
     try clear c3
     try clear c3b0
     try clear c4
     try clear c5
     try clear c5b0
     try clear c5b1
     try clear c6
     try clear c6b0
     try clear c6b1
     obtain ⟨x4_1, x18_1, rfl, rfl, HA, HK1, HB⟩ := hrel
     cases gk with
     | zero => exact absurd HA.out (by simp [wire_TakeVary.l0])
     | succ k1 =>
      have H := HA.out
      clear HA
      simp only [wire_TakeVary.l0] at H
      by_cases c8 : x18_1 < ((l0.drop ((ji4) : Int).toNat).length : Int)
      ·rw [if_pos c8] at H
       have c8b0 : decide (x18_1 < ((l0.drop ((ji4) : Int).toNat).length : Int)) = true := decide_eq_true c8
       (try have c8n0 : decide (x18_1 < ((l0.length - ((ji4) : Int).toNat : Nat) : Int)) = true := by have h_ := of_decide_eq_true c8b0; rw [List.length_drop] at h_; exact decide_eq_true (by omega))
       clear c8
       by_cases c9 : 0 ≤ x18_1
       ·rw [if_pos c9] at H
        have c9b0 : decide (0 ≤ x18_1) = true := decide_eq_true c9
        clear c9
        by_cases c10 : x18_1 < ((l0.drop ((ji4) : Int).toNat).length : Int)
        ·rw [if_pos c10] at H
         have c10b0 : decide (x18_1 < ((l0.drop ((ji4) : Int).toNat).length : Int)) = true := decide_eq_true c10
         (try have c10n0 : decide (x18_1 < ((l0.length - ((ji4) : Int).toNat : Nat) : Int)) = true := by have h_ := of_decide_eq_true c10b0; rw [List.length_drop] at h_; exact decide_eq_true (by omega))
         clear c10
         have HC11 := asd H
         clear H
         have p515 : 0 ≤ (x18_1 : Int) := of_decide_eq_true (by first | (with_reducible assumption) | assumption)
         have q515 : x18_1 < ((l0.drop ((ji4) : Int).toNat).length : Int) := of_decide_eq_true (by first | (with_reducible assumption) | assumption)
         (try have qn515 := eq_true (show x18_1 < ((l0.length - ((ji4) : Int).toNat : Nat) : Int) from (by have h_ := q515; rw [List.length_drop] at h_; omega)))
         obtain ⟨ad515, e515, hx515_0⟩ := Kd.at_int HR514.out x18_1 p515 q515
         cases e515
         replace hx515_0 := (HB.out.cell (World.block_lt_of_cell? w _ hx515_0)).trans hx515_0
         replace p515 := eq_true p515
         replace q515 := eq_true q515
         go_upto_region 6 with (fail)
         go_cut [33] (fun v33 wc => ∃ (kq : Nat) (x33_10 : Bool), v33 = .bool x33_10 ∧ Aside0 (wire_TakeVary.j1 kq a1 x4_1 x18_1 (rd (l0.drop ((ji4) : Int).toNat) x18_1) (l0.drop ((ji4) : Int).toNat) ((l0.drop ((ji4) : Int).toNat).length : Int) x18_1 x33_10 = some (r1, r2, r3)) ∧ Aside0 (kq ≤ k1) ∧ Aside0 (Below w.heap.size w wc))
         case first =>
          have H := HC11.out
          clear HC11
          by_cases c12 : x18_1 = 0
          ·rw [if_pos c12] at H
           have c12b0 : (x18_1 == 0) = true := beq_iff_eq.mpr c12
           have c12b1 : (x18_1 != 0) = false := bne_eq_false_iff_eq.mpr c12
           clear c12
           (first | rw [c12b0] | (simp only [i64_w, i32_w]; rw [c12b0]) | skip)
           by_cases c13 : (rd (l0.drop ((ji4) : Int).toNat) x18_1) = 128
           ·rw [if_pos c13] at H
            have c13b0 : ((rd (l0.drop ((ji4) : Int).toNat) x18_1) == 128) = true := beq_iff_eq.mpr c13
            have c13b1 : ((rd (l0.drop ((ji4) : Int).toNat) x18_1) != 128) = false := bne_eq_false_iff_eq.mpr c13
            clear c13
            have H' := asd H
            clear H
            go_wp2
            go_meet
            case rel => exact ⟨_, (true), (by first | rfl | (simp; done) | (simp [*]; done)), H', ⟨by have := HK1.out; first | omega | exact Nat.le_refl _⟩, ⟨by repeat (first | (with_reducible first | exact HB.out | apply below_alloc | apply pw_below_drewN | apply below_drew1) | exact HB.out)⟩⟩
           ·rw [if_neg c13] at H
            have c13b0 : ((rd (l0.drop ((ji4) : Int).toNat) x18_1) == 128) = false := beq_eq_false_iff_ne.mpr c13
            have c13b1 : ((rd (l0.drop ((ji4) : Int).toNat) x18_1) != 128) = true := bne_iff_ne.mpr c13
            replace H := Option.bind_eq_some_iff.mp H
            obtain ⟨t516, A140, H⟩ := H
            replace H : (wire_TakeVary.j1 k1 a1 x4_1 x18_1 (rd (l0.drop ((ji4) : Int).toNat) x18_1) (l0.drop ((ji4) : Int).toNat) ((l0.drop ((ji4) : Int).toNat).length : Int) x18_1 (decide (t516 > 57))) = some (r1, r2, r3) := H
            have A14 := asd A140
            clear A140
            have H' := asd H
            clear H
            go_wp2_with (first | (go_at_call 92; (with_reducible refine (bits_Len64.calls k1 x4_1 t516 _ A14.out).mono ?_); rintro e w' ⟨rfl, ⟨nd, rfl⟩⟩))
            go_meet
            case rel => exact ⟨_, (decide (t516 > 57)), (by first | rfl | (simp; done) | (simp [*]; done)), H', ⟨by have := HK1.out; first | omega | exact Nat.le_refl _⟩, ⟨by repeat (first | (with_reducible first | exact HB.out | apply below_alloc | apply pw_below_drewN | apply below_drew1) | exact HB.out)⟩⟩
          ·rw [if_neg c12] at H
           have c12b0 : (x18_1 == 0) = false := beq_eq_false_iff_ne.mpr c12
           have c12b1 : (x18_1 != 0) = true := bne_iff_ne.mpr c12
           (first | rw [c12b0] | (simp only [i64_w, i32_w]; rw [c12b0]) | skip)
           replace H := Option.bind_eq_some_iff.mp H
           obtain ⟨t517, A150, H⟩ := H
           replace H : (wire_TakeVary.j1 k1 a1 x4_1 x18_1 (rd (l0.drop ((ji4) : Int).toNat) x18_1) (l0.drop ((ji4) : Int).toNat) ((l0.drop ((ji4) : Int).toNat).length : Int) x18_1 (decide (t517 > 57))) = some (r1, r2, r3) := H
           have A15 := asd A150
           clear A150
           have H' := asd H
           clear H
           go_wp2_with (first | (go_at_call 92; (with_reducible refine (bits_Len64.calls k1 x4_1 t517 _ A15.out).mono ?_); rintro e w' ⟨rfl, ⟨nd, rfl⟩⟩))
           go_meet
           case rel => exact ⟨_, (decide (t517 > 57)), (by first | rfl | (simp; done) | (simp [*]; done)), H', ⟨by have := HK1.out; first | omega | exact Nat.le_refl _⟩, ⟨by repeat (first | (with_reducible first | exact HB.out | apply below_alloc | apply pw_below_drewN | apply below_drew1) | exact HB.out)⟩⟩
         case rest =>
          clear HC11
          try clear c1
          try clear p2
          try clear c3
          try clear c3b0
          try clear c4
          try clear c5
          try clear c5b0
          try clear c5b1
          try clear p5
          try clear q5
          try clear hx5
          try clear c6
          try clear c6b0
          try clear c6b1
          try clear c8
          try clear c8b0
          try clear c9
          try clear c9b0
          try clear c10
          try clear c10b0
          try clear c12
          try clear c12b0
          try clear c12b1
          try clear c13
          try clear c13b0
          try clear c13b1
          try clear hx515_0
          try clear p2
          try clear p515
          try clear q515
          obtain ⟨kq, x33_10, rfl, HA, HJ10, HB⟩ := hcut
          cases kq with
          | zero => exact absurd HA.out (by simp [wire_TakeVary.j1])
          | succ kj10 =>
           have H := HA.out
           clear HA
           simp only [wire_TakeVary.j1] at H
           by_cases c16 : x33_10 = true
           ·subst c16
            have H1 : (some (0, 0, 4)) = some (r1, r2, r3) := by rw [if_pos rfl] at H; exact H
            clear H
            have H := H1
            clear H1
            simp only [Option.some.injEq, Prod.mk.injEq] at H
            obtain ⟨rfl, rfl, rfl⟩ := H
            go_wp2
            go_ret3
            exact ⟨by first | rfl | (simp [errW_none, errW_some] <;> rfl) | (simp only [← hji4]; first | rfl | (simp [errW_none, errW_some] <;> rfl)) | (simp [*, errW_none, errW_some] <;> rfl), by repeat (first | (with_reducible first | exact HB.out | apply below_alloc | apply pw_below_drewN | apply below_drew1) | exact HB.out)⟩
           ·replace c16 := Bool.eq_false_iff.mpr c16
            subst c16
            have H1 : (if (Go.bits .and .u8 (rd (l0.drop ((ji4) : Int).toNat) x18_1) 128) = 0 then (some (Go.bits .or .u64 (IntKind.u64.wrap (x4_1 * 128)) (IntKind.u64.wrap (Go.bits .and .u8 (rd (l0.drop ((ji4) : Int).toNat) x18_1) 127)), wrap64 ((wrap64 (a1 + x18_1)) + 1), 0)) else (wire_TakeVary.l0 kj10 a1 (Go.bits .or .u64 (IntKind.u64.wrap (x4_1 * 128)) (IntKind.u64.wrap (Go.bits .and .u8 (rd (l0.drop ((ji4) : Int).toNat) x18_1) 127))) (l0.drop ((ji4) : Int).toNat) ((l0.drop ((ji4) : Int).toNat).length : Int) (wrap64 (x18_1 + 1)))) = some (r1, r2, r3) := by rw [if_neg (show ¬ (false = true) by decide)] at H; exact H
            clear H
            have H := H1
            clear H1
            by_cases c17 : (Go.bits .and .u8 (rd (l0.drop ((ji4) : Int).toNat) x18_1) 128) = 0
            ·rw [if_pos c17] at H
             have c17b0 : ((Go.bits .and .u8 (rd (l0.drop ((ji4) : Int).toNat) x18_1) 128) == 0) = true := beq_iff_eq.mpr c17
             have c17b1 : ((Go.bits .and .u8 (rd (l0.drop ((ji4) : Int).toNat) x18_1) 128) != 0) = false := bne_eq_false_iff_eq.mpr c17
             clear c17
             simp only [Option.some.injEq, Prod.mk.injEq] at H
             obtain ⟨rfl, rfl, rfl⟩ := H
             go_wp2
             go_ret3
             exact ⟨by first | rfl | (simp [errW_none, errW_some] <;> rfl) | (simp only [← hji4]; first | rfl | (simp [errW_none, errW_some] <;> rfl)) | (simp [*, errW_none, errW_some] <;> rfl), by repeat (first | (with_reducible first | exact HB.out | apply below_alloc | apply pw_below_drewN | apply below_drew1) | exact HB.out)⟩
            ·rw [if_neg c17] at H
             have c17b0 : ((Go.bits .and .u8 (rd (l0.drop ((ji4) : Int).toNat) x18_1) 128) == 0) = false := beq_eq_false_iff_ne.mpr c17
             have c17b1 : ((Go.bits .and .u8 (rd (l0.drop ((ji4) : Int).toNat) x18_1) 128) != 0) = true := bne_iff_ne.mpr c17
             have H' := asd H
             clear H
             go_wp2
             go_roundg kj10
             case measure => have := HK1.out; have := HJ10.out; omega
             case rel => exact ⟨(Go.bits .or .u64 (IntKind.u64.wrap (x4_1 * 128)) (IntKind.u64.wrap (Go.bits .and .u8 (rd (l0.drop ((ji4) : Int).toNat) x18_1) 127))), (wrap64 (x18_1 + 1)), (by first | rfl | (simp; done) | (simp only [← hji4] <;> (first | rfl | simp)) | (simp [*]; done)), (by first | rfl | (simp; done) | (simp [*]; done)), H', ⟨by have := HK1.out; have := HJ10.out; omega⟩, ⟨by repeat (first | (with_reducible first | exact HB.out | apply below_alloc | apply pw_below_drewN | apply below_drew1) | exact HB.out)⟩⟩
        ·rw [if_neg c10] at H
         exact absurd H (by simp)
       ·rw [if_neg c9] at H
        exact absurd H (by simp)
      ·rw [if_neg c8] at H
       have c8b0 : decide (x18_1 < ((l0.drop ((ji4) : Int).toNat).length : Int)) = false := decide_eq_false c8
       (try have c8n0 : decide (x18_1 < ((l0.length - ((ji4) : Int).toNat : Nat) : Int)) = false := by have h_ := of_decide_eq_false c8b0; rw [List.length_drop] at h_; exact decide_eq_false (by omega))
       clear c8
       simp only [Option.some.injEq, Prod.mk.injEq] at H
       obtain ⟨rfl, rfl, rfl⟩ := H
       go_wp2
       go_ret3
       exact ⟨by first | rfl | (simp [errW_none, errW_some] <;> rfl) | (simp only [← hji4]; first | rfl | (simp [errW_none, errW_some] <;> rfl)) | (simp [*, errW_none, errW_some] <;> rfl), by repeat (first | (with_reducible first | exact HB.out | apply below_alloc | apply pw_below_drewN | apply below_drew1) | exact HB.out)⟩
   ·rw [if_neg c6] at H
    exact absurd H (by simp)
  ·rw [if_neg c5] at H
   exact absurd H (by simp)


/-! ### frame_Check: function 48 -/
def frame_Check.j0 : Nat → Bool → Int → Int → Int → Int → Option (Int)
 | 0, _, _, _, _, _ => none
 | k + 1, x3, x519000, x519001, x519002, x519003 => if x3 = true then (some 1) else (if x519001 < 0 then (some 1) else (if x519001 ≥ 16 then (some 1) else (if x519002 > 4294967296 then (some 1) else (some 0))))
def frame_Check.f (k : Nat) (a0_0 : Int) (a0_1 : Int) (a0_2 : Int) (a0_3 : Int) : Option (Int) := if a0_0 = 1 then (frame_Check.j0 k false a0_0 a0_1 a0_2 a0_3) else (frame_Check.j0 k (a0_0 != 2) a0_0 a0_1 a0_2 a0_3)
set_option maxHeartbeats 8000000 in
set_option maxRecDepth 100000 in
theorem frame_Check.calls (k : Nat) (a0_0 : Int) (a0_1 : Int) (a0_2 : Int) (a0_3 : Int) (r : Int) (w : World) (h : frame_Check.f k a0_0 a0_1 a0_2 a0_3 = some r) :
  Calls Tryz.prog 48 #[.agg #[.int .i64 a0_0, .int .i64 a0_1, .int .u64 a0_2, .int .u16 a0_3]] w fun e w' => e = .returned (.int .i64 r) ∧ Below w.heap.size w w' := by
 have hu43 := Tryz.underlying43
 have HB := asd (Below.refl w.heap.size w)
 have H : (if a0_0 = 1 then (frame_Check.j0 k false a0_0 a0_1 a0_2 a0_3) else (frame_Check.j0 k (a0_0 != 2) a0_0 a0_1 a0_2 a0_3)) = some r := h
 clear h
 have HC2 := asd H
 clear H
 go_enter Tryz.func48, Tryz.ntmps48
 go_upto_region 1 with (first | ((with_reducible refine gate_dst (N := 1) rfl ?_); refine bx (N := 1) (cs := #[.int .i64 a0_0, .int .i64 a0_1, .int .u64 a0_2, .int .u16 a0_3]) (t := 43) ?_; intro gb518 hg w3 hbox hb; have BK518 := asd (hbox); have GW518 := bz HB hg; have GE518 := bz HB hg; replace HB := bs HB hb; clear hb hbox hg))
 (try simp only [Act.put, List.setIfInBounds_toArray, List.set_cons_zero, List.set_cons_succ])
 go_cut [3] (fun v3 wc => ∃ (kq : Nat) (x3_1 : Bool), v3 = .bool x3_1 ∧ Aside0 (frame_Check.j0 kq x3_1 a0_0 a0_1 a0_2 a0_3 = some r) ∧ Aside0 (kq ≤ k) ∧ Aside0 (wc.heap[gb518]? = some (.cells #[.int .i64 a0_0, .int .i64 a0_1, .int .u64 a0_2, .int .u16 a0_3] 43 (0, 0))) ∧ Aside0 (Below w.heap.size w wc))
 case first =>
  have H := HC2.out
  clear HC2
  by_cases c4 : a0_0 = 1
  ·rw [if_pos c4] at H
   have c4b0 : (a0_0 == 1) = true := beq_iff_eq.mpr c4
   have c4b1 : (a0_0 != 1) = false := bne_eq_false_iff_eq.mpr c4
   clear c4
   (first | rw [c4b0] | (simp only [i64_w, i32_w]; rw [c4b0]) | skip)
   have H' := asd H
   clear H
   have hcz5 := cf4 BK518
   go_wp2
   go_meet
   case rel => exact ⟨_, (false), (by first | rfl | (simp; done) | (simp [*]; done)), H', ⟨by first | omega | exact Nat.le_refl _⟩, ⟨by (with_reducible repeat (first | refine blk_drewN ?_ _ | refine blk_drew ?_ | refine blk_alloc ?_ _)); exact BK518.out⟩, ⟨by repeat (first | (with_reducible first | exact HB.out | apply below_alloc | apply pw_below_drewN | apply below_drew1 | refine below_set ?_ GE518.out) | exact HB.out)⟩⟩
  ·rw [if_neg c4] at H
   have c4b0 : (a0_0 == 1) = false := beq_eq_false_iff_ne.mpr c4
   have c4b1 : (a0_0 != 1) = true := bne_iff_ne.mpr c4
   (first | rw [c4b0] | (simp only [i64_w, i32_w]; rw [c4b0]) | skip)
   have H' := asd H
   clear H
   have hcz6 := cf4 BK518
   go_wp2
   go_meet
   case rel => exact ⟨_, ((a0_0 != 2)), (by first | rfl | (simp; done) | (simp [*]; done)), H', ⟨by first | omega | exact Nat.le_refl _⟩, ⟨by (with_reducible repeat (first | refine blk_drewN ?_ _ | refine blk_drew ?_ | refine blk_alloc ?_ _)); exact BK518.out⟩, ⟨by repeat (first | (with_reducible first | exact HB.out | apply below_alloc | apply pw_below_drewN | apply below_drew1 | refine below_set ?_ GE518.out) | exact HB.out)⟩⟩
 case rest =>
  clear HC2
  try clear p2
  try clear c4
  try clear c4b0
  try clear c4b1
  try clear hcz5
  try clear hcz5
  try clear hcz5
  try clear hcz5
  try clear hcz6
  try clear hcz6
  try clear hcz6
  try clear hcz6
  try clear hcz5
  try clear hcz5
  try clear hcz5
  try clear hcz5
  try clear hcz6
  try clear hcz6
  try clear hcz6
  try clear hcz6
  obtain ⟨kq, x3_1, rfl, HA, HJ1, BK518, HB⟩ := hcut
  cases kq with
  | zero => exact absurd HA.out (by simp [frame_Check.j0])
  | succ kj1 =>
   have H := HA.out
   clear HA
   simp only [frame_Check.j0] at H
   by_cases c7 : x3_1 = true
   ·subst c7
    have H1 : (some 1) = some r := by rw [if_pos rfl] at H; exact H
    clear H
    have H := H1
    clear H1
    obtain rfl := Option.some.inj H
    go_wp2
    go_ret
    exact ⟨by first | rfl | (simp [errW_none, errW_some] <;> rfl) | (simp [*, errW_none, errW_some] <;> rfl), by repeat (first | (with_reducible first | exact HB.out | apply below_alloc | apply pw_below_drewN | apply below_drew1 | refine below_set ?_ GE518.out) | exact HB.out)⟩
   ·replace c7 := Bool.eq_false_iff.mpr c7
    subst c7
    have H1 : (if a0_1 < 0 then (some 1) else (if a0_1 ≥ 16 then (some 1) else (if a0_2 > 4294967296 then (some 1) else (some 0)))) = some r := by rw [if_neg (show ¬ (false = true) by decide)] at H; exact H
    clear H
    have H := H1
    clear H1
    by_cases c8 : a0_1 < 0
    ·rw [if_pos c8] at H
     have c8b0 : decide (a0_1 < 0) = true := decide_eq_true c8
     clear c8
     obtain rfl := Option.some.inj H
     have hcz9 := cf4 BK518
     go_wp2
     go_ret
     exact ⟨by first | rfl | (simp [errW_none, errW_some] <;> rfl) | (simp [*, errW_none, errW_some] <;> rfl), by repeat (first | (with_reducible first | exact HB.out | apply below_alloc | apply pw_below_drewN | apply below_drew1 | refine below_set ?_ GE518.out) | exact HB.out)⟩
    ·rw [if_neg c8] at H
     have c8b0 : decide (a0_1 < 0) = false := decide_eq_false c8
     clear c8
     by_cases c10 : a0_1 ≥ 16
     ·rw [if_pos c10] at H
      have c10b0 : decide (16 ≤ a0_1) = true := decide_eq_true c10
      clear c10
      obtain rfl := Option.some.inj H
      have hcz11 := cf4 BK518
      go_wp2
      go_ret
      exact ⟨by first | rfl | (simp [errW_none, errW_some] <;> rfl) | (simp [*, errW_none, errW_some] <;> rfl), by repeat (first | (with_reducible first | exact HB.out | apply below_alloc | apply pw_below_drewN | apply below_drew1 | refine below_set ?_ GE518.out) | exact HB.out)⟩
     ·rw [if_neg c10] at H
      have c10b0 : decide (16 ≤ a0_1) = false := decide_eq_false c10
      clear c10
      by_cases c12 : a0_2 > 4294967296
      ·rw [if_pos c12] at H
       have c12b0 : decide (4294967296 < a0_2) = true := decide_eq_true c12
       clear c12
       obtain rfl := Option.some.inj H
       have hcz13 := cf4 BK518
       go_wp2
       go_ret
       exact ⟨by first | rfl | (simp [errW_none, errW_some] <;> rfl) | (simp [*, errW_none, errW_some] <;> rfl), by repeat (first | (with_reducible first | exact HB.out | apply below_alloc | apply pw_below_drewN | apply below_drew1 | refine below_set ?_ GE518.out) | exact HB.out)⟩
      ·rw [if_neg c12] at H
       have c12b0 : decide (4294967296 < a0_2) = false := decide_eq_false c12
       clear c12
       obtain rfl := Option.some.inj H
       have hcz14 := cf4 BK518
       go_wp2
       go_ret
       exact ⟨by first | rfl | (simp [errW_none, errW_some] <;> rfl) | (simp [*, errW_none, errW_some] <;> rfl), by repeat (first | (with_reducible first | exact HB.out | apply below_alloc | apply pw_below_drewN | apply below_drew1 | refine below_set ?_ GE518.out) | exact HB.out)⟩


/-! ### frame_Read: function 12 -/
/-- frame.Read's inner function: a number of a width, if nothing was wrong ahead of it. -/
def frame_Read_1.f (k : Nat) (l : List Int) (e p wd : Int) : Option (Int × Int × Int) := if e = 0 then wire_TakeFixed.f k l p wd else some (0, p, e)
set_option maxHeartbeats 4000000 in
set_option maxRecDepth 100000 in
theorem frame_Read_1.calls (k : Nat) (e p wd n p' e' : Int) (ge gb ga : Nat) (A : Option Addr) (c : Nat) (l : List Int) (w : World)
  (hE : w.heap[ge]? = some (.cells #[.int .i64 e] 36 (0, 0))) (hB : w.heap[gb]? = some (.cells #[.slice A l.length c] 33 (0, 0))) (hP : w.heap[ga]? = some (.cells #[.int .i64 p] 3 (0, 0)))
  (hr : Kd.C (Kd.int .u8) w A l.length l) (hc : l.length ≤ c) (h : frame_Read_1.f k l e p wd = some (n, p', e')) :
  Calls Tryz.prog 45 #[.int .i64 wd, .pointer (some ⟨ge, 0, none⟩), .pointer (some ⟨gb, 0, none⟩), .pointer (some ⟨ga, 0, none⟩)] w fun r w' => r = .returned (.int .u64 n) ∧ w'.heap[ge]? = some (.cells #[.int .i64 e'] 36 (0, 0)) ∧ w'.heap[ga]? = some (.cells #[.int .i64 p'] 3 (0, 0)) ∧ (∀ j, j ≠ ge → j ≠ ga → w'.heap[j]? = w.heap[j]?) ∧ (∀ B, B ≤ ge → B ≤ ga → Below B w w') := by
 unfold frame_Read_1.f at h
 have hne : ge ≠ ga := blk_ne hE hP (by decide)
 have he : w.cell? ⟨ge, 0, none⟩ = some (.int .i64 e) := (blk_cell hE 0).trans rfl
 have fe : w.frozen? ⟨ge, 0, none⟩ = false := blk_frozen hE 0
 have hb : w.cell? ⟨gb, 0, none⟩ = some (.slice A l.length c) := (blk_cell hB 0).trans rfl
 have ha : w.cell? ⟨ga, 0, none⟩ = some (.int .i64 p) := (blk_cell hP 0).trans rfl
 have fa : w.frozen? ⟨ga, 0, none⟩ = false := blk_frozen hP 0
 have HE := asd hE
 have HP := asd hP
 clear hE hB hP
 by_cases c0 : e = 0
 ·subst c0
  rw [if_pos rfl] at h
  have H := asd h
  clear h
  go_enter Tryz.func45, Tryz.ntmps45
  go_wp2_with (first | (go_at_call 46; (refine (wire_TakeFixed.calls k A c l p wd n p' e' _ hr hc H.out).mono ?_); rintro r w1 ⟨rfl, hd⟩; obtain ⟨nd, rfl⟩ := hd.out; clear hd))
  go_ret
  refine ⟨rfl, blk_set (blk_far HE.out hne _) 0 _, blk_far (blk_set HP.out 0 _) (fun q => hne q.symm) _, fun j h1 h2 => (Below.heap_setCell _ _ _ j h1).trans (Below.heap_setCell _ _ _ j h2), fun B h1 h2 => (((pw_below_drewN (Below.refl B w) nd).setCell h2 _).setCell h1 _)⟩
 ·rw [if_neg c0] at h
  simp only [Option.some.injEq, Prod.mk.injEq] at h
  obtain ⟨rfl, rfl, rfl⟩ := h
  go_enter Tryz.func45, Tryz.ntmps45
  go_wp2
  go_ret
  exact ⟨rfl, HE.out, HP.out, fun _ _ _ => rfl, fun B _ _ => Below.refl B w⟩
/-- A frame read, as the code reads it: each number read through the inner function. -/
def frame_Read.f (k : Nat) (l : List Int) : Option (Int × Int × Int × Int × Int) := (crc_Open24.f l).bind fun o => if o.2 = 0 then ((frame_Read_1.f k o.1 0 0 1).bind fun h => (frame_Read_1.f k o.1 h.2.2 h.2.1 1).bind fun a => (frame_Read_1.f k o.1 a.2.2 a.2.1 1).bind fun b => (if b.2.2 = 0 then wire_TakeVary.f k o.1 b.2.1 else some (0, b.2.1, b.2.2)).bind fun v => (frame_Read_1.f k o.1 v.2.2 v.2.1 2).bind fun m => if m.2.2 = 0 ∧ h.1 = 161 ∧ m.2.1 = (o.1.length : Int) then ((frame_Check.f k (wrap64 a.1) (wrap64 b.1) v.1 (IntKind.u16.wrap m.1)).bind fun c => some (if c = 0 then (wrap64 a.1, wrap64 b.1, v.1, IntKind.u16.wrap m.1, 0) else (0, 0, 0, 0, 4))) else some (0, 0, 0, 0, 4)) else some (0, 0, 0, 0, o.2)
theorem frame_hmf : ∀ (fn : Fn) (first cap : Array Value) (w : World), (Instr.makeFunc fn first cap).run Tryz.prog w = .ok (.func fn first cap) w := fun _ _ _ _ => rfl

/-- How things stand between the inner function's calls: the four variables, the bytes, what lay there before. -/
structure frame_St (w wi : World) (gb gs ge ga lo hi : Nat) (A : Option Addr) (c : Nat) (o : List Int) (e p s0 s1 s2 s3 : Int) : Prop where
 bb : wi.heap[gb]? = some (.cells #[.slice A o.length c] 33 (0, 0))
 bs : wi.heap[gs]? = some (.cells #[.int .i64 s0, .int .i64 s1, .int .u64 s2, .int .u16 s3] 43 (0, 0))
 be : wi.heap[ge]? = some (.cells #[.int .i64 e] 36 (0, 0))
 bp : wi.heap[ga]? = some (.cells #[.int .i64 p] 3 (0, 0))
 rd : Kd.R (Kd.int .u8) 5 wi lo (fun k => lo ≤ k ∧ k < hi) (.slice A o.length c) o
 bel : Below w.heap.size w wi
 gs_ : w.heap.size ≤ gs
 ge_ : w.heap.size ≤ ge ∧ hi ≤ ge
 ga_ : w.heap.size ≤ ga ∧ hi ≤ ga
 lo_ : gs < lo
section
variable {w wi : World} {gb gs ge ga lo hi : Nat} {A : Option Addr} {c : Nat} {o : List Int} {e p s0 s1 s2 s3 : Int}
theorem frame_St.nes (h : frame_St w wi gb gs ge ga lo hi A c o e p s0 s1 s2 s3) : gb ≠ gs ∧ gb ≠ ge ∧ gb ≠ ga ∧ gs ≠ ge ∧ gs ≠ ga ∧ ge ≠ ga ∧ gs ≠ gb ∧ ge ≠ gb ∧ ga ≠ gb ∧ ge ≠ gs ∧ ga ≠ gs ∧ ga ≠ ge := by
 have a := blk_ne h.bb h.bs (by decide)
 have b := blk_ne h.bb h.be (by decide)
 have c := blk_ne h.bb h.bp (by decide)
 have d := blk_ne h.bs h.be (by decide)
 have e := blk_ne h.bs h.bp (by decide)
 have f := blk_ne h.be h.bp (by decide)
 exact ⟨a, b, c, d, e, f, a.symm, b.symm, c.symm, d.symm, e.symm, f.symm⟩
theorem frame_St.cells (h : frame_St w wi gb gs ge ga lo hi A c o e p s0 s1 s2 s3) : wi.cell? ⟨gb, 0, none⟩ = some (.slice A o.length c) ∧ wi.cell? ⟨ge, 0, none⟩ = some (.int .i64 e) ∧ wi.cell? ⟨ga, 0, none⟩ = some (.int .i64 p) ∧ wi.frozen? ⟨ge, 0, none⟩ = false ∧ wi.frozen? ⟨ga, 0, none⟩ = false :=
 ⟨(blk_cell h.bb 0).trans rfl, (blk_cell h.be 0).trans rfl, (blk_cell h.bp 0).trans rfl, blk_frozen h.be 0, blk_frozen h.bp 0⟩
theorem frame_St.fields (h : frame_St w wi gb gs ge ga lo hi A c o e p s0 s1 s2 s3) : (wi.cell? ⟨gs, 0, none⟩ = some (.int .i64 s0) ∧ wi.cell? ⟨gs, 1, none⟩ = some (.int .i64 s1) ∧ wi.cell? ⟨gs, 2, none⟩ = some (.int .u64 s2) ∧ wi.cell? ⟨gs, 3, none⟩ = some (.int .u16 s3)) ∧ (wi.frozen? ⟨gs, 0, none⟩ = false ∧ wi.frozen? ⟨gs, 1, none⟩ = false ∧ wi.frozen? ⟨gs, 2, none⟩ = false ∧ wi.frozen? ⟨gs, 3, none⟩ = false) :=
 ⟨⟨(blk_cell h.bs 0).trans rfl, (blk_cell h.bs 1).trans rfl, (blk_cell h.bs 2).trans rfl, (blk_cell h.bs 3).trans rfl⟩, blk_frozen h.bs 0, blk_frozen h.bs 1, blk_frozen h.bs 2, blk_frozen h.bs 3⟩
theorem frame_St.rdC (h : frame_St w wi gb gs ge ga lo hi A c o e p s0 s1 s2 s3) : Kd.C (Kd.int .u8) wi A o.length o ∧ o.length ≤ c := by
 have := Kd.R_reads' h.rd
 exact ⟨this.2.2, this.2.1⟩
theorem frame_St.called {wj : World} (h : frame_St w wi gb gs ge ga lo hi A c o e p s0 s1 s2 s3) (hb : Below wi.heap.size wi wj) : frame_St w wj gb gs ge ga lo hi A c o e p s0 s1 s2 s3 :=
 ⟨blk_below h.bb hb, blk_below h.bs hb, blk_below h.be hb, blk_below h.bp hb, Kd.R_below h.rd hb, below_step h.bel hb, h.gs_, h.ge_, h.ga_, h.lo_⟩
theorem frame_St.innerd {wj : World} {e' p' : Int} (h : frame_St w wi gb gs ge ga lo hi A c o e p s0 s1 s2 s3) (he : wj.heap[ge]? = some (.cells #[.int .i64 e'] 36 (0, 0))) (hp : wj.heap[ga]? = some (.cells #[.int .i64 p'] 3 (0, 0)))
  (hk : ∀ j, j ≠ ge → j ≠ ga → wj.heap[j]? = wi.heap[j]?) (hb : ∀ B, B ≤ ge → B ≤ ga → Below B wi wj) : frame_St w wj gb gs ge ga lo hi A c o e' p' s0 s1 s2 s3 := by
 obtain ⟨n1, n2, n3, n4, n5, n6, _⟩ := h.nes
 exact ⟨(hk gb n2 n3).trans h.bb, (hk gs n4 n5).trans h.bs, he, hp, Kd.R_step h.rd (fun k ho _ => hk k (by have := h.ge_; omega) (by have := h.ga_; omega)), h.bel.trans (hb _ h.ge_.1 h.ga_.1), h.gs_, h.ge_, h.ga_, h.lo_⟩
theorem frame_St.setE (h : frame_St w wi gb gs ge ga lo hi A c o e p s0 s1 s2 s3) (v : Int) : frame_St w (wi.setCell ⟨ge, 0, none⟩ (.int .i64 v)) gb gs ge ga lo hi A c o v p s0 s1 s2 s3 := by
 obtain ⟨n1, n2, n3, n4, n5, n6, _⟩ := h.nes
 exact ⟨blk_far h.bb n2 _, blk_far h.bs n4 _, blk_set h.be 0 _, blk_far h.bp n6.symm _, Kd.R_far h.rd (fun k hk => by have := h.ge_; show k ≠ ge; omega) _, h.bel.setCell h.ge_.1 _, h.gs_, h.ge_, h.ga_, h.lo_⟩
theorem frame_St.setP (h : frame_St w wi gb gs ge ga lo hi A c o e p s0 s1 s2 s3) (v : Int) : frame_St w (wi.setCell ⟨ga, 0, none⟩ (.int .i64 v)) gb gs ge ga lo hi A c o e v s0 s1 s2 s3 := by
 obtain ⟨n1, n2, n3, n4, n5, n6, _⟩ := h.nes
 exact ⟨blk_far h.bb n3 _, blk_far h.bs n5 _, blk_far h.be n6 _, blk_set h.bp 0 _, Kd.R_far h.rd (fun k hk => by have := h.ga_; show k ≠ ga; omega) _, h.bel.setCell h.ga_.1 _, h.gs_, h.ge_, h.ga_, h.lo_⟩
theorem frame_St.set0 (h : frame_St w wi gb gs ge ga lo hi A c o e p s0 s1 s2 s3) (v : Int) : frame_St w (wi.setCell ⟨gs, 0, none⟩ (.int .i64 v)) gb gs ge ga lo hi A c o e p v s1 s2 s3 := by
 obtain ⟨n1, n2, n3, n4, n5, n6, _⟩ := h.nes
 exact ⟨blk_far h.bb n1 _, blk_set h.bs 0 _, blk_far h.be n4.symm _, blk_far h.bp n5.symm _, Kd.R_far h.rd (fun k hk => by have := h.lo_; show k ≠ gs; omega) _, h.bel.setCell h.gs_ _, h.gs_, h.ge_, h.ga_, h.lo_⟩
theorem frame_St.set1 (h : frame_St w wi gb gs ge ga lo hi A c o e p s0 s1 s2 s3) (v : Int) : frame_St w (wi.setCell ⟨gs, 1, none⟩ (.int .i64 v)) gb gs ge ga lo hi A c o e p s0 v s2 s3 := by
 obtain ⟨n1, n2, n3, n4, n5, n6, _⟩ := h.nes
 exact ⟨blk_far h.bb n1 _, blk_set h.bs 1 _, blk_far h.be n4.symm _, blk_far h.bp n5.symm _, Kd.R_far h.rd (fun k hk => by have := h.lo_; show k ≠ gs; omega) _, h.bel.setCell h.gs_ _, h.gs_, h.ge_, h.ga_, h.lo_⟩
theorem frame_St.set2 (h : frame_St w wi gb gs ge ga lo hi A c o e p s0 s1 s2 s3) (v : Int) : frame_St w (wi.setCell ⟨gs, 2, none⟩ (.int .u64 v)) gb gs ge ga lo hi A c o e p s0 s1 v s3 := by
 obtain ⟨n1, n2, n3, n4, n5, n6, _⟩ := h.nes
 exact ⟨blk_far h.bb n1 _, blk_set h.bs 2 _, blk_far h.be n4.symm _, blk_far h.bp n5.symm _, Kd.R_far h.rd (fun k hk => by have := h.lo_; show k ≠ gs; omega) _, h.bel.setCell h.gs_ _, h.gs_, h.ge_, h.ga_, h.lo_⟩
theorem frame_St.set3 (h : frame_St w wi gb gs ge ga lo hi A c o e p s0 s1 s2 s3) (v : Int) : frame_St w (wi.setCell ⟨gs, 3, none⟩ (.int .u16 v)) gb gs ge ga lo hi A c o e p s0 s1 s2 v := by
 obtain ⟨n1, n2, n3, n4, n5, n6, _⟩ := h.nes
 exact ⟨blk_far h.bb n1 _, blk_set h.bs 3 _, blk_far h.be n4.symm _, blk_far h.bp n5.symm _, Kd.R_far h.rd (fun k hk => by have := h.lo_; show k ≠ gs; omega) _, h.bel.setCell h.gs_ _, h.gs_, h.ge_, h.ga_, h.lo_⟩
end
theorem frame_first {w w1 w2 w3 w4 w5 : World} {gb gs ge ga : Nat} {A0 A1 : Option Addr} {c0 c2 : Nat} {l0 o : List Int} (HB1 : Below w.heap.size w w1) (HB2 : Below w1.heap.size w1 w2) (HB3 : Below w2.heap.size w2 w3) (HB4 : Below w3.heap.size w3 w4) (e1 : gb = w.heap.size) (e2 : gs = w1.heap.size) (e3 : ge = w3.heap.size) (e4 : ga = ((w4.setCell ⟨gb, 0, none⟩ (.slice A1 o.length c2)).setCell ⟨ge, 0, none⟩ (.int .i64 0)).heap.size)
  (BB : w4.heap[gb]? = some (.cells #[.slice A0 l0.length c0] 33 (0, 0))) (BS : w4.heap[gs]? = some (.cells #[.int .i64 0, .int .i64 0, .int .u64 0, .int .u16 0] 43 (0, 0))) (BE : w4.heap[ge]? = some (.cells #[.int .i64 0] 36 (0, 0))) (BP : w5.heap[ga]? = some (.cells #[.int .i64 0] 3 (0, 0)))
  (HO : Kd.R (Kd.int .u8) 5 w3 w2.heap.size (fun _ => True) (.slice A1 o.length c2) o) (hs : gs < w2.heap.size) (HB5 : Below ((w4.setCell ⟨gb, 0, none⟩ (.slice A1 o.length c2)).setCell ⟨ge, 0, none⟩ (.int .i64 0)).heap.size ((w4.setCell ⟨gb, 0, none⟩ (.slice A1 o.length c2)).setCell ⟨ge, 0, none⟩ (.int .i64 0)) w5) : frame_St w w5 gb gs ge ga w2.heap.size w3.heap.size A1 c2 o 0 0 0 0 0 0 := by
 have n1 : ge ≠ gb := blk_ne BE BB (by decide)
 have n2 : ge ≠ gs := blk_ne BE BS (by decide)
 have n3 : gb ≠ gs := blk_ne BB BS (by decide)
 have z1 := HB1.size
 have z2 := HB2.size
 have z3 := HB3.size
 have z4 := HB4.size
 have hsz : ((w4.setCell ⟨gb, 0, none⟩ (.slice A1 o.length c2)).setCell ⟨ge, 0, none⟩ (.int .i64 0)).heap.size = w4.heap.size := by simp [World.setCell]
 rw [hsz] at e4
 have hb := (((below_step (below_step (below_step HB1 HB2) HB3) HB4).setCell (p := ⟨gb, 0, none⟩) (by show w.heap.size ≤ gb; omega) (.slice A1 o.length c2)).setCell (p := ⟨ge, 0, none⟩) (by show w.heap.size ≤ ge; omega) (.int .i64 0))
 have rd : Kd.R (Kd.int .u8) 5 w3 w2.heap.size (fun k => w2.heap.size ≤ k ∧ k < w3.heap.size) (.slice A1 o.length c2) o := Kd.R_mono (Kd.R_bound HO) (fun k hk => ⟨hk.2.1, hk.2.2.1⟩)
 exact ⟨blk_below (blk_far (blk_set BB 0 _) n1.symm _) HB5, blk_below (blk_far (blk_far BS n3.symm _) n2.symm _) HB5, blk_below (blk_set (blk_far BE n1 _) 0 _) HB5, BP, Kd.R_below (Kd.R_far (Kd.R_far (Kd.R_below rd HB4) (fun k hk => by show k ≠ gb; omega) _) (fun k hk => by show k ≠ ge; omega) _) HB5, below_step hb HB5, by omega, by omega, by omega, hs⟩
set_option maxHeartbeats 8000000 in
set_option maxRecDepth 100000 in
theorem frame_Read.calls (k : Nat) (A0 : Option Addr) (c0 : Nat) (l0 : List Int) (r1 : Int) (r2 : Int) (r3 : Int) (r4 : Int) (r5 : Int) (w : World) (hr0 : Kd.C (Kd.int .u8) w A0 l0.length l0) (hc0 : l0.length ≤ c0) (h : frame_Read.f k l0 = some (r1, r2, r3, r4, r5)) :
  Calls Tryz.prog 12 #[.slice A0 l0.length c0] w fun e w' => e = .returned (.tuple #[.agg #[.int .i64 r1, .int .i64 r2, .int .u64 r3, .int .u16 r4], .int .i64 r5]) ∧ Below w.heap.size w w' := by
 have hmf := frame_hmf
 unfold frame_Read.f at h
 replace h := Option.bind_eq_some_iff.mp h
 obtain ⟨⟨o, e0⟩, h1, h⟩ := h
 have H1 := asd h1
 clear h1
 have HR := asd hr0
 have HC := asd hc0
 clear hr0 hc0
 by_cases c1 : e0 = 0
 ·subst c1
  rw [if_pos rfl] at h
  replace h := Option.bind_eq_some_iff.mp h
  obtain ⟨⟨n1, p1, e1⟩, f1, h⟩ := h
  replace h := Option.bind_eq_some_iff.mp h
  obtain ⟨⟨n2, p2, e2⟩, f2, h⟩ := h
  replace h := Option.bind_eq_some_iff.mp h
  obtain ⟨⟨n3, p3, e3⟩, f3, h⟩ := h
  replace h := Option.bind_eq_some_iff.mp h
  obtain ⟨⟨n4, p4, e4⟩, fv, h⟩ := h
  replace h := Option.bind_eq_some_iff.mp h
  obtain ⟨⟨n5, p5, e5⟩, f4, h⟩ := h
  have F1 := asd f1
  have F2 := asd f2
  have F3 := asd f3
  have F4 := asd f4
  clear f1 f2 f3 f4
  simp only at fv h
  have FV0 := asd fv
  have HH := asd h
  clear fv h
  go_enter Tryz.func12, Tryz.ntmps12
  go_upto_region 6 with (first
   | ((with_reducible refine gate_dst (N := 1) rfl ?_); refine bx (N := 1) (cs := #[.slice A0 l0.length c0]) (t := 33) ?_; intro gb hgb w1 hbox hb1; have BB := asd hbox; have HB1 := asd hb1; have HGB := asd hgb; have cb1 : w1.cell? ⟨gb, 0, none⟩ = some (.slice A0 l0.length c0) := (blk_cell hbox 0).trans rfl; clear hbox hb1 hgb)
   | ((with_reducible refine gate_dst (N := 2) rfl ?_); refine bx (N := 2) (cs := #[.int .i64 0, .int .i64 0, .int .u64 0, .int .u16 0]) (t := 43) ?_; intro gs hgs w2 hbox hb2; have BS := asd hbox; have HB2 := asd hb2; have HGS := asd hgs; have BB2 := asd (blk_below BB.out hb2); have cb2 : w2.cell? ⟨gb, 0, none⟩ = some (.slice A0 l0.length c0) := (blk_cell BB2.out 0).trans rfl; clear hbox hb2 hgs cb1)
   | (go_at_call 44; (refine (crc_Open24.calls A0 c0 l0 o 0 _ (Kd.C_below (Kd.C_below HR.out HB1.out) HB2.out) HC.out H1.out).mono ?_); rintro r w3 ⟨v, rfl, ho, hb3⟩; obtain ⟨A1, c2, ev⟩ := Kd.R_slice ho; subst ev; have HO := asd ho; have HB3 := asd hb3; have BB3 := asd (blk_below BB2.out hb3); have BS3 := asd (blk_below BS.out hb3); have cb3 : w3.cell? ⟨gb, 0, none⟩ = some (.slice A0 l0.length c0) := (blk_cell BB3.out 0).trans rfl; have fb3 : w3.frozen? ⟨gb, 0, none⟩ = false := blk_frozen BB3.out 0; clear ho hb3 cb2)
   | ((with_reducible refine gate_dst (N := 4) rfl ?_); refine bx (N := 4) (cs := #[.int .i64 0]) (t := 36) ?_; intro ge hge w4 hbox hb4; have BE := asd hbox; have HB4 := asd hb4; have HGE := asd hge; have BB4 := asd (blk_below BB3.out hb4); have BS4 := asd (blk_below BS3.out hb4); have cb4 : w4.cell? ⟨gb, 0, none⟩ = some (.slice A0 l0.length c0) := (blk_cell BB4.out 0).trans rfl; have fb4 : w4.frozen? ⟨gb, 0, none⟩ = false := blk_frozen BB4.out 0; have ce4 : w4.cell? ⟨ge, 0, none⟩ = some (.int .i64 0) := (blk_cell hbox 0).trans rfl; have fe4 : w4.frozen? ⟨ge, 0, none⟩ = false := blk_frozen hbox 0; have n1 : ge ≠ gb := blk_ne hbox BB4.out (by decide); have n2 : ge ≠ gs := blk_ne hbox BS4.out (by decide); have n3 : gb ≠ gs := blk_ne BB4.out BS4.out (by decide); have s0 : w4.cell? ⟨gs, 0, none⟩ = some (.int .i64 0) := (blk_cell BS4.out 0).trans rfl; have q0 : w4.frozen? ⟨gs, 0, none⟩ = false := blk_frozen BS4.out 0; have s1 : w4.cell? ⟨gs, 1, none⟩ = some (.int .i64 0) := (blk_cell BS4.out 1).trans rfl; have q1 : w4.frozen? ⟨gs, 1, none⟩ = false := blk_frozen BS4.out 1; have s2 : w4.cell? ⟨gs, 2, none⟩ = some (.int .u64 0) := (blk_cell BS4.out 2).trans rfl; have q2 : w4.frozen? ⟨gs, 2, none⟩ = false := blk_frozen BS4.out 2; have s3 : w4.cell? ⟨gs, 3, none⟩ = some (.int .u16 0) := (blk_cell BS4.out 3).trans rfl; have q3 : w4.frozen? ⟨gs, 3, none⟩ = false := blk_frozen BS4.out 3; clear hbox hb4 hge cb3 fb3)
   | ((with_reducible refine gate_dst (N := 5) rfl ?_); refine bx (N := 5) (cs := #[.int .i64 0]) (t := 3) ?_; intro ga hga w5 hbox hb5; have S5 := asd (frame_first HB1.out HB2.out HB3.out HB4.out HGB.out HGS.out HGE.out hga BB4.out BS4.out BE.out hbox HO.out (blk_lt BS.out) hb5); obtain ⟨z1, z2, z3, z4, z5, z6, z7, z8, z9, z10, z11, z12⟩ := S5.out.nes; obtain ⟨m0, m1, m2, m3, m4⟩ := S5.out.cells; obtain ⟨⟨x0, x1, x2, x3⟩, y0, y1, y2, y3⟩ := S5.out.fields; clear hbox hb5 hga cb4 fb4 ce4 fe4 s0 q0 s1 q1 s2 q2 s3 q3 n1 n2 n3)
   | fail)
  clear BB HB1 HGB BS HB2 HGS BB2 HO HB3 BB3 BS3 BE HB4 HGE BB4 BS4 HR HC H1
  go_upto_region 7 with (first
   | (go_at_call 45; (refine (frame_Read_1.calls k 0 0 1 n1 p1 e1 ge gb ga A1 c2 o _ (S5.out.setP 0).be (S5.out.setP 0).bb (S5.out.setP 0).bp (S5.out.setP 0).rdC.1 (S5.out.setP 0).rdC.2 F1.out).mono ?_); rintro r w6 ⟨rfl, he, hp, hk, hb⟩; have S6 := asd ((S5.out.setP 0).innerd he hp hk hb); clear he hp hk hb; clear m0 m1 m2 m3 m4 x0 x1 x2 x3 y0 y1 y2 y3; obtain ⟨m0, m1, m2, m3, m4⟩ := S6.out.cells; obtain ⟨⟨x0, x1, x2, x3⟩, y0, y1, y2, y3⟩ := S6.out.fields)
   | fail)
  clear S5
  go_upto_region 8 with (first
   | (go_at_call 45; (refine (frame_Read_1.calls k e1 p1 1 n2 p2 e2 ge gb ga A1 c2 o _ (S6.out).be (S6.out).bb (S6.out).bp (S6.out).rdC.1 (S6.out).rdC.2 F2.out).mono ?_); rintro r w7 ⟨rfl, he, hp, hk, hb⟩; have S7 := asd ((S6.out).innerd he hp hk hb); clear he hp hk hb; clear m0 m1 m2 m3 m4 x0 x1 x2 x3 y0 y1 y2 y3; obtain ⟨m0, m1, m2, m3, m4⟩ := S7.out.cells; obtain ⟨⟨x0, x1, x2, x3⟩, y0, y1, y2, y3⟩ := S7.out.fields)
   | fail)
  clear S6
  go_upto_region 9 with (first
   | (go_at_call 45; (refine (frame_Read_1.calls k e2 p2 1 n3 p3 e3 ge gb ga A1 c2 o _ (S7.out.set0 (wrap64 n2)).be (S7.out.set0 (wrap64 n2)).bb (S7.out.set0 (wrap64 n2)).bp (S7.out.set0 (wrap64 n2)).rdC.1 (S7.out.set0 (wrap64 n2)).rdC.2 F3.out).mono ?_); rintro r w8 ⟨rfl, he, hp, hk, hb⟩; have S8 := asd ((S7.out.set0 (wrap64 n2)).innerd he hp hk hb); clear he hp hk hb; clear m0 m1 m2 m3 m4 x0 x1 x2 x3 y0 y1 y2 y3; obtain ⟨m0, m1, m2, m3, m4⟩ := S8.out.cells; obtain ⟨⟨x0, x1, x2, x3⟩, y0, y1, y2, y3⟩ := S8.out.fields)
   | fail)
  clear S7
  have fv := FV0.out
  have h := HH.out
  clear FV0 HH
  by_cases c3 : e3 = 0
  ·rw [if_pos c3] at fv
   have FV := asd fv
   have HH := asd h
   clear fv h
   have c3b : (e3 == 0) = true := beq_iff_eq.mpr c3
   clear c3
   go_upto_region 11 with (first
    | (go_at_call 47; (refine (wire_TakeVary.calls k A1 c2 o p3 n4 p4 e4 _ (S8.out.set1 (wrap64 n3)).rdC.1 (S8.out.set1 (wrap64 n3)).rdC.2 FV.out).mono ?_); rintro r w9 ⟨rfl, hb⟩; have S9 := asd ((S8.out.set1 (wrap64 n3)).called hb); clear hb; clear m0 m1 m2 m3 m4 x0 x1 x2 x3 y0 y1 y2 y3; obtain ⟨m0, m1, m2, m3, m4⟩ := S9.out.cells; obtain ⟨⟨x0, x1, x2, x3⟩, y0, y1, y2, y3⟩ := S9.out.fields)
    | fail)
   clear S8
   go_upto_region 12 with (first
    | (go_at_call 45; (refine (frame_Read_1.calls k e4 p4 2 n5 p5 e5 ge gb ga A1 c2 o _ (((S9.out.set2 n4).setP p4).setE e4).be (((S9.out.set2 n4).setP p4).setE e4).bb (((S9.out.set2 n4).setP p4).setE e4).bp (((S9.out.set2 n4).setP p4).setE e4).rdC.1 (((S9.out.set2 n4).setP p4).setE e4).rdC.2 F4.out).mono ?_); rintro r w10 ⟨rfl, he, hp, hk, hb⟩; have S10 := asd ((((S9.out.set2 n4).setP p4).setE e4).innerd he hp hk hb); clear he hp hk hb; clear m0 m1 m2 m3 m4 x0 x1 x2 x3 y0 y1 y2 y3; obtain ⟨m0, m1, m2, m3, m4⟩ := S10.out.cells; obtain ⟨⟨x0, x1, x2, x3⟩, y0, y1, y2, y3⟩ := S10.out.fields)
    | fail)
   clear S9
   have h := HH.out
   clear HH
   by_cases d1 : e5 = 0
   ·have d1b : (e5 != 0) = false := bne_eq_false_iff_eq.mpr d1
    by_cases d2 : n1 = 161
    ·have d2b : (n1 != 161) = false := bne_eq_false_iff_eq.mpr d2
     by_cases d3 : p5 = (o.length : Int)
     ·have d3b : (p5 != (o.length : Int)) = false := bne_eq_false_iff_eq.mpr d3
      rw [if_pos ⟨d1, d2, d3⟩] at h
      clear d1 d2 d3
      replace h := Option.bind_eq_some_iff.mp h
      obtain ⟨ck, fc, h⟩ := h
      have FC := asd fc
      clear fc
      by_cases d4 : ck = 0
      ·have d4b : (ck != 0) = false := bne_eq_false_iff_eq.mpr d4
       rw [if_pos d4] at h
       clear d4
       simp only [Option.some.injEq, Prod.mk.injEq] at h
       obtain ⟨rfl, rfl, rfl, rfl, rfl⟩ := h
       go_wp2_with (first
        | (go_at_call 48; (refine (frame_Check.calls k _ _ _ _ ck _ FC.out).mono ?_); rintro r w11 ⟨rfl, hb⟩; have S11 := asd ((S10.out.set3 (IntKind.u16.wrap n5)).called hb); clear hb; clear m0 m1 m2 m3 m4 x0 x1 x2 x3 y0 y1 y2 y3; obtain ⟨m0, m1, m2, m3, m4⟩ := S11.out.cells; obtain ⟨⟨x0, x1, x2, x3⟩, y0, y1, y2, y3⟩ := S11.out.fields)
        | fail)
       refine bodyPost_ret (results_ct rfl _ _ gs 43 #[.int .i64 (wrap64 n2), .int .i64 (wrap64 n3), .int .u64 n4, .int .u16 (IntKind.u16.wrap n5)] (0, 0) _ rfl ((((S11.out.set0 (wrap64 n2)).set1 (wrap64 n3)).set2 n4).set3 (IntKind.u16.wrap n5)).bs Tryz.underlying43 rfl (by kernel_rfl)) rfl ?_
       exact ⟨rfl, ((((S11.out.set0 (wrap64 n2)).set1 (wrap64 n3)).set2 n4).set3 (IntKind.u16.wrap n5)).bel⟩
      ·have d4b : (ck != 0) = true := bne_iff_ne.mpr d4
       rw [if_neg d4] at h
       clear d4
       simp only [Option.some.injEq, Prod.mk.injEq] at h
       obtain ⟨rfl, rfl, rfl, rfl, rfl⟩ := h
       go_wp2_with (first
        | (go_at_call 48; (refine (frame_Check.calls k _ _ _ _ ck _ FC.out).mono ?_); rintro r w11 ⟨rfl, hb⟩; have S11 := asd ((S10.out.set3 (IntKind.u16.wrap n5)).called hb); clear hb; clear m0 m1 m2 m3 m4 x0 x1 x2 x3 y0 y1 y2 y3; obtain ⟨m0, m1, m2, m3, m4⟩ := S11.out.cells; obtain ⟨⟨x0, x1, x2, x3⟩, y0, y1, y2, y3⟩ := S11.out.fields)
        | fail)
       refine bodyPost_ret (results_ct rfl _ _ gs 43 #[.int .i64 0, .int .i64 0, .int .u64 0, .int .u16 0] (0, 0) _ rfl (((((S11.out).set0 0).set1 0).set2 0).set3 0).bs Tryz.underlying43 rfl (by kernel_rfl)) rfl ?_
       exact ⟨rfl, (((((S11.out).set0 0).set1 0).set2 0).set3 0).bel⟩
     ·have d3b : (p5 != (o.length : Int)) = true := bne_iff_ne.mpr d3
      rw [if_neg (fun q => d3 q.2.2)] at h
      clear d1 d2 d3
      simp only [Option.some.injEq, Prod.mk.injEq] at h
      obtain ⟨rfl, rfl, rfl, rfl, rfl⟩ := h
      go_wp2_with (first
       | fail)
      refine bodyPost_ret (results_ct rfl _ _ gs 43 #[.int .i64 0, .int .i64 0, .int .u64 0, .int .u16 0] (0, 0) _ rfl (((((S10.out.set3 (IntKind.u16.wrap n5)).set0 0).set1 0).set2 0).set3 0).bs Tryz.underlying43 rfl (by kernel_rfl)) rfl ?_
      exact ⟨rfl, (((((S10.out.set3 (IntKind.u16.wrap n5)).set0 0).set1 0).set2 0).set3 0).bel⟩
    ·have d2b : (n1 != 161) = true := bne_iff_ne.mpr d2
     rw [if_neg (fun q => d2 q.2.1)] at h
     clear d1 d2
     simp only [Option.some.injEq, Prod.mk.injEq] at h
     obtain ⟨rfl, rfl, rfl, rfl, rfl⟩ := h
     go_wp2_with (first
      | fail)
     refine bodyPost_ret (results_ct rfl _ _ gs 43 #[.int .i64 0, .int .i64 0, .int .u64 0, .int .u16 0] (0, 0) _ rfl (((((S10.out.set3 (IntKind.u16.wrap n5)).set0 0).set1 0).set2 0).set3 0).bs Tryz.underlying43 rfl (by kernel_rfl)) rfl ?_
     exact ⟨rfl, (((((S10.out.set3 (IntKind.u16.wrap n5)).set0 0).set1 0).set2 0).set3 0).bel⟩
   ·have d1b : (e5 != 0) = true := bne_iff_ne.mpr d1
    rw [if_neg (fun q => d1 q.1)] at h
    clear d1
    simp only [Option.some.injEq, Prod.mk.injEq] at h
    obtain ⟨rfl, rfl, rfl, rfl, rfl⟩ := h
    go_wp2_with (first
     | fail)
    refine bodyPost_ret (results_ct rfl _ _ gs 43 #[.int .i64 0, .int .i64 0, .int .u64 0, .int .u16 0] (0, 0) _ rfl (((((S10.out.set3 (IntKind.u16.wrap n5)).set0 0).set1 0).set2 0).set3 0).bs Tryz.underlying43 rfl (by kernel_rfl)) rfl ?_
    exact ⟨rfl, (((((S10.out.set3 (IntKind.u16.wrap n5)).set0 0).set1 0).set2 0).set3 0).bel⟩
  ·rw [if_neg c3] at fv
   simp only [Option.some.injEq, Prod.mk.injEq] at fv
   obtain ⟨rfl, rfl, rfl⟩ := fv
   have c3b : (e3 == 0) = false := beq_eq_false_iff_ne.mpr c3
   obtain ⟨rfl, rfl, rfl⟩ : 0 = n5 ∧ p3 = p5 ∧ e3 = e5 := by
    have := F4.out
    unfold frame_Read_1.f at this
    rw [if_neg c3] at this
    simpa only [Option.some.injEq, Prod.mk.injEq] using this
   have d1b : (e3 != 0) = true := bne_iff_ne.mpr c3
   rw [if_neg (fun q => c3 q.1)] at h
   clear c3
   simp only [Option.some.injEq, Prod.mk.injEq] at h
   obtain ⟨rfl, rfl, rfl, rfl, rfl⟩ := h
   go_upto_region 11 with (first
    | fail)
   go_upto_region 12 with (first
    | (go_at_call 45; (refine (frame_Read_1.calls k e3 p3 2 0 p3 e3 ge gb ga A1 c2 o _ (S8.out.set1 (wrap64 n3)).be (S8.out.set1 (wrap64 n3)).bb (S8.out.set1 (wrap64 n3)).bp (S8.out.set1 (wrap64 n3)).rdC.1 (S8.out.set1 (wrap64 n3)).rdC.2 F4.out).mono ?_); rintro r w10 ⟨rfl, he, hp, hk, hb⟩; have S10 := asd ((S8.out.set1 (wrap64 n3)).innerd he hp hk hb); clear he hp hk hb; clear m0 m1 m2 m3 m4 x0 x1 x2 x3 y0 y1 y2 y3; obtain ⟨m0, m1, m2, m3, m4⟩ := S10.out.cells; obtain ⟨⟨x0, x1, x2, x3⟩, y0, y1, y2, y3⟩ := S10.out.fields)
    | fail)
   clear S8
   go_wp2_with (first
    | fail)
   refine bodyPost_ret (results_ct rfl _ _ gs 43 #[.int .i64 0, .int .i64 0, .int .u64 0, .int .u16 0] (0, 0) _ rfl (((((S10.out.set3 0).set0 0).set1 0).set2 0).set3 0).bs Tryz.underlying43 rfl (by kernel_rfl)) rfl ?_
   exact ⟨rfl, (((((S10.out.set3 0).set0 0).set1 0).set2 0).set3 0).bel⟩
 ·have c1b : (e0 != 0) = true := bne_iff_ne.mpr c1
  rw [if_neg c1] at h
  simp only [Option.some.injEq, Prod.mk.injEq] at h
  obtain ⟨rfl, rfl, rfl, rfl, rfl⟩ := h
  go_enter Tryz.func12, Tryz.ntmps12
  go_wp2_with (first
   | ((with_reducible refine gate_dst (N := 1) rfl ?_); refine bx (N := 1) (cs := #[.slice A0 l0.length c0]) (t := 33) ?_; intro gb hgb w1 hbox hb1; have BB := asd hbox; have HB1 := asd hb1; have HGB := asd hgb; have cb1 : w1.cell? ⟨gb, 0, none⟩ = some (.slice A0 l0.length c0) := (blk_cell hbox 0).trans rfl; clear hbox hb1 hgb)
   | ((with_reducible refine gate_dst (N := 2) rfl ?_); refine bx (N := 2) (cs := #[.int .i64 0, .int .i64 0, .int .u64 0, .int .u16 0]) (t := 43) ?_; intro gs hgs w2 hbox hb2; have BS := asd hbox; have HB2 := asd hb2; have HGS := asd hgs; have BB2 := asd (blk_below BB.out hb2); have cb2 : w2.cell? ⟨gb, 0, none⟩ = some (.slice A0 l0.length c0) := (blk_cell BB2.out 0).trans rfl; clear hbox hb2 hgs cb1)
   | (go_at_call 44; (refine (crc_Open24.calls A0 c0 l0 o e0 _ (Kd.C_below (Kd.C_below HR.out HB1.out) HB2.out) HC.out H1.out).mono ?_); rintro r w3 ⟨v, rfl, ho, hb3⟩; obtain ⟨A1, c2, ev⟩ := Kd.R_slice ho; subst ev; have HO := asd ho; have HB3 := asd hb3; have BB3 := asd (blk_below BB2.out hb3); have BS3 := asd (blk_below BS.out hb3); have cb3 : w3.cell? ⟨gb, 0, none⟩ = some (.slice A0 l0.length c0) := (blk_cell BB3.out 0).trans rfl; have fb3 : w3.frozen? ⟨gb, 0, none⟩ = false := blk_frozen BB3.out 0; clear ho hb3 cb2)
   | ((with_reducible refine gate_dst (N := 4) rfl ?_); refine bx (N := 4) (cs := #[.int .i64 0]) (t := 36) ?_; intro ge hge w4 hbox hb4; have BE := asd hbox; have HB4 := asd hb4; have HGE := asd hge; have BB4 := asd (blk_below BB3.out hb4); have BS4 := asd (blk_below BS3.out hb4); have cb4 : w4.cell? ⟨gb, 0, none⟩ = some (.slice A0 l0.length c0) := (blk_cell BB4.out 0).trans rfl; have fb4 : w4.frozen? ⟨gb, 0, none⟩ = false := blk_frozen BB4.out 0; have ce4 : w4.cell? ⟨ge, 0, none⟩ = some (.int .i64 0) := (blk_cell hbox 0).trans rfl; have fe4 : w4.frozen? ⟨ge, 0, none⟩ = false := blk_frozen hbox 0; have n1 : ge ≠ gb := blk_ne hbox BB4.out (by decide); have n2 : ge ≠ gs := blk_ne hbox BS4.out (by decide); have n3 : gb ≠ gs := blk_ne BB4.out BS4.out (by decide); have s0 : w4.cell? ⟨gs, 0, none⟩ = some (.int .i64 0) := (blk_cell BS4.out 0).trans rfl; have q0 : w4.frozen? ⟨gs, 0, none⟩ = false := blk_frozen BS4.out 0; have s1 : w4.cell? ⟨gs, 1, none⟩ = some (.int .i64 0) := (blk_cell BS4.out 1).trans rfl; have q1 : w4.frozen? ⟨gs, 1, none⟩ = false := blk_frozen BS4.out 1; have s2 : w4.cell? ⟨gs, 2, none⟩ = some (.int .u64 0) := (blk_cell BS4.out 2).trans rfl; have q2 : w4.frozen? ⟨gs, 2, none⟩ = false := blk_frozen BS4.out 2; have s3 : w4.cell? ⟨gs, 3, none⟩ = some (.int .u16 0) := (blk_cell BS4.out 3).trans rfl; have q3 : w4.frozen? ⟨gs, 3, none⟩ = false := blk_frozen BS4.out 3; clear hbox hb4 hge cb3 fb3)
   | fail)
  go_region
  all_goals (try go_wp2)
  refine bodyPost_ret (results_ct rfl _ _ gs 43 #[.int .i64 0, .int .i64 0, .int .u64 0, .int .u16 0] (0, 0) _ rfl (by (with_reducible repeat (first | refine blk_drewN ?_ _ | refine blk_drew ?_)); refine blk_put (cs := #[.int .i64 0, .int .i64 0, .int .u64 0, .int .u16 0]) ?_ 3 _ rfl; refine blk_put (cs := #[.int .i64 0, .int .i64 0, .int .u64 0, .int .u16 0]) ?_ 2 _ rfl; refine blk_put (cs := #[.int .i64 0, .int .i64 0, .int .u64 0, .int .u16 0]) ?_ 1 _ rfl; refine blk_put (cs := #[.int .i64 0, .int .i64 0, .int .u64 0, .int .u16 0]) ?_ 0 _ rfl; exact blk_far (blk_far BS4.out n3.symm _) n2.symm _) Tryz.underlying43 rfl (by kernel_rfl)) rfl ?_
  have z1 := HB1.out.size
  have z2 := HB2.out.size
  have z3 := HB3.out.size
  have hb := below_step (below_step (below_step HB1.out HB2.out) HB3.out) HB4.out
  have e1 := HGB.out
  have e2 := HGS.out
  have e3 := HGE.out
  exact ⟨by simp, by (with_reducible repeat (first | apply pw_below_drewN | apply below_drew1)); exact (((((hb.setCell (by show w.heap.size ≤ gb; omega) _).setCell (by show w.heap.size ≤ ge; omega) _).setCell (by show w.heap.size ≤ gs; omega) _).setCell (by show w.heap.size ≤ gs; omega) _).setCell (by show w.heap.size ≤ gs; omega) _).setCell (by show w.heap.size ≤ gs; omega) _⟩

-- NOT PRINTED: function 39 (node_run_joins)

theorem bits_Sub64.run (x y : Int) (w : World) : (callFunc 127 #[.int .u64 x, .int .u64 y, .int .u64 0]).run Tryz.prog w = .ok (.value (.tuple #[.int .u64 (sub64Lo x y), .int .u64 (sub64Hi x y)])) w := by
 rw [run_callFunc_extern Tryz.func127 (by kernel_rfl) (by kernel_rfl) (by kernel_rfl) (e := sub64Entry0) (by kernel_rfl)]
 exact sub64_run0 x y w


/-! ### osc_Ticks: function 84 -/
def osc_Ticks.j0 : Nat → Int → Int → Bool → Int → Int → Int → Option (Int × Int)
 | 0, _, _, _, _, _, _ => none
 | k + 1, x1, x6, x29, x554000, x554001, x554002 => if x29 = true then (some (0, 1)) else ((bits_Mul64.f (IntKind.u64.wrap ((IntKind.u64.wrap (x1)) + 1)) 1000000000).bind fun bt560 => (if (IntKind.u64.wrap (bt560.1 - (sub64Hi bt560.2 (IntKind.u64.wrap ((IntKind.u64.wrap (x554002)) + 1))))) ≥ (IntKind.u64.wrap (x6)) then (some (1099511627776, 0)) else ((bits_Div64.f k (IntKind.u64.wrap (bt560.1 - (sub64Hi bt560.2 (IntKind.u64.wrap ((IntKind.u64.wrap (x554002)) + 1))))) (sub64Lo bt560.2 (IntKind.u64.wrap ((IntKind.u64.wrap (x554002)) + 1))) (IntKind.u64.wrap (x6))).bind fun bt562 => (some (wrap64 (mn bt562.1 1099511627776), 0)))))
def osc_Ticks.f (k : Nat) (a0_0 : Int) (a0_1 : Int) (a0_2 : Int) (a1 : Int) : Option (Int × Int) := (osc_Rate.f a0_0 a0_1 a0_2).bind fun bt554 => (if bt554.2 = 0 then (if a1 < 0 then (osc_Ticks.j0 k a1 bt554.1 true a0_0 a0_1 a0_2) else ((pico_May.f k (([a1] : List Int))).bind fun t559 => (osc_Ticks.j0 k a1 bt554.1 (!t559) a0_0 a0_1 a0_2))) else (osc_Ticks.j0 k a1 bt554.1 true a0_0 a0_1 a0_2))
set_option maxHeartbeats 8000000 in
set_option maxRecDepth 100000 in
theorem osc_Ticks.calls (k : Nat) (a0_0 : Int) (a0_1 : Int) (a0_2 : Int) (a1 : Int) (r1 : Int) (r2 : Int) (w : World) (h : osc_Ticks.f k a0_0 a0_1 a0_2 a1 = some (r1, r2)) :
  Calls Tryz.prog 84 #[.agg #[.int .i64 a0_0, .int .i64 a0_1, .int .i64 a0_2], .int .i64 a1] w fun e w' => e = .returned (.tuple #[.int .i64 r1, .int .i64 r2]) ∧ Below w.heap.size w w' := by
 have hext127 := bits_Sub64.run
 have hu26 := Tryz.underlying26
 have HB := asd (Below.refl w.heap.size w)
 have H : ((osc_Rate.f a0_0 a0_1 a0_2).bind fun bt554 => (if bt554.2 = 0 then (if a1 < 0 then (osc_Ticks.j0 k a1 bt554.1 true a0_0 a0_1 a0_2) else ((pico_May.f k (([a1] : List Int))).bind fun t559 => (osc_Ticks.j0 k a1 bt554.1 (!t559) a0_0 a0_1 a0_2))) else (osc_Ticks.j0 k a1 bt554.1 true a0_0 a0_1 a0_2))) = some (r1, r2) := h
 clear h
 replace H := Option.bind_eq_some_iff.mp H
 obtain ⟨⟨t554, t555⟩, A30, H⟩ := H
 replace H : (if t555 = 0 then (if a1 < 0 then (osc_Ticks.j0 k a1 t554 true a0_0 a0_1 a0_2) else ((pico_May.f k (([a1] : List Int))).bind fun t559 => (osc_Ticks.j0 k a1 t554 (!t559) a0_0 a0_1 a0_2))) else (osc_Ticks.j0 k a1 t554 true a0_0 a0_1 a0_2)) = some (r1, r2) := H
 have A3 := asd A30
 clear A30
 have HC4 := asd H
 clear H
 go_enter Tryz.func84, Tryz.ntmps84
 go_upto_region 2 with (first | ((with_reducible refine gate_dst (N := 2) rfl ?_); (try (refine gate_guard (by rfl) ?_; dsimp only)); refine bx (N := 2) (cs := #[.int .i64 a0_0, .int .i64 a0_1, .int .i64 a0_2]) (t := 26) ?_; intro gb553 hg w5 hbox hb; have BK553 := asd (hbox); have GW553 := bz HB hg; have GE553 := bz HB hg; replace HB := bs HB hb; clear hb hbox hg; have hcz6_0 : w5.cell? ⟨gb553, 0, none⟩ = some (.int .i64 a0_0) := (blk_cell BK553.out 0).trans rfl; have hcz6_1 : w5.cell? ⟨gb553, 1, none⟩ = some (.int .i64 a0_1) := (blk_cell BK553.out 1).trans rfl; have hcz6_2 : w5.cell? ⟨gb553, 2, none⟩ = some (.int .i64 a0_2) := (blk_cell BK553.out 2).trans rfl; have hfz6_0 := blk_frozen BK553.out 0; have hfz6_1 := blk_frozen BK553.out 1; have hfz6_2 := blk_frozen BK553.out 2) | ((with_reducible refine gate_callee (f := 123) rfl ?_); refine gL (some 15) Tryz.func123 #[.agg #[.int .i64 a0_0, .int .i64 a0_1, .int .i64 a0_2]] ?_; (with_reducible refine (osc_Rate.calls a0_0 a0_1 a0_2 t554 t555 _ A3.out).mono ?_); rintro e w7 ⟨rfl, hb⟩; refine ⟨_, rfl, ?_⟩; replace BK553 := bb BK553 hb; replace HB := bs HB hb; (try clear hb)))
 (try simp only [Act.put, List.setIfInBounds_toArray, List.set_cons_zero, List.set_cons_succ])
 go_cut [29] (fun v29 wc => ∃ (kq : Nat) (x29_3 : Bool), v29 = .bool x29_3 ∧ Aside0 (osc_Ticks.j0 kq a1 t554 x29_3 a0_0 a0_1 a0_2 = some (r1, r2)) ∧ Aside0 (kq ≤ k) ∧ Aside0 (wc.heap[gb553]? = some (.cells #[.int .i64 a0_0, .int .i64 a0_1, .int .i64 a0_2] 26 (0, 0))) ∧ Aside0 (Below w.heap.size w wc))
 case first =>
  have H := HC4.out
  clear HC4
  by_cases c8 : t555 = 0
  ·rw [if_pos c8] at H
   have c8b0 : (t555 == 0) = true := beq_iff_eq.mpr c8
   have c8b1 : (t555 != 0) = false := bne_eq_false_iff_eq.mpr c8
   clear c8
   (first | rw [c8b0] | (simp only [i64_w, i32_w]; rw [c8b0]) | skip)
   by_cases c9 : a1 < 0
   ·rw [if_pos c9] at H
    have c9b0 : decide (a1 < 0) = true := decide_eq_true c9
    clear c9
    have H' := asd H
    clear H
    go_wp2
    go_meet
    case rel => exact ⟨_, (true), (by first | rfl | (simp; done) | (simp [*]; done)), H', ⟨by first | omega | exact Nat.le_refl _⟩, ⟨by (with_reducible repeat (first | refine blk_drewN ?_ _ | refine blk_drew ?_ | refine blk_alloc ?_ _)); exact BK553.out⟩, ⟨by repeat (first | (with_reducible first | exact HB.out | apply below_alloc | apply pw_below_drewN | apply below_drew1 | refine below_set ?_ GE553.out) | exact HB.out)⟩⟩
   ·rw [if_neg c9] at H
    have c9b0 : decide (a1 < 0) = false := decide_eq_false c9
    clear c9
    obtain ⟨y556, hy556⟩ : ∃ y_ : List Int, y_ = (([a1] : List Int)) := ⟨_, rfl⟩
    replace H : ((pico_May.f k y556).bind fun t559 => (osc_Ticks.j0 k a1 t554 (!t559) a0_0 a0_1 a0_2)) = some (r1, r2) := by first | (rw [hy556]; with_reducible exact H) | (have H2_ := (Option.bind_some _ _).symm.trans H; rw [hy556]; with_reducible exact H2_) | (have H2_ := (Option.bind_some _ _).symm.trans H; with_reducible exact H2_) | with_reducible exact H | (rw [hy556]; exact H) | exact H
    have Ny556 := asd hy556
    clear hy556
    replace H := Option.bind_eq_some_iff.mp H
    obtain ⟨t559, A100, H⟩ := H
    replace H : (osc_Ticks.j0 k a1 t554 (!t559) a0_0 a0_1 a0_2) = some (r1, r2) := H
    have A10 := asd A100
    clear A100
    have H' := asd H
    clear H
    go_wp2_with (first | ((with_reducible refine gate_dst (N := 26) rfl ?_); (try (refine gate_guard (by rfl) ?_; dsimp only)); refine Kd.R_lit (Kd.int .i64) _ 2 ?hg (N := 26) ?hd (xs := ([a1] : List Int)) (inner := [.int .i64 a1]) (ok := fun _ => True) (okp := fun _ => True) ?hr ?hp (fun _ hk => hk) trivial (Below.refl _ _) (Nat.le_refl _) (by simp) ?_; (case hd => rfl); (case hg => rfl); (case hr => first | (go_simp; done) | (go_simp; rfl)); (case hp => exact (Reps.one (show Kd.M (Kd.int .i64) _ _ _ a1 [.int .i64 a1] from rfl) (Reps.none _ _))); intro v557 w11 ho12 hb hg_ hnew_; clear hg_ hnew_; (first | rw [← Ny556.out] at ho12 | (simp only [Int.reduceToNat] at ho12; rw [← Ny556.out] at ho12)); have HO558 := rl ho12 HB; replace BK553 := bb BK553 hb; replace HB := bs HB hb; clear hb ho12; obtain ⟨Ao13, co13, eo13⟩ := Kd.R_slice HO558.out; subst eo13) | (go_at_call 34; (with_reducible refine (pico_May.calls k _ _ y556 t559 _ ?side1 ?side2 A10.out).mono ?_); (case side1 => repeat (first | exact (Kd.R_reads' HO558.out).2.2 | (with_reducible refine Kd.C_alloc ?_ _) | (with_reducible refine Kd.C_drewN ?_ _) | (with_reducible refine Kd.C_drew ?_))); (case side2 => exact (Kd.R_reads' HO558.out).2.1); rintro e w14 ⟨rfl, hb⟩; replace HO558 := rb HO558 hb; replace BK553 := bb BK553 hb; replace HB := bs HB hb; (try clear hb)))
    go_meet
    case rel => exact ⟨_, (!t559), (by first | rfl | (simp; done) | (simp [*]; done)), H', ⟨by first | omega | exact Nat.le_refl _⟩, ⟨by (with_reducible repeat (first | refine blk_drewN ?_ _ | refine blk_drew ?_ | refine blk_alloc ?_ _)); exact BK553.out⟩, ⟨by repeat (first | (with_reducible first | exact HB.out | apply below_alloc | apply pw_below_drewN | apply below_drew1 | refine below_set ?_ GE553.out) | exact HB.out)⟩⟩
  ·rw [if_neg c8] at H
   have c8b0 : (t555 == 0) = false := beq_eq_false_iff_ne.mpr c8
   have c8b1 : (t555 != 0) = true := bne_iff_ne.mpr c8
   (first | rw [c8b0] | (simp only [i64_w, i32_w]; rw [c8b0]) | skip)
   have H' := asd H
   clear H
   go_wp2
   go_meet
   case rel => exact ⟨_, (true), (by first | rfl | (simp; done) | (simp [*]; done)), H', ⟨by first | omega | exact Nat.le_refl _⟩, ⟨by (with_reducible repeat (first | refine blk_drewN ?_ _ | refine blk_drew ?_ | refine blk_alloc ?_ _)); exact BK553.out⟩, ⟨by repeat (first | (with_reducible first | exact HB.out | apply below_alloc | apply pw_below_drewN | apply below_drew1 | refine below_set ?_ GE553.out) | exact HB.out)⟩⟩
 case rest =>
  clear HC4
  try clear c1
  try clear p2
  try clear c8
  try clear c8b0
  try clear c8b1
  try clear c9
  try clear c9b0
  try clear c12
  try clear hcz6_0
  try clear hcz6_1
  try clear hcz6_2
  try clear hfz6_0
  try clear hfz6_1
  try clear hfz6_2
  obtain ⟨kq, x29_3, rfl, HA, HJ3, BK553, HB⟩ := hcut
  cases kq with
  | zero => exact absurd HA.out (by simp [osc_Ticks.j0])
  | succ kj3 =>
   have H := HA.out
   clear HA
   simp only [osc_Ticks.j0] at H
   by_cases c15 : x29_3 = true
   ·subst c15
    have H1 : (some (0, 1)) = some (r1, r2) := by rw [if_pos rfl] at H; exact H
    clear H
    have H := H1
    clear H1
    simp only [Option.some.injEq, Prod.mk.injEq] at H
    obtain ⟨rfl, rfl⟩ := H
    go_wp2
    go_ret2
    exact ⟨by first | rfl | (simp [errW_none, errW_some] <;> rfl) | (simp [*, errW_none, errW_some] <;> rfl), by repeat (first | (with_reducible first | exact HB.out | apply below_alloc | apply pw_below_drewN | apply below_drew1 | refine below_set ?_ GE553.out) | exact HB.out)⟩
   ·replace c15 := Bool.eq_false_iff.mpr c15
    subst c15
    have H1 : ((bits_Mul64.f (IntKind.u64.wrap ((IntKind.u64.wrap (a1)) + 1)) 1000000000).bind fun bt560 => (if (IntKind.u64.wrap (bt560.1 - (sub64Hi bt560.2 (IntKind.u64.wrap ((IntKind.u64.wrap (a0_2)) + 1))))) ≥ (IntKind.u64.wrap (t554)) then (some (1099511627776, 0)) else ((bits_Div64.f kj3 (IntKind.u64.wrap (bt560.1 - (sub64Hi bt560.2 (IntKind.u64.wrap ((IntKind.u64.wrap (a0_2)) + 1))))) (sub64Lo bt560.2 (IntKind.u64.wrap ((IntKind.u64.wrap (a0_2)) + 1))) (IntKind.u64.wrap (t554))).bind fun bt562 => (some (wrap64 (mn bt562.1 1099511627776), 0))))) = some (r1, r2) := by rw [if_neg (show ¬ (false = true) by decide)] at H; exact H
    clear H
    have H := H1
    clear H1
    replace H := Option.bind_eq_some_iff.mp H
    obtain ⟨⟨t560, t561⟩, A160, H⟩ := H
    replace H : (if (IntKind.u64.wrap (t560 - (sub64Hi t561 (IntKind.u64.wrap ((IntKind.u64.wrap (a0_2)) + 1))))) ≥ (IntKind.u64.wrap (t554)) then (some (1099511627776, 0)) else ((bits_Div64.f kj3 (IntKind.u64.wrap (t560 - (sub64Hi t561 (IntKind.u64.wrap ((IntKind.u64.wrap (a0_2)) + 1))))) (sub64Lo t561 (IntKind.u64.wrap ((IntKind.u64.wrap (a0_2)) + 1))) (IntKind.u64.wrap (t554))).bind fun bt562 => (some (wrap64 (mn bt562.1 1099511627776), 0)))) = some (r1, r2) := H
    have A16 := asd A160
    clear A160
    by_cases c17 : (IntKind.u64.wrap (t560 - (sub64Hi t561 (IntKind.u64.wrap ((IntKind.u64.wrap (a0_2)) + 1))))) ≥ (IntKind.u64.wrap (t554))
    ·rw [if_pos c17] at H
     have c17b0 : decide ((IntKind.u64.wrap (t554)) ≤ (IntKind.u64.wrap (t560 - (sub64Hi t561 (IntKind.u64.wrap ((IntKind.u64.wrap (a0_2)) + 1)))))) = true := decide_eq_true c17
     clear c17
     simp only [Option.some.injEq, Prod.mk.injEq] at H
     obtain ⟨rfl, rfl⟩ := H
     go_wp2_with (first | ((with_reducible refine gate_callee (f := 124) rfl ?_); refine gL (some 34) Tryz.func124 #[.int .u64 (IntKind.u64.wrap ((IntKind.u64.wrap (a1)) + 1)), .int .u64 1000000000] ?_; (with_reducible refine (bits_Mul64.calls (IntKind.u64.wrap ((IntKind.u64.wrap (a1)) + 1)) 1000000000 t560 t561 _ A16.out).mono ?_); rintro e w' ⟨rfl, ⟨nd, rfl⟩⟩; refine ⟨_, rfl, ?_⟩; have hcz18_0 : wc.cell? ⟨gb553, 0, none⟩ = some (.int .i64 a0_0) := (blk_cell BK553.out 0).trans rfl; have hcz18_1 : wc.cell? ⟨gb553, 1, none⟩ = some (.int .i64 a0_1) := (blk_cell BK553.out 1).trans rfl; have hcz18_2 : wc.cell? ⟨gb553, 2, none⟩ = some (.int .i64 a0_2) := (blk_cell BK553.out 2).trans rfl; have hfz18_0 := blk_frozen BK553.out 0; have hfz18_1 := blk_frozen BK553.out 1; have hfz18_2 := blk_frozen BK553.out 2))
     go_ret2
     exact ⟨by first | rfl | (simp [errW_none, errW_some] <;> rfl) | (simp [*, errW_none, errW_some] <;> rfl), by repeat (first | (with_reducible first | exact HB.out | apply below_alloc | apply pw_below_drewN | apply below_drew1 | refine below_set ?_ GE553.out) | exact HB.out)⟩
    ·rw [if_neg c17] at H
     have c17b0 : decide ((IntKind.u64.wrap (t554)) ≤ (IntKind.u64.wrap (t560 - (sub64Hi t561 (IntKind.u64.wrap ((IntKind.u64.wrap (a0_2)) + 1)))))) = false := decide_eq_false c17
     clear c17
     replace H := Option.bind_eq_some_iff.mp H
     obtain ⟨⟨t562, t563⟩, A190, H⟩ := H
     replace H : (some (wrap64 (mn t562 1099511627776), 0)) = some (r1, r2) := H
     have A19 := asd A190
     clear A190
     obtain ⟨ji20, hji20⟩ : ∃ j_ : Int, (mn t562 1099511627776) = j_ := ⟨_, rfl⟩
     replace H : (some (wrap64 (ji20), 0)) = some (r1, r2) := by first | (rw [hji20] at H; exact H) | (simp only [hji20] at H ⊢; exact H)
     (try rw [hji20] at A16)
     (try rw [hji20] at A19)
     (try (have hji20h : ji20 ≤ 1099511627776 := by (rw [← hji20]; unfold mn; (repeat' split) <;> omega)))
     (try (have hji20g : ji20 ≤ 64 := by omega))
     have hji20_ : (if 1099511627776 < t562 then 1099511627776 else t562) = ji20 := hji20
     simp only [Option.some.injEq, Prod.mk.injEq] at H
     obtain ⟨rfl, rfl⟩ := H
     go_wp2_with (first | ((with_reducible refine gate_callee (f := 124) rfl ?_); refine gL (some 34) Tryz.func124 #[.int .u64 (IntKind.u64.wrap ((IntKind.u64.wrap (a1)) + 1)), .int .u64 1000000000] ?_; (with_reducible refine (bits_Mul64.calls (IntKind.u64.wrap ((IntKind.u64.wrap (a1)) + 1)) 1000000000 t560 t561 _ A16.out).mono ?_); rintro e w' ⟨rfl, ⟨nd, rfl⟩⟩; refine ⟨_, rfl, ?_⟩; have hcz21_0 : wc.cell? ⟨gb553, 0, none⟩ = some (.int .i64 a0_0) := (blk_cell BK553.out 0).trans rfl; have hcz21_1 : wc.cell? ⟨gb553, 1, none⟩ = some (.int .i64 a0_1) := (blk_cell BK553.out 1).trans rfl; have hcz21_2 : wc.cell? ⟨gb553, 2, none⟩ = some (.int .i64 a0_2) := (blk_cell BK553.out 2).trans rfl; have hfz21_0 := blk_frozen BK553.out 0; have hfz21_1 := blk_frozen BK553.out 1; have hfz21_2 := blk_frozen BK553.out 2) | ((with_reducible refine gate_callee (f := 126) rfl ?_); refine gL (some 58) Tryz.func126 #[.int .u64 (IntKind.u64.wrap (t560 - (sub64Hi t561 (IntKind.u64.wrap ((IntKind.u64.wrap (a0_2)) + 1))))), .int .u64 (sub64Lo t561 (IntKind.u64.wrap ((IntKind.u64.wrap (a0_2)) + 1))), .int .u64 (IntKind.u64.wrap (t554))] ?_; (with_reducible refine (bits_Div64.calls kj3 (IntKind.u64.wrap (t560 - (sub64Hi t561 (IntKind.u64.wrap ((IntKind.u64.wrap (a0_2)) + 1))))) (sub64Lo t561 (IntKind.u64.wrap ((IntKind.u64.wrap (a0_2)) + 1))) (IntKind.u64.wrap (t554)) t562 t563 _ A19.out).mono ?_); rintro e w' ⟨rfl, ⟨nd, rfl⟩⟩; refine ⟨_, rfl, ?_⟩))
     go_ret2
     exact ⟨by first | rfl | (simp [errW_none, errW_some] <;> rfl) | (simp only [← hji20]; first | rfl | (simp [errW_none, errW_some] <;> rfl)) | (simp [*, errW_none, errW_some] <;> rfl), by repeat (first | (with_reducible first | exact HB.out | apply below_alloc | apply pw_below_drewN | apply below_drew1 | refine below_set ?_ GE553.out) | exact HB.out)⟩

/-! ### medl_Off: function 85 -/
def medl_Off.f (a0_0 : Int) (a0_1 : Int) (a0_2 : Int) (a0_3 : Int) (a0_4 : Int) (a1 : Int) : Option (Int × Bool × Int) := (medl_Check.f a0_0 a0_1 a0_2 a0_3 a0_4).bind fun t565 => (if t565 = 0 then (if (wrap64 (a1 - a0_2)) > a1 then (some (0, false, 2)) else ((medl_within.f (wrap64 (a1 - a0_2)) (wrap64 (-a0_4)) a0_4).bind fun t566 => (some (wrap64 (a1 - a0_2), t566, 0)))) else (some (0, false, t565)))
set_option maxHeartbeats 8000000 in
set_option maxRecDepth 100000 in
theorem medl_Off.calls (a0_0 : Int) (a0_1 : Int) (a0_2 : Int) (a0_3 : Int) (a0_4 : Int) (a1 : Int) (r1 : Int) (r2 : Bool) (r3 : Int) (w : World) (h : medl_Off.f a0_0 a0_1 a0_2 a0_3 a0_4 a1 = some (r1, r2, r3)) :
  Calls Tryz.prog 85 #[.agg #[.int .i64 a0_0, .int .i64 a0_1, .int .i64 a0_2, .int .i64 a0_3, .int .i64 a0_4], .int .i64 a1] w fun e w' => e = .returned (.tuple #[.int .i64 r1, .bool r2, .int .i64 r3]) ∧ Below w.heap.size w w' := by
 have hu23 := Tryz.underlying23
 have HB := asd (Below.refl w.heap.size w)
 have H : ((medl_Check.f a0_0 a0_1 a0_2 a0_3 a0_4).bind fun t565 => (if t565 = 0 then (if (wrap64 (a1 - a0_2)) > a1 then (some (0, false, 2)) else ((medl_within.f (wrap64 (a1 - a0_2)) (wrap64 (-a0_4)) a0_4).bind fun t566 => (some (wrap64 (a1 - a0_2), t566, 0)))) else (some (0, false, t565)))) = some (r1, r2, r3) := h
 clear h
 replace H := Option.bind_eq_some_iff.mp H
 obtain ⟨t565, A30, H⟩ := H
 replace H : (if t565 = 0 then (if (wrap64 (a1 - a0_2)) > a1 then (some (0, false, 2)) else ((medl_within.f (wrap64 (a1 - a0_2)) (wrap64 (-a0_4)) a0_4).bind fun t566 => (some (wrap64 (a1 - a0_2), t566, 0)))) else (some (0, false, t565))) = some (r1, r2, r3) := H
 have A3 := asd A30
 clear A30
 by_cases c4 : t565 = 0
 ·rw [if_pos c4] at H
  have c4b0 : (t565 == 0) = true := beq_iff_eq.mpr c4
  have c4b1 : (t565 != 0) = false := bne_eq_false_iff_eq.mpr c4
  clear c4
  by_cases c5 : (wrap64 (a1 - a0_2)) > a1
  ·rw [if_pos c5] at H
   have c5b0 : decide (a1 < (wrap64 (a1 - a0_2))) = true := decide_eq_true c5
   clear c5
   simp only [Option.some.injEq, Prod.mk.injEq] at H
   obtain ⟨rfl, rfl, rfl⟩ := H
   go_enter Tryz.func85, Tryz.ntmps85
   go_wp2_with (first | ((with_reducible refine gate_dst (N := 2) rfl ?_); refine bx (N := 2) (cs := #[.int .i64 a0_0, .int .i64 a0_1, .int .i64 a0_2, .int .i64 a0_3, .int .i64 a0_4]) (t := 23) ?_; intro gb564 hg w6 hbox hb; have BK564 := asd (hbox); have GW564 := bz HB hg; have GE564 := bz HB hg; replace HB := bs HB hb; clear hb hbox hg; have hcz7 := cf5 BK564) | ((with_reducible refine gate_callee (f := 31) rfl ?_); refine gL (some 10) Tryz.func31 #[.agg #[.int .i64 a0_0, .int .i64 a0_1, .int .i64 a0_2, .int .i64 a0_3, .int .i64 a0_4]] ?_; (with_reducible refine (medl_Check.calls a0_0 a0_1 a0_2 a0_3 a0_4 t565 _ A3.out).mono ?_); rintro e w8 ⟨rfl, hb⟩; refine ⟨_, rfl, ?_⟩; replace BK564 := bb BK564 hb; replace HB := bs HB hb; (try clear hb); have hcz9 := cf5 BK564))
   go_ret3
   exact ⟨by first | rfl | (simp [errW_none, errW_some] <;> rfl) | (simp [*, errW_none, errW_some] <;> rfl), by repeat (first | (with_reducible first | exact HB.out | apply below_alloc | apply pw_below_drewN | apply below_drew1 | refine below_set ?_ GE564.out) | exact HB.out)⟩
  ·rw [if_neg c5] at H
   have c5b0 : decide (a1 < (wrap64 (a1 - a0_2))) = false := decide_eq_false c5
   clear c5
   replace H := Option.bind_eq_some_iff.mp H
   obtain ⟨t566, A100, H⟩ := H
   replace H : (some (wrap64 (a1 - a0_2), t566, 0)) = some (r1, r2, r3) := H
   have A10 := asd A100
   clear A100
   simp only [Option.some.injEq, Prod.mk.injEq] at H
   obtain ⟨rfl, rfl, rfl⟩ := H
   go_enter Tryz.func85, Tryz.ntmps85
   go_wp2_with (first | ((with_reducible refine gate_dst (N := 2) rfl ?_); refine bx (N := 2) (cs := #[.int .i64 a0_0, .int .i64 a0_1, .int .i64 a0_2, .int .i64 a0_3, .int .i64 a0_4]) (t := 23) ?_; intro gb564 hg w11 hbox hb; have BK564 := asd (hbox); have GW564 := bz HB hg; have GE564 := bz HB hg; replace HB := bs HB hb; clear hb hbox hg; have hcz12 := cf5 BK564) | ((with_reducible refine gate_callee (f := 31) rfl ?_); refine gL (some 10) Tryz.func31 #[.agg #[.int .i64 a0_0, .int .i64 a0_1, .int .i64 a0_2, .int .i64 a0_3, .int .i64 a0_4]] ?_; (with_reducible refine (medl_Check.calls a0_0 a0_1 a0_2 a0_3 a0_4 t565 _ A3.out).mono ?_); rintro e w13 ⟨rfl, hb⟩; refine ⟨_, rfl, ?_⟩; replace BK564 := bb BK564 hb; replace HB := bs HB hb; (try clear hb); have hcz14 := cf5 BK564) | ((with_reducible refine gate_callee (f := 75) rfl ?_); refine gL (some 28) Tryz.func75 #[.int .i64 (wrap64 (a1 - a0_2)), .int .i64 (wrap64 (-a0_4)), .int .i64 a0_4] ?_; (with_reducible refine (medl_within.calls (wrap64 (a1 - a0_2)) (wrap64 (-a0_4)) a0_4 t566 _ A10.out).mono ?_); rintro e w' ⟨rfl, ⟨nd, rfl⟩⟩; refine ⟨_, rfl, ?_⟩))
   go_ret3
   exact ⟨by first | rfl | (simp [errW_none, errW_some] <;> rfl) | (simp [*, errW_none, errW_some] <;> rfl), by repeat (first | (with_reducible first | exact HB.out | apply below_alloc | apply pw_below_drewN | apply below_drew1 | refine below_set ?_ GE564.out) | exact HB.out)⟩
 ·rw [if_neg c4] at H
  have c4b0 : (t565 == 0) = false := beq_eq_false_iff_ne.mpr c4
  have c4b1 : (t565 != 0) = true := bne_iff_ne.mpr c4
  simp only [Option.some.injEq, Prod.mk.injEq] at H
  obtain ⟨rfl, rfl, rfl⟩ := H
  go_enter Tryz.func85, Tryz.ntmps85
  go_wp2_with (first | ((with_reducible refine gate_dst (N := 2) rfl ?_); refine bx (N := 2) (cs := #[.int .i64 a0_0, .int .i64 a0_1, .int .i64 a0_2, .int .i64 a0_3, .int .i64 a0_4]) (t := 23) ?_; intro gb564 hg w15 hbox hb; have BK564 := asd (hbox); have GW564 := bz HB hg; have GE564 := bz HB hg; replace HB := bs HB hb; clear hb hbox hg; have hcz16 := cf5 BK564) | ((with_reducible refine gate_callee (f := 31) rfl ?_); refine gL (some 10) Tryz.func31 #[.agg #[.int .i64 a0_0, .int .i64 a0_1, .int .i64 a0_2, .int .i64 a0_3, .int .i64 a0_4]] ?_; (with_reducible refine (medl_Check.calls a0_0 a0_1 a0_2 a0_3 a0_4 t565 _ A3.out).mono ?_); rintro e w17 ⟨rfl, hb⟩; refine ⟨_, rfl, ?_⟩; replace BK564 := bb BK564 hb; replace HB := bs HB hb; (try clear hb)))
  go_ret3
  exact ⟨by first | rfl | (simp [errW_none, errW_some] <;> rfl) | (simp [*, errW_none, errW_some] <;> rfl), by repeat (first | (with_reducible first | exact HB.out | apply below_alloc | apply pw_below_drewN | apply below_drew1 | refine below_set ?_ GE564.out) | exact HB.out)⟩

end Go.Proofs.YtcofclkgfandfaaGreat.Print
