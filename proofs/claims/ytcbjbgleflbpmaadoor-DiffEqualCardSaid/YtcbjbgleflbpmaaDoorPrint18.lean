-- PRINTED by print.py (a twelfth state) out of the translation. Not trusted: Lean checks it.
import Derived.Test.YtcbjbgleflbpmaaDoorPrint0
import Derived.Test.YtcbjbgleflbpmaaDoorPrint6
import Derived.Test.YtcbjbgleflbpmaaDoorPrint7
import Derived.Test.YtcbjbgleflbpmaaDoorPrint17
namespace Go.Proofs.YtcbjbgleflbpmaaDoor.Print
open Go.RowKit Go.Proofs.YtcbjbgleflbpmaaDoorW.PrintWords Go.Proofs.YtcbjbgleflbpmaaDoorW.PrintLast Go.Proofs.YtcbjbgleflbpmaaDoorW.PrintMore Go.Proofs.YtcbjbgleflbpmaaDoorX
attribute [local go_sem] str_lss str_geq max2_int min2_int max_two min_two max_three min_three max_four min_four   -- for this text's walks alone
set_option linter.unusedVariables false
set_option linter.unusedSimpArgs false

/-! ### crc_open_at_crc_tail32: function 55 -/
def crc_open_at_crc_tail32.f (l0 : List Int) (a1 : Int)  : Option (List Int × Int) := if (wrap64 ((l0.length : Int) - a1)) < 0 then (some (([] : List Int), 3)) else (if (wrap64 ((l0.length : Int) - a1)) > 1048576 then (some (([] : List Int), 6)) else (if 0 ≤ (wrap64 ((l0.length : Int) - a1)) then (if (wrap64 ((l0.length : Int) - a1)) ≤ (l0.length : Int) then ((crc_tail32.f (l0.take ((wrap64 ((l0.length : Int) - a1)) : Int).toNat)).bind fun t252 => ((bytes_Equal.f t252 (l0.drop ((wrap64 ((l0.length : Int) - a1)) : Int).toNat)).bind fun t256 => (if t256 = true then ((slices_Clone_byte_byte.f (l0.take ((wrap64 ((l0.length : Int) - a1)) : Int).toNat)).bind fun t258 => (some (t258, 0))) else (some (([] : List Int), 5))))) else (none)) else (none)))
def crc_open_at_crc_tail32.T6 : Bool × List (List Nat × List Nat) := (true, [([], []), ([], []), ([], []), ([1, 2], [1, 2]), ([0, 3], [0, 3]), ([], []), ([], []), ([5, 6], [5, 6]), ([4, 7, 4], [4, 7]), ([8], [8]), ([9, 8], [9])])
def crc_open_at_crc_tail32.B6 : List Nat := [0, 0, 0, 6, 15, 0, 0, 96, 255, 511, 1023]
theorem crc_open_at_crc_tail32.tab6 : rtab .any (opsOf Tryd.f55 6) = crc_open_at_crc_tail32.T6 := by kernel_rfl
theorem crc_open_at_crc_tail32.bits6 : waitsOk crc_open_at_crc_tail32.T6.2 crc_open_at_crc_tail32.B6 = true := by kernel_rfl
set_option maxHeartbeats 8000000 in
set_option maxRecDepth 100000 in
theorem crc_open_at_crc_tail32.calls (A0 : Option Addr) (c0 : Nat) (l0 : List Int) (a1 : Int)  (r1 : List Int) (r2 : Int) (w : World) (hr0 : Kd.C (Kd.int .u8) w A0 l0.length l0) (hc0 : l0.length ≤ c0) (h : crc_open_at_crc_tail32.f l0 a1 = some (r1, r2)) :
  Calls Tryd.prog 55 #[.slice A0 l0.length c0, .int .i64 a1, .func (.func 52) #[] #[]] w fun e w' => ∃ v0_ : Value, e = .returned (.tuple #[v0_, .int .i64 r2]) ∧ Kd.R (Kd.int .u8) 5 w' w.heap.size (fun _ => True) v0_ r1 ∧ Below w.heap.size w w' := by
 have HR0 := Aside0.mk hr0
 have HC0 := Aside0.mk hc0
 clear hr0 hc0
 have HB := Aside0.mk (Below.refl w.heap.size w)
 have H : (if (wrap64 ((l0.length : Int) - a1)) < 0 then (some (([] : List Int), 3)) else (if (wrap64 ((l0.length : Int) - a1)) > 1048576 then (some (([] : List Int), 6)) else (if 0 ≤ (wrap64 ((l0.length : Int) - a1)) then (if (wrap64 ((l0.length : Int) - a1)) ≤ (l0.length : Int) then ((crc_tail32.f (l0.take ((wrap64 ((l0.length : Int) - a1)) : Int).toNat)).bind fun t252 => ((bytes_Equal.f t252 (l0.drop ((wrap64 ((l0.length : Int) - a1)) : Int).toNat)).bind fun t256 => (if t256 = true then ((slices_Clone_byte_byte.f (l0.take ((wrap64 ((l0.length : Int) - a1)) : Int).toNat)).bind fun t258 => (some (t258, 0))) else (some (([] : List Int), 5))))) else (none)) else (none)))) = some (r1, r2) := h
 clear h
 by_cases c4 : (wrap64 ((l0.length : Int) - a1)) < 0
 ·rw [if_pos c4] at H
  have c4b0 : decide ((wrap64 ((l0.length : Int) - a1)) < 0) = true := decide_eq_true c4
  clear c4
  simp only [Option.some.injEq, Prod.mk.injEq] at H
  obtain ⟨rfl, rfl⟩ := H
  go_enter Tryd.func55, Tryd.ntmps55
  go_wp2
  go_ret2
  exact ⟨_, by first | rfl | (simp [errW_none, errW_some] <;> rfl) | (simp [*, errW_none, errW_some] <;> rfl), by first | exact Kd.R_nil _ _ _ _ _ | exact Kd.N_nil _ _ _ _ _ | exact Kd.V_nil _ _ _ _ _ | exact Kd.Q_nil _ _ _ _ _ | exact Kd.S_nil _ _ _ _ _, by repeat (first | (with_reducible first | exact HB.out | apply below_alloc | apply pw_below_drewN | apply below_drew1) | exact HB.out)⟩
 ·rw [if_neg c4] at H
  have c4b0 : decide ((wrap64 ((l0.length : Int) - a1)) < 0) = false := decide_eq_false c4
  clear c4
  by_cases c5 : (wrap64 ((l0.length : Int) - a1)) > 1048576
  ·rw [if_pos c5] at H
   have c5b0 : decide (1048576 < (wrap64 ((l0.length : Int) - a1))) = true := decide_eq_true c5
   clear c5
   simp only [Option.some.injEq, Prod.mk.injEq] at H
   obtain ⟨rfl, rfl⟩ := H
   go_enter Tryd.func55, Tryd.ntmps55
   go_wp2
   go_ret2
   exact ⟨_, by first | rfl | (simp [errW_none, errW_some] <;> rfl) | (simp [*, errW_none, errW_some] <;> rfl), by first | exact Kd.R_nil _ _ _ _ _ | exact Kd.N_nil _ _ _ _ _ | exact Kd.V_nil _ _ _ _ _ | exact Kd.Q_nil _ _ _ _ _ | exact Kd.S_nil _ _ _ _ _, by repeat (first | (with_reducible first | exact HB.out | apply below_alloc | apply pw_below_drewN | apply below_drew1) | exact HB.out)⟩
  ·rw [if_neg c5] at H
   have c5b0 : decide (1048576 < (wrap64 ((l0.length : Int) - a1))) = false := decide_eq_false c5
   clear c5
   obtain ⟨ji6, hji6⟩ : ∃ j_ : Int, (wrap64 ((l0.length : Int) - a1)) = j_ := ⟨_, rfl⟩
   replace H : (if 0 ≤ (ji6) then (if (ji6) ≤ (l0.length : Int) then ((crc_tail32.f (l0.take ((ji6) : Int).toNat)).bind fun t252 => ((bytes_Equal.f t252 (l0.drop ((ji6) : Int).toNat)).bind fun t256 => (if t256 = true then ((slices_Clone_byte_byte.f (l0.take ((ji6) : Int).toNat)).bind fun t258 => (some (t258, 0))) else (some (([] : List Int), 5))))) else (none)) else (none)) = some (r1, r2) := by first | (rw [hji6] at H; exact H) | (simp only [hji6] at H ⊢; exact H)
   (try rw [hji6] at c4b0)
   (try rw [hji6] at c5b0)
   have hji6w : (IntKind.i64.wrap ((l0.length : Int) - a1)) = ji6 := (i64_w _).trans hji6
   by_cases c7 : 0 ≤ (ji6)
   ·rw [if_pos c7] at H
    have c7b0 := eq_true c7
    have c7b1 : decide (0 ≤ (ji6)) = true := decide_eq_true c7
    clear c7
    by_cases c8 : (ji6) ≤ (l0.length : Int)
    ·rw [if_pos c8] at H
     have c8b0 := eq_true c8
     have c8b1 : decide ((ji6) ≤ (l0.length : Int)) = true := decide_eq_true c8
     clear c8
     replace H := Option.bind_eq_some_iff.mp H
     obtain ⟨t252, A90, H⟩ := H
     replace H : ((bytes_Equal.f t252 (l0.drop ((ji6) : Int).toNat)).bind fun t256 => (if t256 = true then ((slices_Clone_byte_byte.f (l0.take ((ji6) : Int).toNat)).bind fun t258 => (some (t258, 0))) else (some (([] : List Int), 5)))) = some (r1, r2) := H
     have A9 := Aside0.mk A90
     clear A90
     have c10b0 := eq_true (of_decide_eq_true (by first | (with_reducible assumption) | assumption) : 0 ≤ (ji6))
     have c11b0 := eq_true (of_decide_eq_true (by first | (with_reducible assumption) | assumption) : (ji6) ≤ (l0.length : Int))
     replace H := Option.bind_eq_some_iff.mp H
     obtain ⟨t256, A120, H⟩ := H
     replace H : (if t256 = true then ((slices_Clone_byte_byte.f (l0.take ((ji6) : Int).toNat)).bind fun t258 => (some (t258, 0))) else (some (([] : List Int), 5))) = some (r1, r2) := H
     have A12 := Aside0.mk A120
     clear A120
     by_cases c13 : t256 = true
     ·subst c13
      have H1 : ((slices_Clone_byte_byte.f (l0.take ((ji6) : Int).toNat)).bind fun t258 => (some (t258, 0))) = some (r1, r2) := by rw [if_pos rfl] at H; exact H
      clear H
      have H := H1
      clear H1
      have c14b0 := eq_true (of_decide_eq_true (by first | (with_reducible assumption) | assumption) : 0 ≤ (ji6))
      have c15b0 := eq_true (of_decide_eq_true (by first | (with_reducible assumption) | assumption) : (ji6) ≤ (l0.length : Int))
      replace H := Option.bind_eq_some_iff.mp H
      obtain ⟨t258, A160, H⟩ := H
      replace H : (some (t258, 0)) = some (r1, r2) := H
      have A16 := Aside0.mk A160
      clear A160
      simp only [Option.some.injEq, Prod.mk.injEq] at H
      obtain ⟨rfl, rfl⟩ := H
      go_enter Tryd.func55, Tryd.ntmps55
      try go_wp2
      have n0_ := Aside0.mk (below_drew1 HB.out)
      clear HB
      have HB := n0_
      clear n0_
      obtain ⟨i018, hi018, _, hsz18, _⟩ := info_parts info5
      obtain ⟨hcut18, hA18, hC18⟩ := print_take_of (P := Tryd.prog) (Value.int .u8) 0 26 5 .i64 Tryd.underlying26 hi018 hsz18 A0 c0 l0 (ji6) (of_decide_eq_true (by first | (with_reducible assumption) | assumption)) (of_decide_eq_true (by first | (with_reducible assumption) | assumption)) HC0.out
      have HR251 := Aside0.mk (Kd.C_of_reads (h1 := fun _ => rfl) (hA18 _ (Kd.reads_of_C HR0.out)))
      have HC251 := Aside0.mk hC18
      clear hA18 hC18 hi018 hsz18
      obtain ⟨i019, hi019, _, hsz19, _⟩ := info_parts info5
      obtain ⟨A19, hcut19, hA19, hC19⟩ := print_drop_of (P := Tryd.prog) (Value.int .u8) 0 26 5 .i64 Tryd.underlying26 hi019 hsz19 A0 c0 l0 (ji6) (of_decide_eq_true (by first | (with_reducible assumption) | assumption)) (of_decide_eq_true (by first | (with_reducible assumption) | assumption)) HC0.out
      have HR255 := Aside0.mk (Kd.C_of_reads (h1 := fun _ => rfl) (hA19 _ (Kd.reads_of_C HR0.out)))
      have HC255 := Aside0.mk hC19
      clear hA19 hC19 hi019 hsz19
      refine start_ (n := 11) (S := fun w' => True) (ds := []) #[false, false, false, false, false, false, false, false, false, false, false] (by kernel_rfl) rfl rfl trivial (fun hHeld => ?_); refine with_tabW crc_open_at_crc_tail32.tab6 crc_open_at_crc_tail32.bits6 (fun HT_ HW_ => ?_)
      generalize w.drew = w17 at HB HR251 HR255 hHeld ⊢
      refine pure_ (i := 0) (N := some 20) (v := ?_) (a' := ?_) #[true, false, false, false, false, false, false, false, false, false, false] rfl rfl (any_of HT_.out (by kernel_rfl)) (fun _ _ _ h => h) (Or.inl ⟨by rfl, ?_⟩) ?_ ?_
      rotate_left
      ·intro w'
       go_simp
       with_reducible rfl
      rotate_left
      ·simp only [Act.put, List.setIfInBounds_toArray, List.set_cons_zero, List.set_cons_succ, i64_w, i32_w]
       rfl
      refine pure_ (i := 1) (N := some 21) (v := ?_) (a' := ?_) #[true, true, false, false, false, false, false, false, false, false, false] rfl rfl (any_of HT_.out (by kernel_rfl)) (fun _ _ _ h => h) (Or.inl ⟨by rfl, ?_⟩) ?_ ?_
      rotate_left
      ·intro w'
       go_simp
       with_reducible rfl
      rotate_left
      ·simp only [Act.put, List.setIfInBounds_toArray, List.set_cons_zero, List.set_cons_succ, i64_w, i32_w]
       rfl
      refine pure_ (i := 2) (N := some 22) (v := ?_) (a' := ?_) #[true, true, true, false, false, false, false, false, false, false, false] rfl rfl (any_of HT_.out (by kernel_rfl)) (fun _ _ _ h => h) (Or.inl ⟨by rfl, ?_⟩) ?_ ?_
      rotate_left
      ·intro w'
       go_simp
       with_reducible rfl
      rotate_left
      ·simp only [Act.put, List.setIfInBounds_toArray, List.set_cons_zero, List.set_cons_succ, i64_w, i32_w]
       rfl
      refine pure_ (i := 3) (N := some 23) (v := ?_) (a' := ?_) #[true, true, true, true, false, false, false, false, false, false, false] rfl rfl (any_of HT_.out (by kernel_rfl)) (fun _ _ _ h => h) (Or.inl ⟨by rfl, ?_⟩) ?_ ?_
      rotate_left
      ·intro w'
       go_simp
       with_reducible rfl
      rotate_left
      ·simp only [Act.put, List.setIfInBounds_toArray, List.set_cons_zero, List.set_cons_succ, i64_w, i32_w]
       rfl
      refine pure_ (i := 5) (N := some 25) (v := ?_) (a' := ?_) #[true, true, true, true, false, true, false, false, false, false, false] rfl rfl (any_of HT_.out (by kernel_rfl)) (fun _ _ _ h => h) (Or.inl ⟨by rfl, ?_⟩) ?_ ?_
      rotate_left
      ·intro w'
       go_simp
       with_reducible rfl
      rotate_left
      ·simp only [Act.put, List.setIfInBounds_toArray, List.set_cons_zero, List.set_cons_succ, i64_w, i32_w]
       rfl
      refine pure_ (i := 6) (N := some 26) (v := ?_) (a' := ?_) #[true, true, true, true, false, true, true, false, false, false, false] rfl rfl (any_of HT_.out (by kernel_rfl)) (fun _ _ _ h => h) (Or.inl ⟨by rfl, ?_⟩) ?_ ?_
      rotate_left
      ·intro w'
       go_simp
       with_reducible rfl
      rotate_left
      ·simp only [Act.put, List.setIfInBounds_toArray, List.set_cons_zero, List.set_cons_succ, i64_w, i32_w]
       rfl
      refine pure_ (i := 7) (N := some 27) (v := ?_) (a' := ?_) #[true, true, true, true, false, true, true, true, false, false, false] rfl rfl (any_of HT_.out (by kernel_rfl)) (fun _ _ _ h => h) (Or.inl ⟨by rfl, ?_⟩) ?_ ?_
      rotate_left
      ·intro w'
       go_simp
       with_reducible rfl
      rotate_left
      ·simp only [Act.put, List.setIfInBounds_toArray, List.set_cons_zero, List.set_cons_succ, i64_w, i32_w]
       rfl
      refine one_ (i := 4) (N := some 24) #[true, true, true, true, true, true, true, true, false, false, false] rfl rfl (one_of HT_.out (by kernel_rfl)) (by decide) (fun K hK => ?_)
      refine goesV_ Tryd.func52 (by kernel_rfl) rfl #[.slice A0 (l0.take ((ji6) : Int).toNat).length c0] (by rfl) rfl rfl (by first | rfl | (simp; done) | (go_simp; done)) (by (try simp only [List.map_toArray, List.map_cons, List.map_nil]); first | done | (rw [show (l0.take ((ji6) : Int).toNat).length = (ji6).toNat from (by rw [List.length_take]; have h_ : ((ji6) : Int) ≤ (l0.length : Int) := of_decide_eq_true (by first | (with_reducible assumption) | assumption); omega)] <;> rfl) | (simp only [hji6]; rfl) | rfl | (simp only [List.length_drop, List.length_take]; first | rfl | (rw [Nat.min_eq_left (Int.toNat_le.2 (of_decide_eq_true (by assumption)))]; rfl))) ?_
      with_reducible refine (crc_tail32.calls _ _ (l0.take ((ji6) : Int).toNat) t252 _ ?side1 ?side2 A9.out).mono ?_
      (case side1 => repeat (first | exact (Kd.C_below HR251.out HB.out) | (with_reducible refine Kd.C_alloc ?_ _) | (with_reducible refine Kd.C_drewN ?_ _) | (with_reducible refine Kd.C_drew ?_)))
      (case side2 => exact HC251.out)
      rintro e w20 ⟨v253, rfl, ho0, hb⟩
      refine ⟨_, rfl, ?_⟩
      have n0_ := Aside0.mk (Kd.R_lower ho0 (below_size (by repeat (first | (with_reducible first | exact HB.out | apply below_alloc | apply pw_below_drewN | apply below_drew1) | exact HB.out))))
      have n1_ := Aside0.mk (below_step (by repeat (first | (with_reducible first | exact HB.out | apply below_alloc | apply pw_below_drewN | apply below_drew1) | exact HB.out)) hb)
      clear HB
      have HO254 := n0_
      have HB := n1_
      clear n0_ n1_
      (try clear hb)
      (try clear hb2)
      (try clear hk)
      (try clear hi)
      (try clear ho0)
      obtain ⟨Ao21, co21, eo21⟩ := Kd.R_slice HO254.out
      (first | subst eo21 | (injection eo21 with f1_ f2_ f3_; have f4_ := f1_.symm; have f5_ := f3_.symm; clear f1_ f2_ f3_; subst f4_; subst f5_))
      refine hK.out _ _ trivial (fun hHeld => ?_)
      clear hK K
      refine norm_ (a' := ?_) ?_ ?_
      rotate_left
      ·show Act.put _ (some 24) _ = _
       simp only [Act.put, List.setIfInBounds_toArray, List.set_cons_zero, List.set_cons_succ, i64_w, i32_w]
       rfl
      refine one_ (i := 8) (N := some 28) #[true, true, true, true, true, true, true, true, true, false, false] rfl rfl (one_of HT_.out (by kernel_rfl)) (by decide) (fun K hK => ?_)
      refine goes_ Tryd.func70 (by kernel_rfl) rfl #[.slice Ao21 t252.length co21, .slice A19 (l0.drop ((ji6) : Int).toNat).length (c0 - (ji6).toNat)] (by rfl) rfl rfl (by (try simp only [List.map_toArray, List.map_cons, List.map_nil]); first | done | (rw [show (l0.drop ((ji6) : Int).toNat).length = (l0.length - (ji6).toNat) from List.length_drop] <;> rfl) | (simp only [hji6]; rfl) | rfl | (simp only [List.length_drop, List.length_take]; first | rfl | (rw [Nat.min_eq_left (Int.toNat_le.2 (of_decide_eq_true (by assumption)))]; rfl))) ?_
      with_reducible refine (bytes_Equal.calls _ _ t252 _ _ (l0.drop ((ji6) : Int).toNat) true _ ?side1 ?side2 ?side3 ?side4 A12.out).mono ?_
      (case side1 => repeat (first | exact (Kd.R_reads' HO254.out).2.2 | (with_reducible refine Kd.C_alloc ?_ _) | (with_reducible refine Kd.C_drewN ?_ _) | (with_reducible refine Kd.C_drew ?_)))
      (case side2 => exact (Kd.R_reads' HO254.out).2.1)
      (case side3 => repeat (first | exact (Kd.C_below HR255.out HB.out) | (with_reducible refine Kd.C_alloc ?_ _) | (with_reducible refine Kd.C_drewN ?_ _) | (with_reducible refine Kd.C_drew ?_)))
      (case side4 => exact HC255.out)
      rintro e w' ⟨rfl, ⟨nd, rfl⟩⟩
      refine ⟨_, rfl, ?_⟩
      refine hK.out _ _ trivial (fun hHeld => ?_)
      clear hK K
      refine norm_ (a' := ?_) ?_ ?_
      rotate_left
      ·show Act.put _ (some 28) _ = _
       simp only [Act.put, List.setIfInBounds_toArray, List.set_cons_zero, List.set_cons_succ, i64_w, i32_w]
       rfl
      refine pure_ (i := 9) (N := some 29) (v := ?_) (a' := ?_) #[true, true, true, true, true, true, true, true, true, true, false] rfl rfl (any_of HT_.out (by kernel_rfl)) (fun _ _ _ h => h) (Or.inl ⟨by rfl, ?_⟩) ?_ ?_
      rotate_left
      ·intro w'
       go_simp
       with_reducible rfl
      rotate_left
      ·simp only [Act.put, List.setIfInBounds_toArray, List.set_cons_zero, List.set_cons_succ, i64_w, i32_w]
       rfl
      refine pure_ (i := 10) (N := some 19) (v := ?_) (a' := ?_) #[true, true, true, true, true, true, true, true, true, true, true] rfl rfl (any_of HT_.out (by kernel_rfl)) (fun _ _ _ h => h) (Or.inl ⟨by rfl, ?_⟩) ?_ ?_
      rotate_left
      ·intro w'
       go_simp
       with_reducible rfl
      rotate_left
      ·simp only [Act.put, List.setIfInBounds_toArray, List.set_cons_zero, List.set_cons_succ, i64_w, i32_w]
       rfl
      refine done_ (done_of HT_.out (by kernel_rfl)) ?_
      obtain ⟨i022, hi022, _, hsz22, _⟩ := info_parts info5
      obtain ⟨hcut22, hA22, hC22⟩ := print_take_of (P := Tryd.prog) (Value.int .u8) 0 26 5 .i64 Tryd.underlying26 hi022 hsz22 A0 c0 l0 (ji6) (of_decide_eq_true (by first | (with_reducible assumption) | assumption)) (of_decide_eq_true (by first | (with_reducible assumption) | assumption)) HC0.out
      have HR257 := Aside0.mk (Kd.C_of_reads (h1 := fun _ => rfl) (hA22 _ (Kd.reads_of_C HR0.out)))
      have HC257 := Aside0.mk hC22
      clear hA22 hC22 hi022 hsz22
      try go_wp2_with (first | ((with_reducible refine gate_callee (f := 56) rfl ?_); refine goesL_ (some 33) rfl rfl Tryd.func56 (by kernel_rfl) rfl #[.slice A0 (l0.take ((ji6) : Int).toNat).length c0] rfl (by (try simp only [List.map_toArray, List.map_cons, List.map_nil]); first | done | (rw [show (l0.take ((ji6) : Int).toNat).length = (ji6).toNat from (by rw [List.length_take]; have h_ : ((ji6) : Int) ≤ (l0.length : Int) := of_decide_eq_true (by first | (with_reducible assumption) | assumption); omega)] <;> rfl) | (simp only [hji6]; rfl) | rfl | (simp only [List.length_drop, List.length_take]; first | rfl | (rw [Nat.min_eq_left (Int.toNat_le.2 (of_decide_eq_true (by assumption)))]; rfl))) ?_; (with_reducible refine (slices_Clone_byte_byte.calls _ _ (l0.take ((ji6) : Int).toNat) t258 _ ?side1 ?side2 A16.out).mono ?_); (case side1 => repeat (first | exact (Kd.C_below HR257.out (by repeat (first | (with_reducible first | exact HB.out | apply below_alloc | apply pw_below_drewN | apply below_drew1) | exact HB.out))) | (with_reducible refine Kd.C_alloc ?_ _) | (with_reducible refine Kd.C_drewN ?_ _) | (with_reducible refine Kd.C_drew ?_))); (case side2 => exact HC257.out); rintro e w23 ⟨v259, rfl, ho0, hb⟩; refine ⟨_, rfl, ?_⟩; have n0_ := Aside0.mk (Kd.R_elder' (by (with_reducible repeat (first | apply Kd.R_alloc | apply Kd.R_drewN | apply Kd.R_drew)); first | exact HO254.out | exact Kd.R_mono HO254.out (fun _ _ => trivial)) (Kd.R_base ho0) hb); have n1_ := Aside0.mk (Kd.R_lower (Kd.R_new' ho0 (Kd.R_lt (by (with_reducible repeat (first | apply Kd.R_alloc | apply Kd.R_drewN | apply Kd.R_drew)); first | exact HO254.out | exact Kd.R_mono HO254.out (fun _ _ => trivial)))) (below_size (by repeat (first | (with_reducible first | exact HB.out | apply below_alloc | apply pw_below_drewN | apply below_drew1) | exact HB.out)))); have n2_ := Aside0.mk (below_step (by repeat (first | (with_reducible first | exact HB.out | apply below_alloc | apply pw_below_drewN | apply below_drew1) | exact HB.out)) hb); clear HO254; clear HB; have HO254 := n0_; have HO260 := n1_; have HB := n2_; clear n0_ n1_ n2_; (try clear hb); (try clear hb2); (try clear hk); (try clear hi); (try clear ho0)))
      go_ret2
      exact ⟨_, by first | rfl | (simp [errW_none, errW_some] <;> rfl) | (simp only [← hji6]; first | rfl | (simp [errW_none, errW_some] <;> rfl)) | (simp [*, errW_none, errW_some] <;> rfl), by (with_reducible repeat (first | apply Kd.R_alloc | apply Kd.R_drewN | apply Kd.R_drew)); exact Kd.R_mono HO260.out (fun _ hk => trivial), by repeat (first | (with_reducible first | exact HB.out | apply below_alloc | apply pw_below_drewN | apply below_drew1) | exact HB.out)⟩
     ·replace c13 := Bool.eq_false_iff.mpr c13
      subst c13
      have H1 : (some (([] : List Int), 5)) = some (r1, r2) := by rw [if_neg (show ¬ (false = true) by decide)] at H; exact H
      clear H
      have H := H1
      clear H1
      simp only [Option.some.injEq, Prod.mk.injEq] at H
      obtain ⟨rfl, rfl⟩ := H
      go_enter Tryd.func55, Tryd.ntmps55
      try go_wp2
      have n0_ := Aside0.mk (below_drew1 HB.out)
      clear HB
      have HB := n0_
      clear n0_
      obtain ⟨i025, hi025, _, hsz25, _⟩ := info_parts info5
      obtain ⟨hcut25, hA25, hC25⟩ := print_take_of (P := Tryd.prog) (Value.int .u8) 0 26 5 .i64 Tryd.underlying26 hi025 hsz25 A0 c0 l0 (ji6) (of_decide_eq_true (by first | (with_reducible assumption) | assumption)) (of_decide_eq_true (by first | (with_reducible assumption) | assumption)) HC0.out
      have HR251 := Aside0.mk (Kd.C_of_reads (h1 := fun _ => rfl) (hA25 _ (Kd.reads_of_C HR0.out)))
      have HC251 := Aside0.mk hC25
      clear hA25 hC25 hi025 hsz25
      obtain ⟨i026, hi026, _, hsz26, _⟩ := info_parts info5
      obtain ⟨A26, hcut26, hA26, hC26⟩ := print_drop_of (P := Tryd.prog) (Value.int .u8) 0 26 5 .i64 Tryd.underlying26 hi026 hsz26 A0 c0 l0 (ji6) (of_decide_eq_true (by first | (with_reducible assumption) | assumption)) (of_decide_eq_true (by first | (with_reducible assumption) | assumption)) HC0.out
      have HR255 := Aside0.mk (Kd.C_of_reads (h1 := fun _ => rfl) (hA26 _ (Kd.reads_of_C HR0.out)))
      have HC255 := Aside0.mk hC26
      clear hA26 hC26 hi026 hsz26
      refine start_ (n := 11) (S := fun w' => True) (ds := []) #[false, false, false, false, false, false, false, false, false, false, false] (by kernel_rfl) rfl rfl trivial (fun hHeld => ?_); refine with_tabW crc_open_at_crc_tail32.tab6 crc_open_at_crc_tail32.bits6 (fun HT_ HW_ => ?_)
      generalize w.drew = w24 at HB HR251 HR255 hHeld ⊢
      refine pure_ (i := 0) (N := some 20) (v := ?_) (a' := ?_) #[true, false, false, false, false, false, false, false, false, false, false] rfl rfl (any_of HT_.out (by kernel_rfl)) (fun _ _ _ h => h) (Or.inl ⟨by rfl, ?_⟩) ?_ ?_
      rotate_left
      ·intro w'
       go_simp
       with_reducible rfl
      rotate_left
      ·simp only [Act.put, List.setIfInBounds_toArray, List.set_cons_zero, List.set_cons_succ, i64_w, i32_w]
       rfl
      refine pure_ (i := 1) (N := some 21) (v := ?_) (a' := ?_) #[true, true, false, false, false, false, false, false, false, false, false] rfl rfl (any_of HT_.out (by kernel_rfl)) (fun _ _ _ h => h) (Or.inl ⟨by rfl, ?_⟩) ?_ ?_
      rotate_left
      ·intro w'
       go_simp
       with_reducible rfl
      rotate_left
      ·simp only [Act.put, List.setIfInBounds_toArray, List.set_cons_zero, List.set_cons_succ, i64_w, i32_w]
       rfl
      refine pure_ (i := 2) (N := some 22) (v := ?_) (a' := ?_) #[true, true, true, false, false, false, false, false, false, false, false] rfl rfl (any_of HT_.out (by kernel_rfl)) (fun _ _ _ h => h) (Or.inl ⟨by rfl, ?_⟩) ?_ ?_
      rotate_left
      ·intro w'
       go_simp
       with_reducible rfl
      rotate_left
      ·simp only [Act.put, List.setIfInBounds_toArray, List.set_cons_zero, List.set_cons_succ, i64_w, i32_w]
       rfl
      refine pure_ (i := 3) (N := some 23) (v := ?_) (a' := ?_) #[true, true, true, true, false, false, false, false, false, false, false] rfl rfl (any_of HT_.out (by kernel_rfl)) (fun _ _ _ h => h) (Or.inl ⟨by rfl, ?_⟩) ?_ ?_
      rotate_left
      ·intro w'
       go_simp
       with_reducible rfl
      rotate_left
      ·simp only [Act.put, List.setIfInBounds_toArray, List.set_cons_zero, List.set_cons_succ, i64_w, i32_w]
       rfl
      refine pure_ (i := 5) (N := some 25) (v := ?_) (a' := ?_) #[true, true, true, true, false, true, false, false, false, false, false] rfl rfl (any_of HT_.out (by kernel_rfl)) (fun _ _ _ h => h) (Or.inl ⟨by rfl, ?_⟩) ?_ ?_
      rotate_left
      ·intro w'
       go_simp
       with_reducible rfl
      rotate_left
      ·simp only [Act.put, List.setIfInBounds_toArray, List.set_cons_zero, List.set_cons_succ, i64_w, i32_w]
       rfl
      refine pure_ (i := 6) (N := some 26) (v := ?_) (a' := ?_) #[true, true, true, true, false, true, true, false, false, false, false] rfl rfl (any_of HT_.out (by kernel_rfl)) (fun _ _ _ h => h) (Or.inl ⟨by rfl, ?_⟩) ?_ ?_
      rotate_left
      ·intro w'
       go_simp
       with_reducible rfl
      rotate_left
      ·simp only [Act.put, List.setIfInBounds_toArray, List.set_cons_zero, List.set_cons_succ, i64_w, i32_w]
       rfl
      refine pure_ (i := 7) (N := some 27) (v := ?_) (a' := ?_) #[true, true, true, true, false, true, true, true, false, false, false] rfl rfl (any_of HT_.out (by kernel_rfl)) (fun _ _ _ h => h) (Or.inl ⟨by rfl, ?_⟩) ?_ ?_
      rotate_left
      ·intro w'
       go_simp
       with_reducible rfl
      rotate_left
      ·simp only [Act.put, List.setIfInBounds_toArray, List.set_cons_zero, List.set_cons_succ, i64_w, i32_w]
       rfl
      refine one_ (i := 4) (N := some 24) #[true, true, true, true, true, true, true, true, false, false, false] rfl rfl (one_of HT_.out (by kernel_rfl)) (by decide) (fun K hK => ?_)
      refine goesV_ Tryd.func52 (by kernel_rfl) rfl #[.slice A0 (l0.take ((ji6) : Int).toNat).length c0] (by rfl) rfl rfl (by first | rfl | (simp; done) | (go_simp; done)) (by (try simp only [List.map_toArray, List.map_cons, List.map_nil]); first | done | (rw [show (l0.take ((ji6) : Int).toNat).length = (ji6).toNat from (by rw [List.length_take]; have h_ : ((ji6) : Int) ≤ (l0.length : Int) := of_decide_eq_true (by first | (with_reducible assumption) | assumption); omega)] <;> rfl) | (simp only [hji6]; rfl) | rfl | (simp only [List.length_drop, List.length_take]; first | rfl | (rw [Nat.min_eq_left (Int.toNat_le.2 (of_decide_eq_true (by assumption)))]; rfl))) ?_
      with_reducible refine (crc_tail32.calls _ _ (l0.take ((ji6) : Int).toNat) t252 _ ?side1 ?side2 A9.out).mono ?_
      (case side1 => repeat (first | exact (Kd.C_below HR251.out HB.out) | (with_reducible refine Kd.C_alloc ?_ _) | (with_reducible refine Kd.C_drewN ?_ _) | (with_reducible refine Kd.C_drew ?_)))
      (case side2 => exact HC251.out)
      rintro e w27 ⟨v253, rfl, ho0, hb⟩
      refine ⟨_, rfl, ?_⟩
      have n0_ := Aside0.mk (Kd.R_lower ho0 (below_size (by repeat (first | (with_reducible first | exact HB.out | apply below_alloc | apply pw_below_drewN | apply below_drew1) | exact HB.out))))
      have n1_ := Aside0.mk (below_step (by repeat (first | (with_reducible first | exact HB.out | apply below_alloc | apply pw_below_drewN | apply below_drew1) | exact HB.out)) hb)
      clear HB
      have HO254 := n0_
      have HB := n1_
      clear n0_ n1_
      (try clear hb)
      (try clear hb2)
      (try clear hk)
      (try clear hi)
      (try clear ho0)
      obtain ⟨Ao28, co28, eo28⟩ := Kd.R_slice HO254.out
      (first | subst eo28 | (injection eo28 with f1_ f2_ f3_; have f4_ := f1_.symm; have f5_ := f3_.symm; clear f1_ f2_ f3_; subst f4_; subst f5_))
      refine hK.out _ _ trivial (fun hHeld => ?_)
      clear hK K
      refine norm_ (a' := ?_) ?_ ?_
      rotate_left
      ·show Act.put _ (some 24) _ = _
       simp only [Act.put, List.setIfInBounds_toArray, List.set_cons_zero, List.set_cons_succ, i64_w, i32_w]
       rfl
      refine one_ (i := 8) (N := some 28) #[true, true, true, true, true, true, true, true, true, false, false] rfl rfl (one_of HT_.out (by kernel_rfl)) (by decide) (fun K hK => ?_)
      refine goes_ Tryd.func70 (by kernel_rfl) rfl #[.slice Ao28 t252.length co28, .slice A26 (l0.drop ((ji6) : Int).toNat).length (c0 - (ji6).toNat)] (by rfl) rfl rfl (by (try simp only [List.map_toArray, List.map_cons, List.map_nil]); first | done | (rw [show (l0.drop ((ji6) : Int).toNat).length = (l0.length - (ji6).toNat) from List.length_drop] <;> rfl) | (simp only [hji6]; rfl) | rfl | (simp only [List.length_drop, List.length_take]; first | rfl | (rw [Nat.min_eq_left (Int.toNat_le.2 (of_decide_eq_true (by assumption)))]; rfl))) ?_
      with_reducible refine (bytes_Equal.calls _ _ t252 _ _ (l0.drop ((ji6) : Int).toNat) false _ ?side1 ?side2 ?side3 ?side4 A12.out).mono ?_
      (case side1 => repeat (first | exact (Kd.R_reads' HO254.out).2.2 | (with_reducible refine Kd.C_alloc ?_ _) | (with_reducible refine Kd.C_drewN ?_ _) | (with_reducible refine Kd.C_drew ?_)))
      (case side2 => exact (Kd.R_reads' HO254.out).2.1)
      (case side3 => repeat (first | exact (Kd.C_below HR255.out HB.out) | (with_reducible refine Kd.C_alloc ?_ _) | (with_reducible refine Kd.C_drewN ?_ _) | (with_reducible refine Kd.C_drew ?_)))
      (case side4 => exact HC255.out)
      rintro e w' ⟨rfl, ⟨nd, rfl⟩⟩
      refine ⟨_, rfl, ?_⟩
      refine hK.out _ _ trivial (fun hHeld => ?_)
      clear hK K
      refine norm_ (a' := ?_) ?_ ?_
      rotate_left
      ·show Act.put _ (some 28) _ = _
       simp only [Act.put, List.setIfInBounds_toArray, List.set_cons_zero, List.set_cons_succ, i64_w, i32_w]
       rfl
      refine pure_ (i := 9) (N := some 29) (v := ?_) (a' := ?_) #[true, true, true, true, true, true, true, true, true, true, false] rfl rfl (any_of HT_.out (by kernel_rfl)) (fun _ _ _ h => h) (Or.inl ⟨by rfl, ?_⟩) ?_ ?_
      rotate_left
      ·intro w'
       go_simp
       with_reducible rfl
      rotate_left
      ·simp only [Act.put, List.setIfInBounds_toArray, List.set_cons_zero, List.set_cons_succ, i64_w, i32_w]
       rfl
      refine pure_ (i := 10) (N := some 19) (v := ?_) (a' := ?_) #[true, true, true, true, true, true, true, true, true, true, true] rfl rfl (any_of HT_.out (by kernel_rfl)) (fun _ _ _ h => h) (Or.inl ⟨by rfl, ?_⟩) ?_ ?_
      rotate_left
      ·intro w'
       go_simp
       with_reducible rfl
      rotate_left
      ·simp only [Act.put, List.setIfInBounds_toArray, List.set_cons_zero, List.set_cons_succ, i64_w, i32_w]
       rfl
      refine done_ (done_of HT_.out (by kernel_rfl)) ?_
      try go_wp2
      go_ret2
      exact ⟨_, by first | rfl | (simp [errW_none, errW_some] <;> rfl) | (simp only [← hji6]; first | rfl | (simp [errW_none, errW_some] <;> rfl)) | (simp [*, errW_none, errW_some] <;> rfl), by first | exact Kd.R_nil _ _ _ _ _ | exact Kd.N_nil _ _ _ _ _ | exact Kd.V_nil _ _ _ _ _ | exact Kd.Q_nil _ _ _ _ _ | exact Kd.S_nil _ _ _ _ _, by repeat (first | (with_reducible first | exact HB.out | apply below_alloc | apply pw_below_drewN | apply below_drew1) | exact HB.out)⟩
    ·rw [if_neg c8] at H
     exact absurd H (by simp)
   ·rw [if_neg c7] at H
    exact absurd H (by simp)

/-! ### crc_Open32: function 26 -/
def crc_Open32.f (l0 : List Int) : Option (List Int × Int) := (crc_open_at_crc_tail32.f l0 4).bind fun bt261 => (some (bt261.1, bt261.2))
set_option maxHeartbeats 8000000 in
set_option maxRecDepth 100000 in
theorem crc_Open32.calls (A0 : Option Addr) (c0 : Nat) (l0 : List Int) (r1 : List Int) (r2 : Int) (w : World) (hr0 : Kd.C (Kd.int .u8) w A0 l0.length l0) (hc0 : l0.length ≤ c0) (h : crc_Open32.f l0 = some (r1, r2)) :
  Calls Tryd.prog 26 #[.slice A0 l0.length c0] w fun e w' => ∃ v0_ : Value, e = .returned (.tuple #[v0_, .int .i64 r2]) ∧ Kd.R (Kd.int .u8) 5 w' w.heap.size (fun _ => True) v0_ r1 ∧ Below w.heap.size w w' := by
 have HR0 := Aside0.mk hr0
 have HC0 := Aside0.mk hc0
 clear hr0 hc0
 have HB := Aside0.mk (Below.refl w.heap.size w)
 have H : ((crc_open_at_crc_tail32.f l0 4).bind fun bt261 => (some (bt261.1, bt261.2))) = some (r1, r2) := h
 clear h
 replace H := Option.bind_eq_some_iff.mp H
 obtain ⟨⟨t261, t264⟩, A20, H⟩ := H
 replace H : (some (t261, t264)) = some (r1, r2) := H
 have A2 := Aside0.mk A20
 clear A20
 simp only [Option.some.injEq, Prod.mk.injEq] at H
 obtain ⟨rfl, rfl⟩ := H
 go_enter Tryd.func26, Tryd.ntmps26
 go_wp2_with (first | ((with_reducible refine gate_callee (f := 55) rfl ?_); refine goesL_ (some 5) rfl rfl Tryd.func55 (by kernel_rfl) rfl #[.slice A0 l0.length c0, .int .i64 4, .func (.func 52) #[] #[]] rfl (by (try simp only [List.map_toArray, List.map_cons, List.map_nil]); first | done | rfl | (simp only [List.length_drop, List.length_take]; first | rfl | (rw [Nat.min_eq_left (Int.toNat_le.2 (of_decide_eq_true (by assumption)))]; rfl))) ?_; (with_reducible refine (crc_open_at_crc_tail32.calls _ _ l0 4  t261 t264 _ ?side1 ?side2 A2.out).mono ?_); (case side1 => repeat (first | exact HR0.out | (with_reducible refine Kd.C_alloc ?_ _) | (with_reducible refine Kd.C_drewN ?_ _) | (with_reducible refine Kd.C_drew ?_))); (case side2 => exact HC0.out); rintro e w3 ⟨v262, rfl, ho0, hb⟩; refine ⟨_, rfl, ?_⟩; have n0_ := Aside0.mk (Kd.R_lower ho0 (below_size (by repeat (first | (with_reducible first | exact HB.out | apply below_alloc | apply pw_below_drewN | apply below_drew1) | exact HB.out)))); have n1_ := Aside0.mk (below_step (by repeat (first | (with_reducible first | exact HB.out | apply below_alloc | apply pw_below_drewN | apply below_drew1) | exact HB.out)) hb); clear HB; have HO263 := n0_; have HB := n1_; clear n0_ n1_; (try clear hb); (try clear hb2); (try clear hk); (try clear hi); (try clear ho0)))
 go_ret2
 exact ⟨_, by first | rfl | (simp [errW_none, errW_some] <;> rfl) | (simp [*, errW_none, errW_some] <;> rfl), by (with_reducible repeat (first | apply Kd.R_alloc | apply Kd.R_drewN | apply Kd.R_drew)); exact HO263.out, by repeat (first | (with_reducible first | exact HB.out | apply below_alloc | apply pw_below_drewN | apply below_drew1) | exact HB.out)⟩

end Go.Proofs.YtcbjbgleflbpmaaDoor.Print
