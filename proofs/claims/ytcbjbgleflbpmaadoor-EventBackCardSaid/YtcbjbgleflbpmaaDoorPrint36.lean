-- PRINTED by print.py (a twelfth state) out of the translation. Not trusted: Lean checks it.
import Derived.Test.YtcbjbgleflbpmaaDoorPrint0
import Derived.Test.YtcbjbgleflbpmaaDoorPrint6
import Derived.Test.YtcbjbgleflbpmaaDoorPrint11
import Derived.Test.YtcbjbgleflbpmaaDoorPrint20
import Derived.Test.YtcbjbgleflbpmaaDoorPrint31
namespace Go.Proofs.YtcbjbgleflbpmaaDoor.Print
open Go.RowKit Go.Proofs.YtcbjbgleflbpmaaDoorW.PrintWords Go.Proofs.YtcbjbgleflbpmaaDoorW.PrintLast Go.Proofs.YtcbjbgleflbpmaaDoorW.PrintMore Go.Proofs.YtcbjbgleflbpmaaDoorX
attribute [local go_sem] str_lss str_geq max2_int min2_int max_two min_two max_three min_three max_four min_four   -- for this text's walks alone
set_option linter.unusedVariables false
set_option linter.unusedSimpArgs false

/-! ### palletlaw19_EventBack: function 8 -/
mutual
def palletlaw19_EventBack.j0 : Nat → List (S30) → List Int → Bool → Bool → Option (Bool)
 | 0, _, _, _, _ => none
 | k + 1, x0, x1, x5, x26 => if x26 = true then (some x5) else ((event_Decode.f k x1).bind fun bt626 => (if bt626.2.2 = 0 then ((event_Encode.f k bt626.1).bind fun bt631 => (if bt631.2 = 0 then ((palletref02_Same.f bt631.1 x1).bind fun t635 => (if t635 = true then ((event_Check.f k bt626.1).bind fun t636 => (if t636 = 0 then (palletlaw19_EventBack.j1 k x0 x5) else (none))) else (none))) else (none))) else (palletlaw19_EventBack.j1 k x0 x5)))
def palletlaw19_EventBack.j1 : Nat → List (S30) → Bool → Option (Bool)
 | 0, _, _ => none
 | k + 1, x0, x5 => (event_Encode.f k x0).bind fun bt637 => (if bt637.2 = 0 then ((event_Decode.f k bt637.1).bind fun bt641 => (if x5 = true then (if bt641.2.2 = 0 then (if bt641.2.1 = 0 then ((event_Same.f k bt641.1 x0).bind fun t646 => (some t646)) else (none)) else (none)) else (none))) else (if x5 = true then ((event_Check.f k x0).bind fun t647 => (some (t647 == bt637.2))) else (none)))
end
def palletlaw19_EventBack.f (k : Nat) (l0 : List (S30)) (l1 : List Int) : Option (Bool) := (palletlaw19_live.f k).bind fun t625 => (if t625 = true then (if (l0.length : Int) > 2000 then (palletlaw19_EventBack.j0 k l0 l1 t625 true) else (palletlaw19_EventBack.j0 k l0 l1 t625 (decide ((l1.length : Int) > 5000)))) else (none))
theorem palletlaw19_EventBack.mono_l : ∀ k, (∀ y0 y1 y2 y3, LeO (palletlaw19_EventBack.j0 k y0 y1 y2 y3) (palletlaw19_EventBack.j0 (k + 1) y0 y1 y2 y3)) ∧ (∀ y0 y1, LeO (palletlaw19_EventBack.j1 k y0 y1) (palletlaw19_EventBack.j1 (k + 1) y0 y1))
 | 0 => ⟨fun _ _ _ _ r h => by simp [palletlaw19_EventBack.j0] at h, fun _ _ r h => by simp [palletlaw19_EventBack.j1] at h⟩
 | k + 1 => by
  obtain ⟨ih0, ih1⟩ := palletlaw19_EventBack.mono_l k
  refine ⟨?_, ?_⟩
  ·intro y0 y1 y2 y3
   unfold palletlaw19_EventBack.j0
   repeat' first
   | (with_reducible exact ih0 _ _ _ _)
   | (with_reducible exact ih1 _ _)
   | (with_reducible exact event_Check.mono _ _)
   | (with_reducible exact event_Decode.mono _ _)
   | (with_reducible exact event_Encode.mono _ _)
   | (with_reducible exact event_Same.mono _ _ _)
   | (with_reducible exact palletlaw19_live.mono _)
   | (with_reducible exact LeO.refl _)
   | (with_reducible exact LeO.none _)
   | (with_reducible refine LeO.ite ?_ ?_)
   | (with_reducible refine LeO.bind ?_ (fun _ => ?_))
   | exact ih0 _ _ _ _
   | exact ih1 _ _
   | exact event_Check.mono _ _
   | exact event_Decode.mono _ _
   | exact event_Encode.mono _ _
   | exact event_Same.mono _ _ _
   | exact palletlaw19_live.mono _
   | exact LeO.none _
   | refine LeO.ite ?_ ?_
   | refine LeO.bind ?_ (fun _ => ?_)
  ·intro y0 y1
   unfold palletlaw19_EventBack.j1
   repeat' first
   | (with_reducible exact ih0 _ _ _ _)
   | (with_reducible exact ih1 _ _)
   | (with_reducible exact event_Check.mono _ _)
   | (with_reducible exact event_Decode.mono _ _)
   | (with_reducible exact event_Encode.mono _ _)
   | (with_reducible exact event_Same.mono _ _ _)
   | (with_reducible exact palletlaw19_live.mono _)
   | (with_reducible exact LeO.refl _)
   | (with_reducible exact LeO.none _)
   | (with_reducible refine LeO.ite ?_ ?_)
   | (with_reducible refine LeO.bind ?_ (fun _ => ?_))
   | exact ih0 _ _ _ _
   | exact ih1 _ _
   | exact event_Check.mono _ _
   | exact event_Decode.mono _ _
   | exact event_Encode.mono _ _
   | exact event_Same.mono _ _ _
   | exact palletlaw19_live.mono _
   | exact LeO.none _
   | refine LeO.ite ?_ ?_
   | refine LeO.bind ?_ (fun _ => ?_)
theorem palletlaw19_EventBack.mono : ∀ a0 a1 k, LeO (palletlaw19_EventBack.f k a0 a1) (palletlaw19_EventBack.f (k + 1) a0 a1) := by
 intro a0 a1 k
 obtain ⟨ih0, ih1⟩ := palletlaw19_EventBack.mono_l k
 unfold palletlaw19_EventBack.f
 repeat' first
   | (with_reducible exact ih0 _ _ _ _)
   | (with_reducible exact ih1 _ _)
   | (with_reducible exact event_Check.mono _ _)
   | (with_reducible exact event_Decode.mono _ _)
   | (with_reducible exact event_Encode.mono _ _)
   | (with_reducible exact event_Same.mono _ _ _)
   | (with_reducible exact palletlaw19_live.mono _)
   | (with_reducible exact LeO.refl _)
   | (with_reducible exact LeO.none _)
   | (with_reducible refine LeO.ite ?_ ?_)
   | (with_reducible refine LeO.bind ?_ (fun _ => ?_))
   | exact ih0 _ _ _ _
   | exact ih1 _ _
   | exact event_Check.mono _ _
   | exact event_Decode.mono _ _
   | exact event_Encode.mono _ _
   | exact event_Same.mono _ _ _
   | exact palletlaw19_live.mono _
   | exact LeO.none _
   | refine LeO.ite ?_ ?_
   | refine LeO.bind ?_ (fun _ => ?_)
set_option maxHeartbeats 8000000 in
set_option maxRecDepth 100000 in
theorem palletlaw19_EventBack.calls (k : Nat) (A0 : Option Addr) (c0 : Nat) (l0 : List (S30)) (A1 : Option Addr) (c1 : Nat) (l1 : List Int) (r : Bool) (w : World) (hr0 : Kd.C k30 w A0 l0.length l0) (hc0 : l0.length ≤ c0) (hr1 : Kd.C (Kd.int .u8) w A1 l1.length l1) (hc1 : l1.length ≤ c1) (hr_ : Aside0 (r = true)) (h : palletlaw19_EventBack.f k l0 l1 = some r) :
  Calls Tryd.prog 8 #[.slice A0 l0.length c0, .slice A1 l1.length c1] w fun e w' => e = .returned (.bool r) ∧ Below w.heap.size w w' := by
 have HR0 := Aside0.mk hr0
 have HC0 := Aside0.mk hc0
 clear hr0 hc0
 have HR1 := Aside0.mk hr1
 have HC1 := Aside0.mk hc1
 clear hr1 hc1
 have HB := Aside0.mk (Below.refl w.heap.size w)
 have H : ((palletlaw19_live.f k).bind fun t625 => (if t625 = true then (if (l0.length : Int) > 2000 then (palletlaw19_EventBack.j0 k l0 l1 t625 true) else (palletlaw19_EventBack.j0 k l0 l1 t625 (decide ((l1.length : Int) > 5000)))) else (none))) = some r := h
 clear h
 replace H := Option.bind_eq_some_iff.mp H
 obtain ⟨t625, A30, H⟩ := H
 replace H : (if t625 = true then (if (l0.length : Int) > 2000 then (palletlaw19_EventBack.j0 k l0 l1 t625 true) else (palletlaw19_EventBack.j0 k l0 l1 t625 (decide ((l1.length : Int) > 5000)))) else (none)) = some r := H
 have A3 := Aside0.mk A30
 clear A30
 by_cases c4 : t625 = true
 ·subst c4
  have H1 : (if (l0.length : Int) > 2000 then (palletlaw19_EventBack.j0 k l0 l1 true true) else (palletlaw19_EventBack.j0 k l0 l1 true (decide ((l1.length : Int) > 5000)))) = some r := by rw [if_pos rfl] at H; exact H
  clear H
  have H := H1
  clear H1
  have HC5 := Aside0.mk H
  clear H
  go_enter Tryd.func8, Tryd.ntmps8
  go_upto_region 4 with (first | ((with_reducible refine gate_callee (f := 10) rfl ?_); refine goesL_ (some 16) rfl rfl Tryd.func10 (by kernel_rfl) rfl #[] rfl (by (try simp only [List.map_toArray, List.map_cons, List.map_nil]); first | done | rfl | (simp only [List.length_drop, List.length_take]; first | rfl | (rw [Nat.min_eq_left (Int.toNat_le.2 (of_decide_eq_true (by assumption)))]; rfl))) ?_; (with_reducible refine (palletlaw19_live.calls k  true _ A3.out).mono ?_); rintro e w6 ⟨rfl, hb⟩; refine ⟨_, rfl, ?_⟩; have n0_ := Aside0.mk (below_step (by repeat (first | (with_reducible first | exact HB.out | apply below_alloc | apply pw_below_drewN | apply below_drew1) | exact HB.out)) hb); clear HB; have HB := n0_; clear n0_; (try clear hb); (try clear hb2); (try clear hk); (try clear hi)))
  (try simp only [Act.put, List.setIfInBounds_toArray, List.set_cons_zero, List.set_cons_succ])
  go_cut [26] (fun v26 wc => ∃ (kq : Nat) (x26_4 : Bool), v26 = .bool x26_4 ∧ Aside0 (palletlaw19_EventBack.j0 kq l0 l1 true x26_4 = some r) ∧ Aside0 (kq ≤ k) ∧ Aside0 (Below w.heap.size w wc))
  case first =>
   have H := HC5.out
   clear HC5
   by_cases c7 : (l0.length : Int) > 2000
   ·rw [if_pos c7] at H
    have c7b0 : decide (2000 < (l0.length : Int)) = true := decide_eq_true c7
    have c7b1 : decide (2000 < l0.length) = true := decide_eq_true (by omega)
    clear c7
    (first | rw [c7b0] | (simp only [i64_w, i32_w]; rw [c7b0]) | skip)
    have H' := Aside0.mk H
    clear H
    go_wp2
    go_meet
    case rel => exact ⟨_, (true), (by first | rfl | (simp; done) | (simp [*]; done)), H', ⟨by first | omega | exact Nat.le_refl _⟩, ⟨by repeat (first | (with_reducible first | exact HB.out | apply below_alloc | apply pw_below_drewN | apply below_drew1) | exact HB.out)⟩⟩
   ·rw [if_neg c7] at H
    have c7b0 : decide (2000 < (l0.length : Int)) = false := decide_eq_false c7
    have c7b1 : decide (2000 < l0.length) = false := decide_eq_false (by omega)
    clear c7
    (first | rw [c7b0] | (simp only [i64_w, i32_w]; rw [c7b0]) | skip)
    have H' := Aside0.mk H
    clear H
    go_wp2
    go_meet
    case rel => exact ⟨_, (decide ((l1.length : Int) > 5000)), (by first | rfl | (simp; done) | (simp [*]; done)), H', ⟨by first | omega | exact Nat.le_refl _⟩, ⟨by repeat (first | (with_reducible first | exact HB.out | apply below_alloc | apply pw_below_drewN | apply below_drew1) | exact HB.out)⟩⟩
  case rest =>
   clear HC5
   try clear c1
   try clear p2
   try clear c4
   try clear c7
   try clear c7b0
   try clear c7b1
   obtain ⟨kq, x26_4, rfl, HA, HJ4, HB⟩ := hcut
   cases kq with
   | zero => exact absurd HA.out (by simp [palletlaw19_EventBack.j0])
   | succ kj4 =>
    have H := HA.out
    clear HA
    simp only [palletlaw19_EventBack.j0] at H
    by_cases c8 : x26_4 = true
    ·subst c8
     have H1 : (some true) = some r := by rw [if_pos rfl] at H; exact H
     clear H
     have H := H1
     clear H1
     obtain rfl := Option.some.inj H
     go_wp2
     go_ret
     exact ⟨by first | rfl | (simp [errW_none, errW_some] <;> rfl) | (simp [*, errW_none, errW_some] <;> rfl), by repeat (first | (with_reducible first | exact HB.out | apply below_alloc | apply pw_below_drewN | apply below_drew1) | exact HB.out)⟩
    ·replace c8 := Bool.eq_false_iff.mpr c8
     subst c8
     have H1 : ((event_Decode.f kj4 l1).bind fun bt626 => (if bt626.2.2 = 0 then ((event_Encode.f kj4 bt626.1).bind fun bt631 => (if bt631.2 = 0 then ((palletref02_Same.f bt631.1 l1).bind fun t635 => (if t635 = true then ((event_Check.f kj4 bt626.1).bind fun t636 => (if t636 = 0 then (palletlaw19_EventBack.j1 kj4 l0 true) else (none))) else (none))) else (none))) else (palletlaw19_EventBack.j1 kj4 l0 true))) = some r := by rw [if_neg (show ¬ (false = true) by decide)] at H; exact H
     clear H
     have H := H1
     clear H1
     replace H := Option.bind_eq_some_iff.mp H
     obtain ⟨⟨t626, t627, t628⟩, A90, H⟩ := H
     replace H : (if t628 = 0 then ((event_Encode.f kj4 t626).bind fun bt631 => (if bt631.2 = 0 then ((palletref02_Same.f bt631.1 l1).bind fun t635 => (if t635 = true then ((event_Check.f kj4 t626).bind fun t636 => (if t636 = 0 then (palletlaw19_EventBack.j1 kj4 l0 true) else (none))) else (none))) else (none))) else (palletlaw19_EventBack.j1 kj4 l0 true)) = some r := H
     have A9 := Aside0.mk A90
     clear A90
     have HC10 := Aside0.mk H
     clear H
     go_upto_if 35 with (first | ((with_reducible refine gate_callee (f := 24) rfl ?_); refine goesL_ (some 30) rfl rfl Tryd.func24 (by kernel_rfl) rfl #[.slice A1 l1.length c1] rfl (by (try simp only [List.map_toArray, List.map_cons, List.map_nil]); first | done | rfl | (simp only [List.length_drop, List.length_take]; first | rfl | (rw [Nat.min_eq_left (Int.toNat_le.2 (of_decide_eq_true (by assumption)))]; rfl))) ?_; (with_reducible refine (event_Decode.calls kj4 _ _ l1 t626 t627 t628 _ ?side1 ?side2 A9.out).mono ?_); (case side1 => repeat (first | exact (Kd.C_below HR1.out HB.out) | (with_reducible refine Kd.C_alloc ?_ _) | (with_reducible refine Kd.C_drewN ?_ _) | (with_reducible refine Kd.C_drew ?_))); (case side2 => exact HC1.out); rintro e w11 ⟨v629, rfl, ho0, hb⟩; refine ⟨_, rfl, ?_⟩; have n0_ := Aside0.mk (Kd.R_lower ho0 (below_size (by repeat (first | (with_reducible first | exact HB.out | apply below_alloc | apply pw_below_drewN | apply below_drew1) | exact HB.out)))); have n1_ := Aside0.mk (below_step (by repeat (first | (with_reducible first | exact HB.out | apply below_alloc | apply pw_below_drewN | apply below_drew1) | exact HB.out)) hb); clear HB; have HO630 := n0_; have HB := n1_; clear n0_ n1_; (try clear hb); (try clear hb2); (try clear hk); (try clear hi); (try clear ho0)))
     (try simp only [Act.put, List.setIfInBounds_toArray, List.set_cons_zero, List.set_cons_succ])
     go_cut [] (fun wc => ∃ (kq : Nat), Aside0 (palletlaw19_EventBack.j1 kq l0 true = some r) ∧ Aside0 (kq ≤ kj4) ∧ Aside0 (Below w.heap.size w wc))
     case first =>
      have H := HC10.out
      clear HC10
      by_cases c12 : t628 = 0
      ·rw [if_pos c12] at H
       have c12b0 : (t628 == 0) = true := beq_iff_eq.mpr c12
       have c12b1 : (t628 != 0) = false := bne_eq_false_iff_eq.mpr c12
       clear c12
       (first | rw [c12b0] | (simp only [i64_w, i32_w]; rw [c12b0]) | skip)
       replace H := Option.bind_eq_some_iff.mp H
       obtain ⟨⟨t631, t632⟩, A130, H⟩ := H
       replace H : (if t632 = 0 then ((palletref02_Same.f t631 l1).bind fun t635 => (if t635 = true then ((event_Check.f kj4 t626).bind fun t636 => (if t636 = 0 then (palletlaw19_EventBack.j1 kj4 l0 true) else (none))) else (none))) else (none)) = some r := H
       have A13 := Aside0.mk A130
       clear A130
       by_cases c14 : t632 = 0
       ·rw [if_pos c14] at H
        have c14b0 : (t632 == 0) = true := beq_iff_eq.mpr c14
        have c14b1 : (t632 != 0) = false := bne_eq_false_iff_eq.mpr c14
        clear c14
        replace H := Option.bind_eq_some_iff.mp H
        obtain ⟨t635, A150, H⟩ := H
        replace H : (if t635 = true then ((event_Check.f kj4 t626).bind fun t636 => (if t636 = 0 then (palletlaw19_EventBack.j1 kj4 l0 true) else (none))) else (none)) = some r := H
        have A15 := Aside0.mk A150
        clear A150
        by_cases c16 : t635 = true
        ·subst c16
         have H1 : ((event_Check.f kj4 t626).bind fun t636 => (if t636 = 0 then (palletlaw19_EventBack.j1 kj4 l0 true) else (none))) = some r := by rw [if_pos rfl] at H; exact H
         clear H
         have H := H1
         clear H1
         replace H := Option.bind_eq_some_iff.mp H
         obtain ⟨t636, A170, H⟩ := H
         replace H : (if t636 = 0 then (palletlaw19_EventBack.j1 kj4 l0 true) else (none)) = some r := H
         have A17 := Aside0.mk A170
         clear A170
         by_cases c18 : t636 = 0
         ·rw [if_pos c18] at H
          have c18b0 : (t636 == 0) = true := beq_iff_eq.mpr c18
          have c18b1 : (t636 != 0) = false := bne_eq_false_iff_eq.mpr c18
          clear c18
          have H' := Aside0.mk H
          clear H
          obtain ⟨Ao19, co19, eo19⟩ := Kd.R_slice HO630.out
          subst eo19
          go_wp2_with (first | ((with_reducible refine gate_callee (f := 12) rfl ?_); refine goesL_ (some 38) rfl rfl Tryd.func12 (by kernel_rfl) rfl #[.slice Ao19 t626.length co19] rfl (by (try simp only [List.map_toArray, List.map_cons, List.map_nil]); first | done | rfl | (simp only [List.length_drop, List.length_take]; first | rfl | (rw [Nat.min_eq_left (Int.toNat_le.2 (of_decide_eq_true (by assumption)))]; rfl))) ?_; (with_reducible refine (event_Encode.calls kj4 _ _ t626 t631 t632 _ ?side1 ?side2 A13.out).mono ?_); (case side1 => repeat (first | exact (Kd.R_reads' HO630.out).2.2 | (with_reducible refine Kd.C_alloc ?_ _) | (with_reducible refine Kd.C_drewN ?_ _) | (with_reducible refine Kd.C_drew ?_))); (case side2 => exact (Kd.R_reads' HO630.out).2.1); rintro e w20 ⟨v633, rfl, ho0, hb⟩; refine ⟨_, rfl, ?_⟩; have n0_ := Aside0.mk (Kd.R_below (by (with_reducible repeat (first | apply Kd.R_alloc | apply Kd.R_drewN | apply Kd.R_drew)); first | exact HO630.out | exact Kd.R_mono HO630.out (fun _ _ => trivial)) hb); have n1_ := Aside0.mk (Kd.R_lower ho0 (below_size (by repeat (first | (with_reducible first | exact HB.out | apply below_alloc | apply pw_below_drewN | apply below_drew1) | exact HB.out)))); have n2_ := Aside0.mk (below_step (by repeat (first | (with_reducible first | exact HB.out | apply below_alloc | apply pw_below_drewN | apply below_drew1) | exact HB.out)) hb); clear HO630; clear HB; have HO630 := n0_; have HO634 := n1_; have HB := n2_; clear n0_ n1_ n2_; (try clear hb); (try clear hb2); (try clear hk); (try clear hi); (try clear ho0); obtain ⟨Ao21, co21, eo21⟩ := Kd.R_slice HO634.out; subst eo21) | (go_at_call 15; (with_reducible refine (palletref02_Same.calls _ _ t631 _ _ l1 true _ ?side1 ?side2 ?side3 ?side4 A15.out).mono ?_); (case side1 => repeat (first | exact (Kd.R_reads' HO634.out).2.2 | (with_reducible refine Kd.C_alloc ?_ _) | (with_reducible refine Kd.C_drewN ?_ _) | (with_reducible refine Kd.C_drew ?_))); (case side2 => exact (Kd.R_reads' HO634.out).2.1); (case side3 => repeat (first | exact (Kd.C_below HR1.out HB.out) | (with_reducible refine Kd.C_alloc ?_ _) | (with_reducible refine Kd.C_drewN ?_ _) | (with_reducible refine Kd.C_drew ?_))); (case side4 => exact HC1.out); rintro e w' ⟨rfl, ⟨nd, rfl⟩⟩) | (go_at_call 11; (with_reducible refine (event_Check.calls kj4 _ _ t626 t636 _ ?side1 ?side2 A17.out).mono ?_); (case side1 => repeat (first | exact (Kd.R_reads' HO630.out).2.2 | (with_reducible refine Kd.C_alloc ?_ _) | (with_reducible refine Kd.C_drewN ?_ _) | (with_reducible refine Kd.C_drew ?_))); (case side2 => exact (Kd.R_reads' HO630.out).2.1); rintro e w22 ⟨rfl, hb⟩; have n0_ := Aside0.mk (Kd.R_below (by (with_reducible repeat (first | apply Kd.R_alloc | apply Kd.R_drewN | apply Kd.R_drew)); first | exact HO630.out | exact Kd.R_mono HO630.out (fun _ _ => trivial)) hb); have n1_ := Aside0.mk (Kd.R_below (by (with_reducible repeat (first | apply Kd.R_alloc | apply Kd.R_drewN | apply Kd.R_drew)); first | exact HO634.out | exact Kd.R_mono HO634.out (fun _ _ => trivial)) hb); have n2_ := Aside0.mk (below_step (by repeat (first | (with_reducible first | exact HB.out | apply below_alloc | apply pw_below_drewN | apply below_drew1) | exact HB.out)) hb); clear HO630; clear HO634; clear HB; have HO630 := n0_; have HO634 := n1_; have HB := n2_; clear n0_ n1_ n2_; (try clear hb); (try clear hb2); (try clear hk); (try clear hi)))
          go_meet
          case rel => exact ⟨_, H', ⟨by have := HJ4.out; first | omega | exact Nat.le_refl _⟩, ⟨by repeat (first | (with_reducible first | exact HB.out | apply below_alloc | apply pw_below_drewN | apply below_drew1) | exact HB.out)⟩⟩
         ·rw [if_neg c18] at H
          exact absurd H (by simp)
        ·replace c16 := Bool.eq_false_iff.mpr c16
         subst c16
         have H1 : (none) = some r := by rw [if_neg (show ¬ (false = true) by decide)] at H; exact H
         clear H
         have H := H1
         clear H1
         exact absurd H (by simp)
       ·rw [if_neg c14] at H
        exact absurd H (by simp)
      ·rw [if_neg c12] at H
       have c12b0 : (t628 == 0) = false := beq_eq_false_iff_ne.mpr c12
       have c12b1 : (t628 != 0) = true := bne_iff_ne.mpr c12
       (first | rw [c12b0] | (simp only [i64_w, i32_w]; rw [c12b0]) | skip)
       have H' := Aside0.mk H
       clear H
       go_wp2
       go_meet
       case rel => exact ⟨_, H', ⟨by have := HJ4.out; first | omega | exact Nat.le_refl _⟩, ⟨by repeat (first | (with_reducible first | exact HB.out | apply below_alloc | apply pw_below_drewN | apply below_drew1) | exact HB.out)⟩⟩
     case rest =>
      clear HC10
      try clear c1
      try clear c2
      try clear p2
      try clear c4
      try clear c7
      try clear c7b0
      try clear c7b1
      try clear c8
      try clear c10
      try clear c12
      try clear c12b0
      try clear c12b1
      try clear c14
      try clear c14b0
      try clear c14b1
      try clear c16
      try clear c18
      try clear c18b0
      try clear c18b1
      try clear p2
      obtain ⟨kq, HA, HJ9, HB⟩ := hcut
      cases kq with
      | zero => exact absurd HA.out (by simp [palletlaw19_EventBack.j1])
      | succ kj9 =>
       have H := HA.out
       clear HA
       simp only [palletlaw19_EventBack.j1] at H
       replace H := Option.bind_eq_some_iff.mp H
       obtain ⟨⟨t637, t638⟩, A230, H⟩ := H
       replace H : (if t638 = 0 then ((event_Decode.f kj9 t637).bind fun bt641 => (if true = true then (if bt641.2.2 = 0 then (if bt641.2.1 = 0 then ((event_Same.f kj9 bt641.1 l0).bind fun t646 => (some t646)) else (none)) else (none)) else (none))) else (if true = true then ((event_Check.f kj9 l0).bind fun t647 => (some (t647 == t638))) else (none))) = some r := H
       have A23 := Aside0.mk A230
       clear A230
       by_cases c24 : t638 = 0
       ·rw [if_pos c24] at H
        have c24b0 : (t638 == 0) = true := beq_iff_eq.mpr c24
        have c24b1 : (t638 != 0) = false := bne_eq_false_iff_eq.mpr c24
        clear c24
        replace H := Option.bind_eq_some_iff.mp H
        obtain ⟨⟨t641, t642, t643⟩, A250, H⟩ := H
        replace H : (if true = true then (if t643 = 0 then (if t642 = 0 then ((event_Same.f kj9 t641 l0).bind fun t646 => (some t646)) else (none)) else (none)) else (none)) = some r := H
        have A25 := Aside0.mk A250
        clear A250
        have H1 : (if t643 = 0 then (if t642 = 0 then ((event_Same.f kj9 t641 l0).bind fun t646 => (some t646)) else (none)) else (none)) = some r := by first | (rw [if_pos rfl] at H; exact H) | exact H
        clear H
        have H := H1
        clear H1
        by_cases c26 : t643 = 0
        ·rw [if_pos c26] at H
         have c26b0 : (t643 == 0) = true := beq_iff_eq.mpr c26
         have c26b1 : (t643 != 0) = false := bne_eq_false_iff_eq.mpr c26
         clear c26
         by_cases c27 : t642 = 0
         ·rw [if_pos c27] at H
          have c27b0 : (t642 == 0) = true := beq_iff_eq.mpr c27
          have c27b1 : (t642 != 0) = false := bne_eq_false_iff_eq.mpr c27
          clear c27
          replace H := Option.bind_eq_some_iff.mp H
          obtain ⟨t646, A280, H⟩ := H
          replace H : (some t646) = some r := H
          have A28 := Aside0.mk A280
          clear A280
          obtain rfl := Option.some.inj H
          go_wp2_with (first | ((with_reducible refine gate_callee (f := 12) rfl ?_); refine goesL_ (some 56) rfl rfl Tryd.func12 (by kernel_rfl) rfl #[.slice A0 l0.length c0] rfl (by (try simp only [List.map_toArray, List.map_cons, List.map_nil]); first | done | rfl | (simp only [List.length_drop, List.length_take]; first | rfl | (rw [Nat.min_eq_left (Int.toNat_le.2 (of_decide_eq_true (by assumption)))]; rfl))) ?_; (with_reducible refine (event_Encode.calls kj9 _ _ l0 t637 t638 _ ?side1 ?side2 A23.out).mono ?_); (case side1 => repeat (first | exact (Kd.C_below HR0.out HB.out) | (with_reducible refine Kd.C_alloc ?_ _) | (with_reducible refine Kd.C_drewN ?_ _) | (with_reducible refine Kd.C_drew ?_))); (case side2 => exact HC0.out); rintro e w29 ⟨v639, rfl, ho0, hb⟩; refine ⟨_, rfl, ?_⟩; have n0_ := Aside0.mk (Kd.R_lower ho0 (below_size (by repeat (first | (with_reducible first | exact HB.out | apply below_alloc | apply pw_below_drewN | apply below_drew1) | exact HB.out)))); have n1_ := Aside0.mk (below_step (by repeat (first | (with_reducible first | exact HB.out | apply below_alloc | apply pw_below_drewN | apply below_drew1) | exact HB.out)) hb); clear HB; have HO640 := n0_; have HB := n1_; clear n0_ n1_; (try clear hb); (try clear hb2); (try clear hk); (try clear hi); (try clear ho0); obtain ⟨Ao30, co30, eo30⟩ := Kd.R_slice HO640.out; subst eo30) | ((with_reducible refine gate_callee (f := 24) rfl ?_); refine goesL_ (some 70) rfl rfl Tryd.func24 (by kernel_rfl) rfl #[.slice Ao30 t637.length co30] rfl (by (try simp only [List.map_toArray, List.map_cons, List.map_nil]); first | done | rfl | (simp only [List.length_drop, List.length_take]; first | rfl | (rw [Nat.min_eq_left (Int.toNat_le.2 (of_decide_eq_true (by assumption)))]; rfl))) ?_; (with_reducible refine (event_Decode.calls kj9 _ _ t637 t641 t642 t643 _ ?side1 ?side2 A25.out).mono ?_); (case side1 => repeat (first | exact (Kd.R_reads' HO640.out).2.2 | (with_reducible refine Kd.C_alloc ?_ _) | (with_reducible refine Kd.C_drewN ?_ _) | (with_reducible refine Kd.C_drew ?_))); (case side2 => exact (Kd.R_reads' HO640.out).2.1); rintro e w31 ⟨v644, rfl, ho0, hb⟩; refine ⟨_, rfl, ?_⟩; have n0_ := Aside0.mk (Kd.R_below (by (with_reducible repeat (first | apply Kd.R_alloc | apply Kd.R_drewN | apply Kd.R_drew)); first | exact HO640.out | exact Kd.R_mono HO640.out (fun _ _ => trivial)) hb); have n1_ := Aside0.mk (Kd.R_lower ho0 (below_size (by repeat (first | (with_reducible first | exact HB.out | apply below_alloc | apply pw_below_drewN | apply below_drew1) | exact HB.out)))); have n2_ := Aside0.mk (below_step (by repeat (first | (with_reducible first | exact HB.out | apply below_alloc | apply pw_below_drewN | apply below_drew1) | exact HB.out)) hb); clear HO640; clear HB; have HO640 := n0_; have HO645 := n1_; have HB := n2_; clear n0_ n1_ n2_; (try clear hb); (try clear hb2); (try clear hk); (try clear hi); (try clear ho0); obtain ⟨Ao32, co32, eo32⟩ := Kd.R_slice HO645.out; subst eo32) | (go_at_call 19; (with_reducible refine (event_Same.calls kj9 _ _ t641 _ _ l0 t646 _ ?side1 ?side2 ?side3 ?side4 A28.out).mono ?_); (case side1 => repeat (first | exact (Kd.R_reads' HO645.out).2.2 | (with_reducible refine Kd.C_alloc ?_ _) | (with_reducible refine Kd.C_drewN ?_ _) | (with_reducible refine Kd.C_drew ?_))); (case side2 => exact (Kd.R_reads' HO645.out).2.1); (case side3 => repeat (first | exact (Kd.C_below HR0.out HB.out) | (with_reducible refine Kd.C_alloc ?_ _) | (with_reducible refine Kd.C_drewN ?_ _) | (with_reducible refine Kd.C_drew ?_))); (case side4 => exact HC0.out); rintro e w' ⟨rfl, ⟨nd, rfl⟩⟩))
          go_ret
          exact ⟨by first | rfl | (simp [errW_none, errW_some] <;> rfl) | (simp [*, errW_none, errW_some] <;> rfl), by repeat (first | (with_reducible first | exact HB.out | apply below_alloc | apply pw_below_drewN | apply below_drew1) | exact HB.out)⟩
         ·rw [if_neg c27] at H
          exact absurd H (by simp)
        ·rw [if_neg c26] at H
         exact absurd H (by simp)
       ·rw [if_neg c24] at H
        have c24b0 : (t638 == 0) = false := beq_eq_false_iff_ne.mpr c24
        have c24b1 : (t638 != 0) = true := bne_iff_ne.mpr c24
        have H1 : ((event_Check.f kj9 l0).bind fun t647 => (some (t647 == t638))) = some r := by first | (rw [if_pos rfl] at H; exact H) | exact H
        clear H
        have H := H1
        clear H1
        replace H := Option.bind_eq_some_iff.mp H
        obtain ⟨t647, A330, H⟩ := H
        replace H : (some (t647 == t638)) = some r := H
        have A33 := Aside0.mk A330
        clear A330
        obtain rfl := Option.some.inj H
        go_wp2_with (first | ((with_reducible refine gate_callee (f := 12) rfl ?_); refine goesL_ (some 56) rfl rfl Tryd.func12 (by kernel_rfl) rfl #[.slice A0 l0.length c0] rfl (by (try simp only [List.map_toArray, List.map_cons, List.map_nil]); first | done | rfl | (simp only [List.length_drop, List.length_take]; first | rfl | (rw [Nat.min_eq_left (Int.toNat_le.2 (of_decide_eq_true (by assumption)))]; rfl))) ?_; (with_reducible refine (event_Encode.calls kj9 _ _ l0 t637 t638 _ ?side1 ?side2 A23.out).mono ?_); (case side1 => repeat (first | exact (Kd.C_below HR0.out HB.out) | (with_reducible refine Kd.C_alloc ?_ _) | (with_reducible refine Kd.C_drewN ?_ _) | (with_reducible refine Kd.C_drew ?_))); (case side2 => exact HC0.out); rintro e w34 ⟨v639, rfl, ho0, hb⟩; refine ⟨_, rfl, ?_⟩; have n0_ := Aside0.mk (Kd.R_lower ho0 (below_size (by repeat (first | (with_reducible first | exact HB.out | apply below_alloc | apply pw_below_drewN | apply below_drew1) | exact HB.out)))); have n1_ := Aside0.mk (below_step (by repeat (first | (with_reducible first | exact HB.out | apply below_alloc | apply pw_below_drewN | apply below_drew1) | exact HB.out)) hb); clear HB; have HO640 := n0_; have HB := n1_; clear n0_ n1_; (try clear hb); (try clear hb2); (try clear hk); (try clear hi); (try clear ho0)) | (go_at_call 11; (with_reducible refine (event_Check.calls kj9 _ _ l0 t647 _ ?side1 ?side2 A33.out).mono ?_); (case side1 => repeat (first | exact (Kd.C_below HR0.out HB.out) | (with_reducible refine Kd.C_alloc ?_ _) | (with_reducible refine Kd.C_drewN ?_ _) | (with_reducible refine Kd.C_drew ?_))); (case side2 => exact HC0.out); rintro e w35 ⟨rfl, hb⟩; have n0_ := Aside0.mk (Kd.R_below (by (with_reducible repeat (first | apply Kd.R_alloc | apply Kd.R_drewN | apply Kd.R_drew)); first | exact HO640.out | exact Kd.R_mono HO640.out (fun _ _ => trivial)) hb); have n1_ := Aside0.mk (below_step (by repeat (first | (with_reducible first | exact HB.out | apply below_alloc | apply pw_below_drewN | apply below_drew1) | exact HB.out)) hb); clear HO640; clear HB; have HO640 := n0_; have HB := n1_; clear n0_ n1_; (try clear hb); (try clear hb2); (try clear hk); (try clear hi)))
        go_ret
        exact ⟨by first | rfl | (simp [errW_none, errW_some] <;> rfl) | (simp [*, errW_none, errW_some] <;> rfl), by repeat (first | (with_reducible first | exact HB.out | apply below_alloc | apply pw_below_drewN | apply below_drew1) | exact HB.out)⟩
 ·replace c4 := Bool.eq_false_iff.mpr c4
  subst c4
  have H1 : (none) = some r := by rw [if_neg (show ¬ (false = true) by decide)] at H; exact H
  clear H
  have H := H1
  clear H1
  exact absurd H (by simp)

end Go.Proofs.YtcbjbgleflbpmaaDoor.Print
