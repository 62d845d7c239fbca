-- PRINTED by print.py (a twelfth state) out of the translation. Not trusted: Lean checks it.
import Derived.Test.YtcbjbgleflbpmaaDoorPrint0
import Derived.Test.YtcbjbgleflbpmaaDoorPrint6
import Derived.Test.YtcbjbgleflbpmaaDoorPrint11
import Derived.Test.YtcbjbgleflbpmaaDoorPrint17
import Derived.Test.YtcbjbgleflbpmaaDoorPrint18
import Derived.Test.YtcbjbgleflbpmaaDoorPrint20
import Derived.Test.YtcbjbgleflbpmaaDoorPrint21
namespace Go.Proofs.YtcbjbgleflbpmaaDoor.Print
open Go.RowKit Go.Proofs.YtcbjbgleflbpmaaDoorW.PrintWords Go.Proofs.YtcbjbgleflbpmaaDoorW.PrintLast Go.Proofs.YtcbjbgleflbpmaaDoorW.PrintMore Go.Proofs.YtcbjbgleflbpmaaDoorX
attribute [local go_sem] str_lss str_geq max2_int min2_int max_two min_two max_three min_three max_four min_four   -- for this text's walks alone
set_option linter.unusedVariables false
set_option linter.unusedSimpArgs false

/-! ### palletlaw19_EventWrites: function 5 -/
mutual
def palletlaw19_EventWrites.j0 : Nat → List (S30) → List (S30) → Bool → Bool → Option (Bool)
 | 0, _, _, _, _ => none
 | k + 1, x0, x1, x5, x36 => if x36 = true then (some x5) else (palletlaw19_EventWrites.l0 k x0 x1 x5 x1 (x1.length : Int) 0)
def palletlaw19_EventWrites.l0 : Nat → List (S30) → List (S30) → Bool → List (S30) → Int → Int → Option (Bool)
 | 0, _, _, _, _, _, _ => none
 | k + 1, x0, x1, x5, x38, x39, x40 => if x40 < x39 then (if 0 ≤ x40 then (if x40 < (x38.length : Int) then ((event_Write.f k ((rd_T30 x38 x40).f0) ((rd_T30 x38 x40).f1) ((rd_T30 x38 x40).f2) ((rd_T30 x38 x40).f3) ((rd_T30 x38 x40).f4)).bind fun bt398 => ((palletref19_Write.f k ((rd_T30 x38 x40).f0) ((rd_T30 x38 x40).f1) ((rd_T30 x38 x40).f2) ((rd_T30 x38 x40).f3) ((rd_T30 x38 x40).f4)).bind fun bt402 => ((palletref02_Same.f bt398.1 bt402.1).bind fun t406 => (if t406 = true then (if bt398.2 = bt402.2 then (palletlaw19_EventWrites.l0 k x0 x1 x5 x38 x39 (wrap64 (x40 + 1))) else (none)) else (none))))) else (none)) else (none)) else ((event_Encode.f k x0).bind fun bt407 => ((palletref19_Encode.f k x0).bind fun bt411 => (if x5 = true then ((palletref02_Same.f bt407.1 bt411.1).bind fun t415 => (if t415 = true then (if bt407.2 = bt411.2 then ((event_Check.f k x0).bind fun t416 => ((palletref19_Check.f k x0).bind fun t417 => (if t416 = t417 then ((event_Same.f k x0 x1).bind fun t418 => ((palletref19_Same.f k x0 x1).bind fun t419 => (some (t418 == t419)))) else (none)))) else (none)) else (none))) else (none))))
end
def palletlaw19_EventWrites.f (k : Nat) (l0 : List (S30)) (l1 : List (S30)) : Option (Bool) := (palletlaw19_live.f k).bind fun t395 => (if t395 = true then (if (l0.length : Int) > 300 then (if (l0.length : Int) ≤ 20000 then (palletlaw19_EventWrites.j0 k l0 l1 t395 true) else (if (l0.length : Int) > 20010 then (palletlaw19_EventWrites.j0 k l0 l1 t395 true) else (palletlaw19_EventWrites.j0 k l0 l1 t395 (decide ((l1.length : Int) > 300))))) else (if (l0.length : Int) > 20010 then (palletlaw19_EventWrites.j0 k l0 l1 t395 true) else (palletlaw19_EventWrites.j0 k l0 l1 t395 (decide ((l1.length : Int) > 300))))) else (none))
theorem palletlaw19_EventWrites.mono_l : ∀ k, (∀ y0 y1 y2 y3, LeO (palletlaw19_EventWrites.j0 k y0 y1 y2 y3) (palletlaw19_EventWrites.j0 (k + 1) y0 y1 y2 y3)) ∧ (∀ y0 y1 y2 y3 y4 y5, LeO (palletlaw19_EventWrites.l0 k y0 y1 y2 y3 y4 y5) (palletlaw19_EventWrites.l0 (k + 1) y0 y1 y2 y3 y4 y5))
 | 0 => ⟨fun _ _ _ _ r h => by simp [palletlaw19_EventWrites.j0] at h, fun _ _ _ _ _ _ r h => by simp [palletlaw19_EventWrites.l0] at h⟩
 | k + 1 => by
  obtain ⟨ih0, ih1⟩ := palletlaw19_EventWrites.mono_l k
  refine ⟨?_, ?_⟩
  ·intro y0 y1 y2 y3
   unfold palletlaw19_EventWrites.j0
   repeat' first
   | (with_reducible exact ih0 _ _ _ _)
   | (with_reducible exact ih1 _ _ _ _ _ _)
   | (with_reducible exact event_Check.mono _ _)
   | (with_reducible exact event_Encode.mono _ _)
   | (with_reducible exact event_Same.mono _ _ _)
   | (with_reducible exact event_Write.mono _ _ _ _ _ _)
   | (with_reducible exact palletlaw19_live.mono _)
   | (with_reducible exact palletref19_Check.mono _ _)
   | (with_reducible exact palletref19_Encode.mono _ _)
   | (with_reducible exact palletref19_Same.mono _ _ _)
   | (with_reducible exact palletref19_Write.mono _ _ _ _ _ _)
   | (with_reducible exact LeO.refl _)
   | (with_reducible exact LeO.none _)
   | (with_reducible refine LeO.ite ?_ ?_)
   | (with_reducible refine LeO.bind ?_ (fun _ => ?_))
   | exact ih0 _ _ _ _
   | exact ih1 _ _ _ _ _ _
   | exact event_Check.mono _ _
   | exact event_Encode.mono _ _
   | exact event_Same.mono _ _ _
   | exact event_Write.mono _ _ _ _ _ _
   | exact palletlaw19_live.mono _
   | exact palletref19_Check.mono _ _
   | exact palletref19_Encode.mono _ _
   | exact palletref19_Same.mono _ _ _
   | exact palletref19_Write.mono _ _ _ _ _ _
   | exact LeO.none _
   | refine LeO.ite ?_ ?_
   | refine LeO.bind ?_ (fun _ => ?_)
  ·intro y0 y1 y2 y3 y4 y5
   unfold palletlaw19_EventWrites.l0
   repeat' first
   | (with_reducible exact ih0 _ _ _ _)
   | (with_reducible exact ih1 _ _ _ _ _ _)
   | (with_reducible exact event_Check.mono _ _)
   | (with_reducible exact event_Encode.mono _ _)
   | (with_reducible exact event_Same.mono _ _ _)
   | (with_reducible exact event_Write.mono _ _ _ _ _ _)
   | (with_reducible exact palletlaw19_live.mono _)
   | (with_reducible exact palletref19_Check.mono _ _)
   | (with_reducible exact palletref19_Encode.mono _ _)
   | (with_reducible exact palletref19_Same.mono _ _ _)
   | (with_reducible exact palletref19_Write.mono _ _ _ _ _ _)
   | (with_reducible exact LeO.refl _)
   | (with_reducible exact LeO.none _)
   | (with_reducible refine LeO.ite ?_ ?_)
   | (with_reducible refine LeO.bind ?_ (fun _ => ?_))
   | exact ih0 _ _ _ _
   | exact ih1 _ _ _ _ _ _
   | exact event_Check.mono _ _
   | exact event_Encode.mono _ _
   | exact event_Same.mono _ _ _
   | exact event_Write.mono _ _ _ _ _ _
   | exact palletlaw19_live.mono _
   | exact palletref19_Check.mono _ _
   | exact palletref19_Encode.mono _ _
   | exact palletref19_Same.mono _ _ _
   | exact palletref19_Write.mono _ _ _ _ _ _
   | exact LeO.none _
   | refine LeO.ite ?_ ?_
   | refine LeO.bind ?_ (fun _ => ?_)
theorem palletlaw19_EventWrites.mono : ∀ a0 a1 k, LeO (palletlaw19_EventWrites.f k a0 a1) (palletlaw19_EventWrites.f (k + 1) a0 a1) := by
 intro a0 a1 k
 obtain ⟨ih0, ih1⟩ := palletlaw19_EventWrites.mono_l k
 unfold palletlaw19_EventWrites.f
 repeat' first
   | (with_reducible exact ih0 _ _ _ _)
   | (with_reducible exact ih1 _ _ _ _ _ _)
   | (with_reducible exact event_Check.mono _ _)
   | (with_reducible exact event_Encode.mono _ _)
   | (with_reducible exact event_Same.mono _ _ _)
   | (with_reducible exact event_Write.mono _ _ _ _ _ _)
   | (with_reducible exact palletlaw19_live.mono _)
   | (with_reducible exact palletref19_Check.mono _ _)
   | (with_reducible exact palletref19_Encode.mono _ _)
   | (with_reducible exact palletref19_Same.mono _ _ _)
   | (with_reducible exact palletref19_Write.mono _ _ _ _ _ _)
   | (with_reducible exact LeO.refl _)
   | (with_reducible exact LeO.none _)
   | (with_reducible refine LeO.ite ?_ ?_)
   | (with_reducible refine LeO.bind ?_ (fun _ => ?_))
   | exact ih0 _ _ _ _
   | exact ih1 _ _ _ _ _ _
   | exact event_Check.mono _ _
   | exact event_Encode.mono _ _
   | exact event_Same.mono _ _ _
   | exact event_Write.mono _ _ _ _ _ _
   | exact palletlaw19_live.mono _
   | exact palletref19_Check.mono _ _
   | exact palletref19_Encode.mono _ _
   | exact palletref19_Same.mono _ _ _
   | exact palletref19_Write.mono _ _ _ _ _ _
   | exact LeO.none _
   | refine LeO.ite ?_ ?_
   | refine LeO.bind ?_ (fun _ => ?_)
set_option maxHeartbeats 8000000 in
set_option maxRecDepth 100000 in
theorem palletlaw19_EventWrites.calls (k : Nat) (A0 : Option Addr) (c0 : Nat) (l0 : List (S30)) (A1 : Option Addr) (c1 : Nat) (l1 : List (S30)) (r : Bool) (w : World) (hr0 : Kd.C k30 w A0 l0.length l0) (hc0 : l0.length ≤ c0) (hr1 : Kd.C k30 w A1 l1.length l1) (hc1 : l1.length ≤ c1) (hr_ : Aside0 (r = true)) (h : palletlaw19_EventWrites.f k l0 l1 = some r) :
  Calls Tryd.prog 5 #[.slice A0 l0.length c0, .slice A1 l1.length c1] w fun e w' => e = .returned (.bool r) ∧ Below w.heap.size w w' := by
 have hu30 := Tryd.underlying30
 have HR0 := Aside0.mk hr0
 have HC0 := Aside0.mk hc0
 clear hr0 hc0
 have HR1 := Aside0.mk hr1
 have HC1 := Aside0.mk hc1
 clear hr1 hc1
 have HB := Aside0.mk (Below.refl w.heap.size w)
 have H : ((palletlaw19_live.f k).bind fun t395 => (if t395 = true then (if (l0.length : Int) > 300 then (if (l0.length : Int) ≤ 20000 then (palletlaw19_EventWrites.j0 k l0 l1 t395 true) else (if (l0.length : Int) > 20010 then (palletlaw19_EventWrites.j0 k l0 l1 t395 true) else (palletlaw19_EventWrites.j0 k l0 l1 t395 (decide ((l1.length : Int) > 300))))) else (if (l0.length : Int) > 20010 then (palletlaw19_EventWrites.j0 k l0 l1 t395 true) else (palletlaw19_EventWrites.j0 k l0 l1 t395 (decide ((l1.length : Int) > 300))))) else (none))) = some r := h
 clear h
 replace H := Option.bind_eq_some_iff.mp H
 obtain ⟨t395, A30, H⟩ := H
 replace H : (if t395 = true then (if (l0.length : Int) > 300 then (if (l0.length : Int) ≤ 20000 then (palletlaw19_EventWrites.j0 k l0 l1 t395 true) else (if (l0.length : Int) > 20010 then (palletlaw19_EventWrites.j0 k l0 l1 t395 true) else (palletlaw19_EventWrites.j0 k l0 l1 t395 (decide ((l1.length : Int) > 300))))) else (if (l0.length : Int) > 20010 then (palletlaw19_EventWrites.j0 k l0 l1 t395 true) else (palletlaw19_EventWrites.j0 k l0 l1 t395 (decide ((l1.length : Int) > 300))))) else (none)) = some r := H
 have A3 := Aside0.mk A30
 clear A30
 by_cases c4 : t395 = true
 ·subst c4
  have H1 : (if (l0.length : Int) > 300 then (if (l0.length : Int) ≤ 20000 then (palletlaw19_EventWrites.j0 k l0 l1 true true) else (if (l0.length : Int) > 20010 then (palletlaw19_EventWrites.j0 k l0 l1 true true) else (palletlaw19_EventWrites.j0 k l0 l1 true (decide ((l1.length : Int) > 300))))) else (if (l0.length : Int) > 20010 then (palletlaw19_EventWrites.j0 k l0 l1 true true) else (palletlaw19_EventWrites.j0 k l0 l1 true (decide ((l1.length : Int) > 300))))) = some r := by rw [if_pos rfl] at H; exact H
  clear H
  have H := H1
  clear H1
  have HC5 := Aside0.mk H
  clear H
  go_enter Tryd.func5, Tryd.ntmps5
  go_upto_region 4 with (first | ((with_reducible refine gate_callee (f := 10) rfl ?_); refine goesL_ (some 16) rfl rfl Tryd.func10 (by kernel_rfl) rfl #[] rfl (by (try simp only [List.map_toArray, List.map_cons, List.map_nil]); first | done | rfl | (simp only [List.length_drop, List.length_take]; first | rfl | (rw [Nat.min_eq_left (Int.toNat_le.2 (of_decide_eq_true (by assumption)))]; rfl))) ?_; (with_reducible refine (palletlaw19_live.calls k  true _ A3.out).mono ?_); rintro e w6 ⟨rfl, hb⟩; refine ⟨_, rfl, ?_⟩; have n0_ := Aside0.mk (below_step (by repeat (first | (with_reducible first | exact HB.out | apply below_alloc | apply pw_below_drewN | apply below_drew1) | exact HB.out)) hb); clear HB; have HB := n0_; clear n0_; (try clear hb); (try clear hb2); (try clear hk); (try clear hi)))
  (try simp only [Act.put, List.setIfInBounds_toArray, List.set_cons_zero, List.set_cons_succ])
  go_cut [36] (fun v36 wc => ∃ (kq : Nat) (x36_4 : Bool), v36 = .bool x36_4 ∧ Aside0 (palletlaw19_EventWrites.j0 kq l0 l1 true x36_4 = some r) ∧ Aside0 (kq ≤ k) ∧ Aside0 (Below w.heap.size w wc))
  case first =>
   have H := HC5.out
   clear HC5
   by_cases c7 : (l0.length : Int) > 300
   ·rw [if_pos c7] at H
    have c7b0 : decide (300 < (l0.length : Int)) = true := decide_eq_true c7
    have c7b1 : decide (300 < l0.length) = true := decide_eq_true (by omega)
    clear c7
    (first | rw [c7b0] | (simp only [i64_w, i32_w]; rw [c7b0]) | skip)
    by_cases c8 : (l0.length : Int) ≤ 20000
    ·rw [if_pos c8] at H
     have c8b0 : decide ((l0.length : Int) ≤ 20000) = true := decide_eq_true c8
     have c8b1 : decide (l0.length ≤ 20000) = true := decide_eq_true (by omega)
     clear c8
     have H' := Aside0.mk H
     clear H
     go_wp2
     go_meet
     case rel => exact ⟨_, (true), (by first | rfl | (simp; done) | (simp [*]; done)), H', ⟨by first | omega | exact Nat.le_refl _⟩, ⟨by repeat (first | (with_reducible first | exact HB.out | apply below_alloc | apply pw_below_drewN | apply below_drew1) | exact HB.out)⟩⟩
    ·rw [if_neg c8] at H
     have c8b0 : decide ((l0.length : Int) ≤ 20000) = false := decide_eq_false c8
     have c8b1 : decide (l0.length ≤ 20000) = false := decide_eq_false (by omega)
     clear c8
     by_cases c9 : (l0.length : Int) > 20010
     ·rw [if_pos c9] at H
      have c9b0 : decide (20010 < (l0.length : Int)) = true := decide_eq_true c9
      have c9b1 : decide (20010 < l0.length) = true := decide_eq_true (by omega)
      clear c9
      have H' := Aside0.mk H
      clear H
      go_wp2
      go_meet
      case rel => exact ⟨_, (true), (by first | rfl | (simp; done) | (simp [*]; done)), H', ⟨by first | omega | exact Nat.le_refl _⟩, ⟨by repeat (first | (with_reducible first | exact HB.out | apply below_alloc | apply pw_below_drewN | apply below_drew1) | exact HB.out)⟩⟩
     ·rw [if_neg c9] at H
      have c9b0 : decide (20010 < (l0.length : Int)) = false := decide_eq_false c9
      have c9b1 : decide (20010 < l0.length) = false := decide_eq_false (by omega)
      clear c9
      have H' := Aside0.mk H
      clear H
      go_wp2
      go_meet
      case rel => exact ⟨_, (decide ((l1.length : Int) > 300)), (by first | rfl | (simp; done) | (simp [*]; done)), H', ⟨by first | omega | exact Nat.le_refl _⟩, ⟨by repeat (first | (with_reducible first | exact HB.out | apply below_alloc | apply pw_below_drewN | apply below_drew1) | exact HB.out)⟩⟩
   ·rw [if_neg c7] at H
    have c7b0 : decide (300 < (l0.length : Int)) = false := decide_eq_false c7
    have c7b1 : decide (300 < l0.length) = false := decide_eq_false (by omega)
    clear c7
    (first | rw [c7b0] | (simp only [i64_w, i32_w]; rw [c7b0]) | skip)
    by_cases c10 : (l0.length : Int) > 20010
    ·rw [if_pos c10] at H
     have c10b0 : decide (20010 < (l0.length : Int)) = true := decide_eq_true c10
     have c10b1 : decide (20010 < l0.length) = true := decide_eq_true (by omega)
     clear c10
     have H' := Aside0.mk H
     clear H
     go_wp2
     go_meet
     case rel => exact ⟨_, (true), (by first | rfl | (simp; done) | (simp [*]; done)), H', ⟨by first | omega | exact Nat.le_refl _⟩, ⟨by repeat (first | (with_reducible first | exact HB.out | apply below_alloc | apply pw_below_drewN | apply below_drew1) | exact HB.out)⟩⟩
    ·rw [if_neg c10] at H
     have c10b0 : decide (20010 < (l0.length : Int)) = false := decide_eq_false c10
     have c10b1 : decide (20010 < l0.length) = false := decide_eq_false (by omega)
     clear c10
     have H' := Aside0.mk H
     clear H
     go_wp2
     go_meet
     case rel => exact ⟨_, (decide ((l1.length : Int) > 300)), (by first | rfl | (simp; done) | (simp [*]; done)), H', ⟨by first | omega | exact Nat.le_refl _⟩, ⟨by repeat (first | (with_reducible first | exact HB.out | apply below_alloc | apply pw_below_drewN | apply below_drew1) | exact HB.out)⟩⟩
  case rest =>
   clear HC5
   try clear c1
   try clear p2
   try clear c4
   try clear c5
   try clear c7
   try clear c7b0
   try clear c7b1
   try clear c8
   try clear c8b0
   try clear c8b1
   try clear c9
   try clear c9b0
   try clear c9b1
   try clear c10
   try clear c10b0
   try clear c10b1
   obtain ⟨kq, x36_4, rfl, HA, HJ4, HB⟩ := hcut
   cases kq with
   | zero => exact absurd HA.out (by simp [palletlaw19_EventWrites.j0])
   | succ kj4 =>
    have H := HA.out
    clear HA
    simp only [palletlaw19_EventWrites.j0] at H
    by_cases c11 : x36_4 = true
    ·subst c11
     have H1 : (some true) = some r := by rw [if_pos rfl] at H; exact H
     clear H
     have H := H1
     clear H1
     obtain rfl := Option.some.inj H
     go_wp2
     go_ret
     exact ⟨by first | rfl | (simp [errW_none, errW_some] <;> rfl) | (simp [*, errW_none, errW_some] <;> rfl), by repeat (first | (with_reducible first | exact HB.out | apply below_alloc | apply pw_below_drewN | apply below_drew1) | exact HB.out)⟩
    ·replace c11 := Bool.eq_false_iff.mpr c11
     subst c11
     have H1 : (palletlaw19_EventWrites.l0 kj4 l0 l1 true l1 (l1.length : Int) 0) = some r := by rw [if_neg (show ¬ (false = true) by decide)] at H; exact H
     clear H
     have H := H1
     clear H1
     have H' := Aside0.mk H
     clear H
     go_wp2
     go_loopg [40] kj4 (fun kq v40 w' => ∃ (x40_2 : Int), v40 = .int .i64 x40_2 ∧ Aside0 (palletlaw19_EventWrites.l0 kq l0 l1 true l1 (l1.length : Int) x40_2 = some r) ∧ Aside0 (kq ≤ kj4) ∧ Aside0 (Below w.heap.size w w'))
     case atStart => exact ⟨(0), (by first | rfl | (simp; done) | (simp [*]; done)), H', ⟨Nat.le_refl _⟩, ⟨by repeat (first | (with_reducible first | exact HB.out | apply below_alloc | apply pw_below_drewN | apply below_drew1) | exact HB.out)⟩⟩
     case round =>
      clear H'
      try clear c1
      try clear p2
      try clear c4
      try clear c5
      try clear c7
      try clear c7b0
      try clear c7b1
      try clear c8
      try clear c8b0
      try clear c8b1
      try clear c9
      try clear c9b0
      try clear c9b1
      try clear c10
      try clear c10b0
      try clear c10b1
      try clear c11
      try clear p2
      obtain ⟨x40_2, rfl, HA, HK2, HB⟩ := hrel
      cases gk with
      | zero => exact absurd HA.out (by simp [palletlaw19_EventWrites.l0])
      | succ k2 =>
       have H := HA.out
       clear HA
       simp only [palletlaw19_EventWrites.l0] at H
       by_cases c12 : x40_2 < (l1.length : Int)
       ·rw [if_pos c12] at H
        have c12b0 : decide (x40_2 < (l1.length : Int)) = true := decide_eq_true c12
        clear c12
        by_cases c13 : 0 ≤ x40_2
        ·rw [if_pos c13] at H
         have c13b0 : decide (0 ≤ x40_2) = true := decide_eq_true c13
         clear c13
         by_cases c14 : x40_2 < (l1.length : Int)
         ·rw [if_pos c14] at H
          have c14b0 : decide (x40_2 < (l1.length : Int)) = true := decide_eq_true c14
          clear c14
          replace H := Option.bind_eq_some_iff.mp H
          obtain ⟨⟨t398, t401⟩, A150, H⟩ := H
          replace H : ((palletref19_Write.f k2 ((rd_T30 l1 x40_2).f0) ((rd_T30 l1 x40_2).f1) ((rd_T30 l1 x40_2).f2) ((rd_T30 l1 x40_2).f3) ((rd_T30 l1 x40_2).f4)).bind fun bt402 => ((palletref02_Same.f t398 bt402.1).bind fun t406 => (if t406 = true then (if t401 = bt402.2 then (palletlaw19_EventWrites.l0 k2 l0 l1 true l1 (l1.length : Int) (wrap64 (x40_2 + 1))) else (none)) else (none)))) = some r := H
          have A15 := Aside0.mk A150
          clear A150
          replace H := Option.bind_eq_some_iff.mp H
          obtain ⟨⟨t402, t405⟩, A160, H⟩ := H
          replace H : ((palletref02_Same.f t398 t402).bind fun t406 => (if t406 = true then (if t401 = t405 then (palletlaw19_EventWrites.l0 k2 l0 l1 true l1 (l1.length : Int) (wrap64 (x40_2 + 1))) else (none)) else (none))) = some r := H
          have A16 := Aside0.mk A160
          clear A160
          replace H := Option.bind_eq_some_iff.mp H
          obtain ⟨t406, A170, H⟩ := H
          replace H : (if t406 = true then (if t401 = t405 then (palletlaw19_EventWrites.l0 k2 l0 l1 true l1 (l1.length : Int) (wrap64 (x40_2 + 1))) else (none)) else (none)) = some r := H
          have A17 := Aside0.mk A170
          clear A170
          by_cases c18 : t406 = true
          ·subst c18
           have H1 : (if t401 = t405 then (palletlaw19_EventWrites.l0 k2 l0 l1 true l1 (l1.length : Int) (wrap64 (x40_2 + 1))) else (none)) = some r := by rw [if_pos rfl] at H; exact H
           clear H
           have H := H1
           clear H1
           by_cases c19 : t401 = t405
           ·rw [if_pos c19] at H
            have c19b0 : (t401 == t405) = true := beq_iff_eq.mpr c19
            have c19b1 : (t401 != t405) = false := bne_eq_false_iff_eq.mpr c19
            clear c19
            have H' := Aside0.mk H
            clear H
            have p396 : 0 ≤ (x40_2 : Int) := of_decide_eq_true (by first | (with_reducible assumption) | assumption)
            have q396 : x40_2 < (l1.length : Int) := of_decide_eq_true (by first | (with_reducible assumption) | assumption)
            obtain ⟨ad396, e396, hx396_0, hx396_1, hx396_2, hx396_3, hx396_4⟩ := at_T30 HR1.out x40_2 p396 q396
            cases e396
            replace hx396_0 := (HB.out.cell (World.block_lt_of_cell? w _ hx396_0)).trans hx396_0
            replace hx396_1 := (HB.out.cell (World.block_lt_of_cell? w _ hx396_1)).trans hx396_1
            replace hx396_2 := (HB.out.cell (World.block_lt_of_cell? w _ hx396_2)).trans hx396_2
            replace hx396_3 := (HB.out.cell (World.block_lt_of_cell? w _ hx396_3)).trans hx396_3
            replace hx396_4 := (HB.out.cell (World.block_lt_of_cell? w _ hx396_4)).trans hx396_4
            replace p396 := eq_true p396
            replace q396 := eq_true q396
            go_wp2_with (first | ((with_reducible refine gate_dst (N := 7) rfl ?_); (try (refine gate_guard (by rfl) ?_; dsimp only)); refine box_event ?hg (N := 7) ?hd (cs := #[.int .i64 0, .int .i64 0, .int .i64 0, .int .i64 0, .int .i64 0]) (t := 30) ?hr ?_; (case hd => rfl); (case hg => rfl); (case hr => first | (go_simp; done) | (go_simp; rfl)); intro gb397 hg w20 hbox hb; have n0_ := Aside0.mk (below_step (by repeat (first | (with_reducible first | exact HB.out | apply below_alloc | apply pw_below_drewN | apply below_drew1) | exact HB.out)) hb); have n1_ := Aside0.mk (hbox); have n2_ := Aside0.mk ((by rw [hg]; exact (below_size (by repeat (first | (with_reducible first | exact HB.out | apply below_alloc | apply pw_below_drewN | apply below_drew1) | exact HB.out))) : w.heap.size ≤ gb397)); have n3_ := Aside0.mk ((by rw [hg]; exact (below_size (by repeat (first | (with_reducible first | exact HB.out | apply below_alloc | apply pw_below_drewN | apply below_drew1) | exact HB.out))) : w.heap.size ≤ gb397)); clear HB; have HB := n0_; have BK397 := n1_; have GW397 := n2_; have GE397 := n3_; clear n0_ n1_ n2_ n3_; clear hb hbox hg; have hcz21_0 : w20.cell? ⟨gb397, 0, none⟩ = some (.int .i64 0) := (blk_cell BK397.out 0).trans rfl; have hcz21_1 : w20.cell? ⟨gb397, 1, none⟩ = some (.int .i64 0) := (blk_cell BK397.out 1).trans rfl; have hcz21_2 : w20.cell? ⟨gb397, 2, none⟩ = some (.int .i64 0) := (blk_cell BK397.out 2).trans rfl; have hcz21_3 : w20.cell? ⟨gb397, 3, none⟩ = some (.int .i64 0) := (blk_cell BK397.out 3).trans rfl; have hcz21_4 : w20.cell? ⟨gb397, 4, none⟩ = some (.int .i64 0) := (blk_cell BK397.out 4).trans rfl; have hfz21_0 := blk_frozen BK397.out 0; have hfz21_1 := blk_frozen BK397.out 1; have hfz21_2 := blk_frozen BK397.out 2; have hfz21_3 := blk_frozen BK397.out 3; have hfz21_4 := blk_frozen BK397.out 4) | ((with_reducible refine gate_callee (f := 13) rfl ?_); refine goesL_ (some 46) rfl rfl Tryd.func13 (by kernel_rfl) rfl #[.agg #[.int .i64 ((rd_T30 l1 x40_2).f0), .int .i64 ((rd_T30 l1 x40_2).f1), .int .i64 ((rd_T30 l1 x40_2).f2), .int .i64 ((rd_T30 l1 x40_2).f3), .int .i64 ((rd_T30 l1 x40_2).f4)]] rfl (by (try simp only [List.map_toArray, List.map_cons, List.map_nil]); first | done | rfl | (simp only [List.length_drop, List.length_take]; first | rfl | (rw [Nat.min_eq_left (Int.toNat_le.2 (of_decide_eq_true (by assumption)))]; rfl))) ?_; (with_reducible refine (event_Write.calls k2 ((rd_T30 l1 x40_2).f0) ((rd_T30 l1 x40_2).f1) ((rd_T30 l1 x40_2).f2) ((rd_T30 l1 x40_2).f3) ((rd_T30 l1 x40_2).f4) t398 t401 _ A15.out).mono ?_); rintro e w22 ⟨v399, rfl, ho0, hb⟩; refine ⟨_, rfl, ?_⟩; have n0_ := Aside0.mk (Kd.R_lower ho0 (below_size (by repeat (first | (with_reducible first | exact HB.out | apply below_alloc | apply pw_below_drewN | apply below_drew1 | refine below_set ?_ GE397.out) | exact HB.out)))); have n1_ := Aside0.mk (blk_below (g := gb397) (o := .cells #[.int .i64 ((rd_T30 l1 x40_2).f0), .int .i64 ((rd_T30 l1 x40_2).f1), .int .i64 ((rd_T30 l1 x40_2).f2), .int .i64 ((rd_T30 l1 x40_2).f3), .int .i64 ((rd_T30 l1 x40_2).f4)] 30 (0, 0)) (by (with_reducible repeat (first | refine blk_drewN ?_ _ | refine blk_drew ?_ | refine blk_alloc ?_ _)); refine blk_put (cs := #[.int .i64 ((rd_T30 l1 x40_2).f0), .int .i64 ((rd_T30 l1 x40_2).f1), .int .i64 ((rd_T30 l1 x40_2).f2), .int .i64 ((rd_T30 l1 x40_2).f3), .int .i64 0]) ?_ 4 _ rfl; (with_reducible repeat (first | refine blk_drewN ?_ _ | refine blk_drew ?_ | refine blk_alloc ?_ _)); refine blk_put (cs := #[.int .i64 ((rd_T30 l1 x40_2).f0), .int .i64 ((rd_T30 l1 x40_2).f1), .int .i64 ((rd_T30 l1 x40_2).f2), .int .i64 0, .int .i64 0]) ?_ 3 _ rfl; (with_reducible repeat (first | refine blk_drewN ?_ _ | refine blk_drew ?_ | refine blk_alloc ?_ _)); refine blk_put (cs := #[.int .i64 ((rd_T30 l1 x40_2).f0), .int .i64 ((rd_T30 l1 x40_2).f1), .int .i64 0, .int .i64 0, .int .i64 0]) ?_ 2 _ rfl; (with_reducible repeat (first | refine blk_drewN ?_ _ | refine blk_drew ?_ | refine blk_alloc ?_ _)); refine blk_put (cs := #[.int .i64 ((rd_T30 l1 x40_2).f0), .int .i64 0, .int .i64 0, .int .i64 0, .int .i64 0]) ?_ 1 _ rfl; (with_reducible repeat (first | refine blk_drewN ?_ _ | refine blk_drew ?_ | refine blk_alloc ?_ _)); refine blk_put (cs := #[.int .i64 0, .int .i64 0, .int .i64 0, .int .i64 0, .int .i64 0]) ?_ 0 _ rfl; (with_reducible repeat (first | refine blk_drewN ?_ _ | refine blk_drew ?_ | refine blk_alloc ?_ _)); exact BK397.out) hb); have n2_ := Aside0.mk (below_step (by repeat (first | (with_reducible first | exact HB.out | apply below_alloc | apply pw_below_drewN | apply below_drew1 | refine below_set ?_ GE397.out) | exact HB.out)) hb); clear BK397; clear HB; have HO400 := n0_; have BK397 := n1_; have HB := n2_; clear n0_ n1_ n2_; (try clear hb); (try clear hb2); (try clear hk); (try clear hi); (try clear ho0); have hcz23_0 : w22.cell? ⟨gb397, 0, none⟩ = some (.int .i64 ((rd_T30 l1 x40_2).f0)) := (blk_cell BK397.out 0).trans rfl; have hcz23_1 : w22.cell? ⟨gb397, 1, none⟩ = some (.int .i64 ((rd_T30 l1 x40_2).f1)) := (blk_cell BK397.out 1).trans rfl; have hcz23_2 : w22.cell? ⟨gb397, 2, none⟩ = some (.int .i64 ((rd_T30 l1 x40_2).f2)) := (blk_cell BK397.out 2).trans rfl; have hcz23_3 : w22.cell? ⟨gb397, 3, none⟩ = some (.int .i64 ((rd_T30 l1 x40_2).f3)) := (blk_cell BK397.out 3).trans rfl; have hcz23_4 : w22.cell? ⟨gb397, 4, none⟩ = some (.int .i64 ((rd_T30 l1 x40_2).f4)) := (blk_cell BK397.out 4).trans rfl; have hfz23_0 := blk_frozen BK397.out 0; have hfz23_1 := blk_frozen BK397.out 1; have hfz23_2 := blk_frozen BK397.out 2; have hfz23_3 := blk_frozen BK397.out 3; have hfz23_4 := blk_frozen BK397.out 4) | ((with_reducible refine gate_callee (f := 16) rfl ?_); refine goesL_ (some 51) rfl rfl Tryd.func16 (by kernel_rfl) rfl #[.agg #[.int .i64 ((rd_T30 l1 x40_2).f0), .int .i64 ((rd_T30 l1 x40_2).f1), .int .i64 ((rd_T30 l1 x40_2).f2), .int .i64 ((rd_T30 l1 x40_2).f3), .int .i64 ((rd_T30 l1 x40_2).f4)]] rfl (by (try simp only [List.map_toArray, List.map_cons, List.map_nil]); first | done | rfl | (simp only [List.length_drop, List.length_take]; first | rfl | (rw [Nat.min_eq_left (Int.toNat_le.2 (of_decide_eq_true (by assumption)))]; rfl))) ?_; (with_reducible refine (palletref19_Write.calls k2 ((rd_T30 l1 x40_2).f0) ((rd_T30 l1 x40_2).f1) ((rd_T30 l1 x40_2).f2) ((rd_T30 l1 x40_2).f3) ((rd_T30 l1 x40_2).f4) t402 t405 _ A16.out).mono ?_); rintro e w24 ⟨v403, rfl, ho0, hb⟩; refine ⟨_, rfl, ?_⟩; have n0_ := Aside0.mk (Kd.R_elder' (by (with_reducible repeat (first | apply Kd.R_alloc | apply Kd.R_drewN | apply Kd.R_drew)); first | exact HO400.out | exact Kd.R_mono HO400.out (fun _ _ => trivial)) (Kd.R_base ho0) hb); have n1_ := Aside0.mk (Kd.R_lower (Kd.R_new' ho0 (Kd.R_lt (by (with_reducible repeat (first | apply Kd.R_alloc | apply Kd.R_drewN | apply Kd.R_drew)); first | exact HO400.out | exact Kd.R_mono HO400.out (fun _ _ => trivial)))) (below_size (by repeat (first | (with_reducible first | exact HB.out | apply below_alloc | apply pw_below_drewN | apply below_drew1 | refine below_set ?_ GE397.out) | exact HB.out)))); have n2_ := Aside0.mk (blk_below (g := gb397) (o := .cells #[.int .i64 ((rd_T30 l1 x40_2).f0), .int .i64 ((rd_T30 l1 x40_2).f1), .int .i64 ((rd_T30 l1 x40_2).f2), .int .i64 ((rd_T30 l1 x40_2).f3), .int .i64 ((rd_T30 l1 x40_2).f4)] 30 (0, 0)) (by (with_reducible repeat (first | refine blk_drewN ?_ _ | refine blk_drew ?_ | refine blk_alloc ?_ _)); exact BK397.out) hb); have n3_ := Aside0.mk (below_step (by repeat (first | (with_reducible first | exact HB.out | apply below_alloc | apply pw_below_drewN | apply below_drew1 | refine below_set ?_ GE397.out) | exact HB.out)) hb); clear HO400; clear BK397; clear HB; have HO400 := n0_; have HO404 := n1_; have BK397 := n2_; have HB := n3_; clear n0_ n1_ n2_ n3_; (try clear hb); (try clear hb2); (try clear hk); (try clear hi); (try clear ho0); obtain ⟨Ao25, co25, eo25⟩ := Kd.R_slice HO400.out; subst eo25; obtain ⟨Ao26, co26, eo26⟩ := Kd.R_slice HO404.out; subst eo26) | ((with_reducible refine gate_callee (f := 15) rfl ?_); refine goesL_ (some 56) rfl rfl Tryd.func15 (by kernel_rfl) rfl #[.slice Ao25 t398.length co25, .slice Ao26 t402.length co26] rfl (by (try simp only [List.map_toArray, List.map_cons, List.map_nil]); first | done | rfl | (simp only [List.length_drop, List.length_take]; first | rfl | (rw [Nat.min_eq_left (Int.toNat_le.2 (of_decide_eq_true (by assumption)))]; rfl))) ?_; (with_reducible refine (palletref02_Same.calls _ _ t398 _ _ t402 true _ ?side1 ?side2 ?side3 ?side4 A17.out).mono ?_); (case side1 => repeat (first | exact (Kd.R_reads' HO400.out).2.2 | (with_reducible refine Kd.C_alloc ?_ _) | (with_reducible refine Kd.C_drewN ?_ _) | (with_reducible refine Kd.C_drew ?_))); (case side2 => exact (Kd.R_reads' HO400.out).2.1); (case side3 => repeat (first | exact (Kd.R_reads' HO404.out).2.2 | (with_reducible refine Kd.C_alloc ?_ _) | (with_reducible refine Kd.C_drewN ?_ _) | (with_reducible refine Kd.C_drew ?_))); (case side4 => exact (Kd.R_reads' HO404.out).2.1); rintro e w' ⟨rfl, ⟨nd, rfl⟩⟩; refine ⟨_, rfl, ?_⟩))
            go_roundg k2
            case measure => have := HJ4.out; have := HK2.out; omega
            case rel => exact ⟨(wrap64 (x40_2 + 1)), (by first | rfl | (simp; done) | (simp [*]; done)), H', ⟨by have := HJ4.out; have := HK2.out; omega⟩, ⟨by repeat (first | (with_reducible first | exact HB.out | apply below_alloc | apply pw_below_drewN | apply below_drew1 | refine below_set ?_ GE397.out) | exact HB.out)⟩⟩
           ·rw [if_neg c19] at H
            exact absurd H (by simp)
          ·replace c18 := Bool.eq_false_iff.mpr c18
           subst c18
           have H1 : (none) = some r := by rw [if_neg (show ¬ (false = true) by decide)] at H; exact H
           clear H
           have H := H1
           clear H1
           exact absurd H (by simp)
         ·rw [if_neg c14] at H
          exact absurd H (by simp)
        ·rw [if_neg c13] at H
         exact absurd H (by simp)
       ·rw [if_neg c12] at H
        have c12b0 : decide (x40_2 < (l1.length : Int)) = false := decide_eq_false c12
        clear c12
        replace H := Option.bind_eq_some_iff.mp H
        obtain ⟨⟨t407, t408⟩, A270, H⟩ := H
        replace H : ((palletref19_Encode.f k2 l0).bind fun bt411 => (if true = true then ((palletref02_Same.f t407 bt411.1).bind fun t415 => (if t415 = true then (if t408 = bt411.2 then ((event_Check.f k2 l0).bind fun t416 => ((palletref19_Check.f k2 l0).bind fun t417 => (if t416 = t417 then ((event_Same.f k2 l0 l1).bind fun t418 => ((palletref19_Same.f k2 l0 l1).bind fun t419 => (some (t418 == t419)))) else (none)))) else (none)) else (none))) else (none))) = some r := H
        have A27 := Aside0.mk A270
        clear A270
        replace H := Option.bind_eq_some_iff.mp H
        obtain ⟨⟨t411, t412⟩, A280, H⟩ := H
        replace H : (if true = true then ((palletref02_Same.f t407 t411).bind fun t415 => (if t415 = true then (if t408 = t412 then ((event_Check.f k2 l0).bind fun t416 => ((palletref19_Check.f k2 l0).bind fun t417 => (if t416 = t417 then ((event_Same.f k2 l0 l1).bind fun t418 => ((palletref19_Same.f k2 l0 l1).bind fun t419 => (some (t418 == t419)))) else (none)))) else (none)) else (none))) else (none)) = some r := H
        have A28 := Aside0.mk A280
        clear A280
        have H1 : ((palletref02_Same.f t407 t411).bind fun t415 => (if t415 = true then (if t408 = t412 then ((event_Check.f k2 l0).bind fun t416 => ((palletref19_Check.f k2 l0).bind fun t417 => (if t416 = t417 then ((event_Same.f k2 l0 l1).bind fun t418 => ((palletref19_Same.f k2 l0 l1).bind fun t419 => (some (t418 == t419)))) else (none)))) else (none)) else (none))) = some r := by first | (rw [if_pos rfl] at H; exact H) | exact H
        clear H
        have H := H1
        clear H1
        replace H := Option.bind_eq_some_iff.mp H
        obtain ⟨t415, A290, H⟩ := H
        replace H : (if t415 = true then (if t408 = t412 then ((event_Check.f k2 l0).bind fun t416 => ((palletref19_Check.f k2 l0).bind fun t417 => (if t416 = t417 then ((event_Same.f k2 l0 l1).bind fun t418 => ((palletref19_Same.f k2 l0 l1).bind fun t419 => (some (t418 == t419)))) else (none)))) else (none)) else (none)) = some r := H
        have A29 := Aside0.mk A290
        clear A290
        by_cases c30 : t415 = true
        ·subst c30
         have H1 : (if t408 = t412 then ((event_Check.f k2 l0).bind fun t416 => ((palletref19_Check.f k2 l0).bind fun t417 => (if t416 = t417 then ((event_Same.f k2 l0 l1).bind fun t418 => ((palletref19_Same.f k2 l0 l1).bind fun t419 => (some (t418 == t419)))) else (none)))) else (none)) = some r := by rw [if_pos rfl] at H; exact H
         clear H
         have H := H1
         clear H1
         by_cases c31 : t408 = t412
         ·rw [if_pos c31] at H
          have c31b0 : (t408 == t412) = true := beq_iff_eq.mpr c31
          have c31b1 : (t408 != t412) = false := bne_eq_false_iff_eq.mpr c31
          clear c31
          replace H := Option.bind_eq_some_iff.mp H
          obtain ⟨t416, A320, H⟩ := H
          replace H : ((palletref19_Check.f k2 l0).bind fun t417 => (if t416 = t417 then ((event_Same.f k2 l0 l1).bind fun t418 => ((palletref19_Same.f k2 l0 l1).bind fun t419 => (some (t418 == t419)))) else (none))) = some r := H
          have A32 := Aside0.mk A320
          clear A320
          replace H := Option.bind_eq_some_iff.mp H
          obtain ⟨t417, A330, H⟩ := H
          replace H : (if t416 = t417 then ((event_Same.f k2 l0 l1).bind fun t418 => ((palletref19_Same.f k2 l0 l1).bind fun t419 => (some (t418 == t419)))) else (none)) = some r := H
          have A33 := Aside0.mk A330
          clear A330
          by_cases c34 : t416 = t417
          ·rw [if_pos c34] at H
           have c34b0 : (t416 == t417) = true := beq_iff_eq.mpr c34
           have c34b1 : (t416 != t417) = false := bne_eq_false_iff_eq.mpr c34
           clear c34
           replace H := Option.bind_eq_some_iff.mp H
           obtain ⟨t418, A350, H⟩ := H
           replace H : ((palletref19_Same.f k2 l0 l1).bind fun t419 => (some (t418 == t419))) = some r := H
           have A35 := Aside0.mk A350
           clear A350
           replace H := Option.bind_eq_some_iff.mp H
           obtain ⟨t419, A360, H⟩ := H
           replace H : (some (t418 == t419)) = some r := H
           have A36 := Aside0.mk A360
           clear A360
           obtain rfl := Option.some.inj H
           go_wp2_with (first | ((with_reducible refine gate_callee (f := 12) rfl ?_); refine goesL_ (some 66) rfl rfl Tryd.func12 (by kernel_rfl) rfl #[.slice A0 l0.length c0] rfl (by (try simp only [List.map_toArray, List.map_cons, List.map_nil]); first | done | rfl | (simp only [List.length_drop, List.length_take]; first | rfl | (rw [Nat.min_eq_left (Int.toNat_le.2 (of_decide_eq_true (by assumption)))]; rfl))) ?_; (with_reducible refine (event_Encode.calls k2 _ _ l0 t407 t408 _ ?side1 ?side2 A27.out).mono ?_); (case side1 => repeat (first | exact (Kd.C_below HR0.out HB.out) | (with_reducible refine Kd.C_alloc ?_ _) | (with_reducible refine Kd.C_drewN ?_ _) | (with_reducible refine Kd.C_drew ?_))); (case side2 => exact HC0.out); rintro e w37 ⟨v409, rfl, ho0, hb⟩; refine ⟨_, rfl, ?_⟩; have n0_ := Aside0.mk (Kd.R_lower ho0 (below_size (by repeat (first | (with_reducible first | exact HB.out | apply below_alloc | apply pw_below_drewN | apply below_drew1) | exact HB.out)))); have n1_ := Aside0.mk (below_step (by repeat (first | (with_reducible first | exact HB.out | apply below_alloc | apply pw_below_drewN | apply below_drew1) | exact HB.out)) hb); clear HB; have HO410 := n0_; have HB := n1_; clear n0_ n1_; (try clear hb); (try clear hb2); (try clear hk); (try clear hi); (try clear ho0)) | ((with_reducible refine gate_callee (f := 17) rfl ?_); refine goesL_ (some 71) rfl rfl Tryd.func17 (by kernel_rfl) rfl #[.slice A0 l0.length c0] rfl (by (try simp only [List.map_toArray, List.map_cons, List.map_nil]); first | done | rfl | (simp only [List.length_drop, List.length_take]; first | rfl | (rw [Nat.min_eq_left (Int.toNat_le.2 (of_decide_eq_true (by assumption)))]; rfl))) ?_; (with_reducible refine (palletref19_Encode.calls k2 _ _ l0 t411 t412 _ ?side1 ?side2 A28.out).mono ?_); (case side1 => repeat (first | exact (Kd.C_below HR0.out HB.out) | (with_reducible refine Kd.C_alloc ?_ _) | (with_reducible refine Kd.C_drewN ?_ _) | (with_reducible refine Kd.C_drew ?_))); (case side2 => exact HC0.out); rintro e w38 ⟨v413, rfl, ho0, hb⟩; refine ⟨_, rfl, ?_⟩; have n0_ := Aside0.mk (Kd.R_elder' (by (with_reducible repeat (first | apply Kd.R_alloc | apply Kd.R_drewN | apply Kd.R_drew)); first | exact HO410.out | exact Kd.R_mono HO410.out (fun _ _ => trivial)) (Kd.R_base ho0) hb); have n1_ := Aside0.mk (Kd.R_lower (Kd.R_new' ho0 (Kd.R_lt (by (with_reducible repeat (first | apply Kd.R_alloc | apply Kd.R_drewN | apply Kd.R_drew)); first | exact HO410.out | exact Kd.R_mono HO410.out (fun _ _ => trivial)))) (below_size (by repeat (first | (with_reducible first | exact HB.out | apply below_alloc | apply pw_below_drewN | apply below_drew1) | exact HB.out)))); have n2_ := Aside0.mk (below_step (by repeat (first | (with_reducible first | exact HB.out | apply below_alloc | apply pw_below_drewN | apply below_drew1) | exact HB.out)) hb); clear HO410; clear HB; have HO410 := n0_; have HO414 := n1_; have HB := n2_; clear n0_ n1_ n2_; (try clear hb); (try clear hb2); (try clear hk); (try clear hi); (try clear ho0); obtain ⟨Ao39, co39, eo39⟩ := Kd.R_slice HO410.out; subst eo39; obtain ⟨Ao40, co40, eo40⟩ := Kd.R_slice HO414.out; subst eo40) | (go_at_call 15; (with_reducible refine (palletref02_Same.calls _ _ t407 _ _ t411 true _ ?side1 ?side2 ?side3 ?side4 A29.out).mono ?_); (case side1 => repeat (first | exact (Kd.R_reads' HO410.out).2.2 | (with_reducible refine Kd.C_alloc ?_ _) | (with_reducible refine Kd.C_drewN ?_ _) | (with_reducible refine Kd.C_drew ?_))); (case side2 => exact (Kd.R_reads' HO410.out).2.1); (case side3 => repeat (first | exact (Kd.R_reads' HO414.out).2.2 | (with_reducible refine Kd.C_alloc ?_ _) | (with_reducible refine Kd.C_drewN ?_ _) | (with_reducible refine Kd.C_drew ?_))); (case side4 => exact (Kd.R_reads' HO414.out).2.1); rintro e w' ⟨rfl, ⟨nd, rfl⟩⟩) | (go_at_call 11; (with_reducible refine (event_Check.calls k2 _ _ l0 t416 _ ?side1 ?side2 A32.out).mono ?_); (case side1 => repeat (first | exact (Kd.C_below HR0.out (by repeat (first | (with_reducible first | exact HB.out | apply below_alloc | apply pw_below_drewN | apply below_drew1) | exact HB.out))) | (with_reducible refine Kd.C_alloc ?_ _) | (with_reducible refine Kd.C_drewN ?_ _) | (with_reducible refine Kd.C_drew ?_))); (case side2 => exact HC0.out); rintro e w41 ⟨rfl, hb⟩; have n0_ := Aside0.mk (Kd.R_below (by (with_reducible repeat (first | apply Kd.R_alloc | apply Kd.R_drewN | apply Kd.R_drew)); first | exact HO410.out | exact Kd.R_mono HO410.out (fun _ _ => trivial)) hb); have n1_ := Aside0.mk (Kd.R_below (by (with_reducible repeat (first | apply Kd.R_alloc | apply Kd.R_drewN | apply Kd.R_drew)); first | exact HO414.out | exact Kd.R_mono HO414.out (fun _ _ => trivial)) hb); have n2_ := Aside0.mk (below_step (by repeat (first | (with_reducible first | exact HB.out | apply below_alloc | apply pw_below_drewN | apply below_drew1) | exact HB.out)) hb); clear HO410; clear HO414; clear HB; have HO410 := n0_; have HO414 := n1_; have HB := n2_; clear n0_ n1_ n2_; (try clear hb); (try clear hb2); (try clear hk); (try clear hi)) | (go_at_call 18; (with_reducible refine (palletref19_Check.calls k2 _ _ l0 t417 _ ?side1 ?side2 A33.out).mono ?_); (case side1 => repeat (first | exact (Kd.C_below HR0.out HB.out) | (with_reducible refine Kd.C_alloc ?_ _) | (with_reducible refine Kd.C_drewN ?_ _) | (with_reducible refine Kd.C_drew ?_))); (case side2 => exact HC0.out); rintro e w42 ⟨rfl, hb⟩; have n0_ := Aside0.mk (Kd.R_below (by (with_reducible repeat (first | apply Kd.R_alloc | apply Kd.R_drewN | apply Kd.R_drew)); first | exact HO410.out | exact Kd.R_mono HO410.out (fun _ _ => trivial)) hb); have n1_ := Aside0.mk (Kd.R_below (by (with_reducible repeat (first | apply Kd.R_alloc | apply Kd.R_drewN | apply Kd.R_drew)); first | exact HO414.out | exact Kd.R_mono HO414.out (fun _ _ => trivial)) hb); have n2_ := Aside0.mk (below_step (by repeat (first | (with_reducible first | exact HB.out | apply below_alloc | apply pw_below_drewN | apply below_drew1) | exact HB.out)) hb); clear HO410; clear HO414; clear HB; have HO410 := n0_; have HO414 := n1_; have HB := n2_; clear n0_ n1_ n2_; (try clear hb); (try clear hb2); (try clear hk); (try clear hi)) | (go_at_call 19; (with_reducible refine (event_Same.calls k2 _ _ l0 _ _ l1 t418 _ ?side1 ?side2 ?side3 ?side4 A35.out).mono ?_); (case side1 => repeat (first | exact (Kd.C_below HR0.out HB.out) | (with_reducible refine Kd.C_alloc ?_ _) | (with_reducible refine Kd.C_drewN ?_ _) | (with_reducible refine Kd.C_drew ?_))); (case side2 => exact HC0.out); (case side3 => repeat (first | exact (Kd.C_below HR1.out HB.out) | (with_reducible refine Kd.C_alloc ?_ _) | (with_reducible refine Kd.C_drewN ?_ _) | (with_reducible refine Kd.C_drew ?_))); (case side4 => exact HC1.out); rintro e w' ⟨rfl, ⟨nd, rfl⟩⟩) | (go_at_call 20; (with_reducible refine (palletref19_Same.calls k2 _ _ l0 _ _ l1 t419 _ ?side1 ?side2 ?side3 ?side4 A36.out).mono ?_); (case side1 => repeat (first | exact (Kd.C_below HR0.out (by repeat (first | (with_reducible first | exact HB.out | apply below_alloc | apply pw_below_drewN | apply below_drew1) | exact HB.out))) | (with_reducible refine Kd.C_alloc ?_ _) | (with_reducible refine Kd.C_drewN ?_ _) | (with_reducible refine Kd.C_drew ?_))); (case side2 => exact HC0.out); (case side3 => repeat (first | exact (Kd.C_below HR1.out (by repeat (first | (with_reducible first | exact HB.out | apply below_alloc | apply pw_below_drewN | apply below_drew1) | exact HB.out))) | (with_reducible refine Kd.C_alloc ?_ _) | (with_reducible refine Kd.C_drewN ?_ _) | (with_reducible refine Kd.C_drew ?_))); (case side4 => exact HC1.out); rintro e w' ⟨rfl, ⟨nd, rfl⟩⟩))
           go_ret
           exact ⟨by first | rfl | (simp [errW_none, errW_some] <;> rfl) | (simp [*, errW_none, errW_some] <;> rfl), by repeat (first | (with_reducible first | exact HB.out | apply below_alloc | apply pw_below_drewN | apply below_drew1) | exact HB.out)⟩
          ·rw [if_neg c34] at H
           exact absurd H (by simp)
         ·rw [if_neg c31] at H
          exact absurd H (by simp)
        ·replace c30 := Bool.eq_false_iff.mpr c30
         subst c30
         have H1 : (none) = some r := by rw [if_neg (show ¬ (false = true) by decide)] at H; exact H
         clear H
         have H := H1
         clear H1
         exact absurd H (by simp)
 ·replace c4 := Bool.eq_false_iff.mpr c4
  subst c4
  have H1 : (none) = some r := by rw [if_neg (show ¬ (false = true) by decide)] at H; exact H
  clear H
  have H := H1
  clear H1
  exact absurd H (by simp)

end Go.Proofs.YtcbjbgleflbpmaaDoor.Print
