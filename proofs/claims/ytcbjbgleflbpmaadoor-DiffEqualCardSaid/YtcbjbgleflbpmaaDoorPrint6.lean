-- PRINTED by print.py (a twelfth state) out of the translation. Not trusted: Lean checks it.
import Derived.Test.YtcbjbgleflbpmaaDoorPrint0
import Derived.Test.YtcbjbgleflbpmaaDoorPrint5
namespace Go.Proofs.YtcbjbgleflbpmaaDoor.Print
open Go.RowKit Go.Proofs.YtcbjbgleflbpmaaDoorW.PrintWords Go.Proofs.YtcbjbgleflbpmaaDoorW.PrintLast Go.Proofs.YtcbjbgleflbpmaaDoorW.PrintMore Go.Proofs.YtcbjbgleflbpmaaDoorX
attribute [local go_sem] str_lss str_geq max2_int min2_int max_two min_two max_three min_three max_four min_four   -- for this text's walks alone
set_option linter.unusedVariables false
set_option linter.unusedSimpArgs false

/-! ### event_Check: function 11 -/
mutual
def event_Check.j0 : Nat → List (S30) → Bool → Option (Int)
 | 0, _, _ => none
 | k + 1, x0, x10 => if x10 = true then (some 1) else (event_Check.l0 k x0 1)
def event_Check.l0 : Nat → List (S30) → Int → Option (Int)
 | 0, _, _ => none
 | k + 1, x0, x3 => if x3 < (x0.length : Int) then (if 0 ≤ x3 then (if 0 ≤ (wrap64 (x3 - 1)) then (if (wrap64 (x3 - 1)) < (x0.length : Int) then (if ((rd_T30 x0 x3).f0) < ((rd_T30 x0 (wrap64 (x3 - 1))).f0) then (some 1) else (event_Check.l0 k x0 (wrap64 (x3 + 1)))) else (none)) else (none)) else (none)) else (some 0)
end
def event_Check.f (k : Nat) (l0 : List (S30)) : Option (Int) := if (l0.length : Int) > 20000 then (event_Check.j0 k l0 true) else ((slices_ContainsFunc_api_Event_api_Event_at_event_off.f k l0).bind fun t113 => (event_Check.j0 k l0 t113))
theorem event_Check.mono_l : ∀ k, (∀ y0 y1, LeO (event_Check.j0 k y0 y1) (event_Check.j0 (k + 1) y0 y1)) ∧ (∀ y0 y1, LeO (event_Check.l0 k y0 y1) (event_Check.l0 (k + 1) y0 y1))
 | 0 => ⟨fun _ _ r h => by simp [event_Check.j0] at h, fun _ _ r h => by simp [event_Check.l0] at h⟩
 | k + 1 => by
  obtain ⟨ih0, ih1⟩ := event_Check.mono_l k
  refine ⟨?_, ?_⟩
  ·intro y0 y1
   unfold event_Check.j0
   repeat' first
   | (with_reducible exact ih0 _ _)
   | (with_reducible exact ih1 _ _)
   | (with_reducible exact slices_ContainsFunc_api_Event_api_Event_at_event_off.mono _ _)
   | (with_reducible exact LeO.refl _)
   | (with_reducible exact LeO.none _)
   | (with_reducible refine LeO.ite ?_ ?_)
   | (with_reducible refine LeO.bind ?_ (fun _ => ?_))
   | exact ih0 _ _
   | exact ih1 _ _
   | exact slices_ContainsFunc_api_Event_api_Event_at_event_off.mono _ _
   | exact LeO.none _
   | refine LeO.ite ?_ ?_
   | refine LeO.bind ?_ (fun _ => ?_)
  ·intro y0 y1
   unfold event_Check.l0
   repeat' first
   | (with_reducible exact ih0 _ _)
   | (with_reducible exact ih1 _ _)
   | (with_reducible exact slices_ContainsFunc_api_Event_api_Event_at_event_off.mono _ _)
   | (with_reducible exact LeO.refl _)
   | (with_reducible exact LeO.none _)
   | (with_reducible refine LeO.ite ?_ ?_)
   | (with_reducible refine LeO.bind ?_ (fun _ => ?_))
   | exact ih0 _ _
   | exact ih1 _ _
   | exact slices_ContainsFunc_api_Event_api_Event_at_event_off.mono _ _
   | exact LeO.none _
   | refine LeO.ite ?_ ?_
   | refine LeO.bind ?_ (fun _ => ?_)
theorem event_Check.mono : ∀ a0 k, LeO (event_Check.f k a0) (event_Check.f (k + 1) a0) := by
 intro a0 k
 obtain ⟨ih0, ih1⟩ := event_Check.mono_l k
 unfold event_Check.f
 repeat' first
   | (with_reducible exact ih0 _ _)
   | (with_reducible exact ih1 _ _)
   | (with_reducible exact slices_ContainsFunc_api_Event_api_Event_at_event_off.mono _ _)
   | (with_reducible exact LeO.refl _)
   | (with_reducible exact LeO.none _)
   | (with_reducible refine LeO.ite ?_ ?_)
   | (with_reducible refine LeO.bind ?_ (fun _ => ?_))
   | exact ih0 _ _
   | exact ih1 _ _
   | exact slices_ContainsFunc_api_Event_api_Event_at_event_off.mono _ _
   | exact LeO.none _
   | refine LeO.ite ?_ ?_
   | refine LeO.bind ?_ (fun _ => ?_)
set_option maxHeartbeats 8000000 in
set_option maxRecDepth 100000 in
theorem event_Check.calls (k : Nat) (A0 : Option Addr) (c0 : Nat) (l0 : List (S30)) (r : Int) (w : World) (hr0 : Kd.C k30 w A0 l0.length l0) (hc0 : l0.length ≤ c0) (h : event_Check.f k l0 = some r) :
  Calls Tryd.prog 11 #[.slice A0 l0.length c0] w fun e w' => e = .returned (.int .i64 r) ∧ Below w.heap.size w w' := by
 have HR0 := Aside0.mk hr0
 have HC0 := Aside0.mk hc0
 clear hr0 hc0
 have HB := Aside0.mk (Below.refl w.heap.size w)
 have H : (if (l0.length : Int) > 20000 then (event_Check.j0 k l0 true) else ((slices_ContainsFunc_api_Event_api_Event_at_event_off.f k l0).bind fun t113 => (event_Check.j0 k l0 t113))) = some r := h
 clear h
 have HC2 := Aside0.mk H
 clear H
 go_enter Tryd.func11, Tryd.ntmps11
 go_upto_region 1 with (fail)
 repeat (go_quiet (fail); go_upto_region 1 with (fail))
 go_cut [10] (fun v10 wc => ∃ (kq : Nat) (x10_1 : Bool), v10 = .bool x10_1 ∧ Aside0 (event_Check.j0 kq l0 x10_1 = some r) ∧ Aside0 (kq ≤ k) ∧ Aside0 (Below w.heap.size w wc))
 case first =>
  have H := HC2.out
  clear HC2
  by_cases c3 : (l0.length : Int) > 20000
  ·rw [if_pos c3] at H
   have c3b0 : decide (20000 < (l0.length : Int)) = true := decide_eq_true c3
   have c3b1 : decide (20000 < l0.length) = true := decide_eq_true (by omega)
   clear c3
   (first | rw [c3b0] | (simp only [i64_w, i32_w]; rw [c3b0]) | skip)
   have H' := Aside0.mk H
   clear H
   go_wp2
   repeat (go_quiet (fail); try go_wp2)
   go_meet
   case rel => exact ⟨_, (true), (by first | rfl | (simp; done) | (simp [*]; done)), H', ⟨by first | omega | exact Nat.le_refl _⟩, ⟨by repeat (first | (with_reducible first | exact HB.out | apply below_alloc | apply pw_below_drewN | apply below_drew1) | exact HB.out)⟩⟩
  ·rw [if_neg c3] at H
   have c3b0 : decide (20000 < (l0.length : Int)) = false := decide_eq_false c3
   have c3b1 : decide (20000 < l0.length) = false := decide_eq_false (by omega)
   clear c3
   (first | rw [c3b0] | (simp only [i64_w, i32_w]; rw [c3b0]) | skip)
   replace H := Option.bind_eq_some_iff.mp H
   obtain ⟨t113, A40, H⟩ := H
   replace H : (event_Check.j0 k l0 t113) = some r := H
   have A4 := Aside0.mk A40
   clear A40
   have H' := Aside0.mk H
   clear H
   go_wp2_with (first | (go_at_call 30; (with_reducible refine (slices_ContainsFunc_api_Event_api_Event_at_event_off.calls k _ _ l0  t113 _ ?side1 ?side2 A4.out).mono ?_); (case side1 => repeat (first | exact (Kd.C_below HR0.out HB.out) | (with_reducible refine Kd.C_alloc ?_ _) | (with_reducible refine Kd.C_drewN ?_ _) | (with_reducible refine Kd.C_drew ?_))); (case side2 => exact HC0.out); rintro e w5 ⟨rfl, hb⟩; have n0_ := Aside0.mk (below_step (by repeat (first | (with_reducible first | exact HB.out | apply below_alloc | apply pw_below_drewN | apply below_drew1) | exact HB.out)) hb); clear HB; have HB := n0_; clear n0_; (try clear hb); (try clear hb2); (try clear hk); (try clear hi)))
   repeat (go_quiet (first | (go_at_call 30; (with_reducible refine (slices_ContainsFunc_api_Event_api_Event_at_event_off.calls k _ _ l0  t113 _ ?side1 ?side2 A4.out).mono ?_); (case side1 => repeat (first | exact (Kd.C_below HR0.out HB.out) | (with_reducible refine Kd.C_alloc ?_ _) | (with_reducible refine Kd.C_drewN ?_ _) | (with_reducible refine Kd.C_drew ?_))); (case side2 => exact HC0.out); rintro e w5 ⟨rfl, hb⟩; have n0_ := Aside0.mk (below_step (by repeat (first | (with_reducible first | exact HB.out | apply below_alloc | apply pw_below_drewN | apply below_drew1) | exact HB.out)) hb); clear HB; have HB := n0_; clear n0_; (try clear hb); (try clear hb2); (try clear hk); (try clear hi))); try go_wp2_with (first | (go_at_call 30; (with_reducible refine (slices_ContainsFunc_api_Event_api_Event_at_event_off.calls k _ _ l0  t113 _ ?side1 ?side2 A4.out).mono ?_); (case side1 => repeat (first | exact (Kd.C_below HR0.out HB.out) | (with_reducible refine Kd.C_alloc ?_ _) | (with_reducible refine Kd.C_drewN ?_ _) | (with_reducible refine Kd.C_drew ?_))); (case side2 => exact HC0.out); rintro e w5 ⟨rfl, hb⟩; have n0_ := Aside0.mk (below_step (by repeat (first | (with_reducible first | exact HB.out | apply below_alloc | apply pw_below_drewN | apply below_drew1) | exact HB.out)) hb); clear HB; have HB := n0_; clear n0_; (try clear hb); (try clear hb2); (try clear hk); (try clear hi))))
   go_meet
   case rel => exact ⟨_, (t113), (by first | rfl | (simp; done) | (simp [*]; done)), H', ⟨by first | omega | exact Nat.le_refl _⟩, ⟨by repeat (first | (with_reducible first | exact HB.out | apply below_alloc | apply pw_below_drewN | apply below_drew1) | exact HB.out)⟩⟩
 case rest =>
  clear HC2
  try clear c1
  try clear p2
  try clear c3
  try clear c3b0
  try clear c3b1
  obtain ⟨kq, x10_1, rfl, HA, HJ1, HB⟩ := hcut
  cases kq with
  | zero => exact absurd HA.out (by simp [event_Check.j0])
  | succ kj1 =>
   have H := HA.out
   clear HA
   simp only [event_Check.j0] at H
   by_cases c6 : x10_1 = true
   ·subst c6
    have H1 : (some 1) = some r := by rw [if_pos rfl] at H; exact H
    clear H
    have H := H1
    clear H1
    obtain rfl := Option.some.inj H
    go_wp2
    repeat (go_quiet (fail); try go_wp2)
    go_ret
    exact ⟨by first | rfl | (simp [errW_none, errW_some] <;> rfl) | (simp [*, errW_none, errW_some] <;> rfl), by repeat (first | (with_reducible first | exact HB.out | apply below_alloc | apply pw_below_drewN | apply below_drew1) | exact HB.out)⟩
   ·replace c6 := Bool.eq_false_iff.mpr c6
    subst c6
    have H1 : (event_Check.l0 kj1 l0 1) = some r := by rw [if_neg (show ¬ (false = true) by decide)] at H; exact H
    clear H
    have H := H1
    clear H1
    have H' := Aside0.mk H
    clear H
    go_wp2
    repeat (go_quiet (fail); try go_wp2)
    go_loopg [3] kj1 (fun kq v3 w' => ∃ (x3_2 : Int), v3 = .int .i64 x3_2 ∧ Aside0 (event_Check.l0 kq l0 x3_2 = some r) ∧ Aside0 (kq ≤ kj1) ∧ Aside0 (Below w.heap.size w w'))
    case atStart => exact ⟨(1), (by first | rfl | (simp; done) | (simp [*]; done)), H', ⟨Nat.le_refl _⟩, ⟨by repeat (first | (with_reducible first | exact HB.out | apply below_alloc | apply pw_below_drewN | apply below_drew1) | exact HB.out)⟩⟩
    case round =>
     clear H'
     try clear c1
     try clear p2
     try clear c3
     try clear c3b0
     try clear c3b1
     try clear c6
     try clear p2
     obtain ⟨x3_2, rfl, HA, HK2, HB⟩ := hrel
     cases gk with
     | zero => exact absurd HA.out (by simp [event_Check.l0])
     | succ k2 =>
      have H := HA.out
      clear HA
      simp only [event_Check.l0] at H
      by_cases c7 : x3_2 < (l0.length : Int)
      ·rw [if_pos c7] at H
       have c7b0 : decide (x3_2 < (l0.length : Int)) = true := decide_eq_true c7
       clear c7
       by_cases c8 : 0 ≤ x3_2
       ·rw [if_pos c8] at H
        have c8b0 : decide (0 ≤ x3_2) = true := decide_eq_true c8
        clear c8
        obtain ⟨ji9, hji9⟩ : ∃ j_ : Int, (wrap64 (x3_2 - 1)) = j_ := ⟨_, rfl⟩
        replace H : (if 0 ≤ (ji9) then (if (ji9) < (l0.length : Int) then (if ((rd_T30 l0 x3_2).f0) < ((rd_T30 l0 (ji9)).f0) then (some 1) else (event_Check.l0 k2 l0 (wrap64 (x3_2 + 1)))) else (none)) else (none)) = some r := by first | (rw [hji9] at H; exact H) | (simp only [hji9] at H ⊢; exact H)
        have hji9w : (IntKind.i64.wrap (x3_2 - 1)) = ji9 := (i64_w _).trans hji9
        by_cases c10 : 0 ≤ (ji9)
        ·rw [if_pos c10] at H
         have c10b0 : decide (0 ≤ (ji9)) = true := decide_eq_true c10
         clear c10
         by_cases c11 : (ji9) < (l0.length : Int)
         ·rw [if_pos c11] at H
          have c11b0 : decide ((ji9) < (l0.length : Int)) = true := decide_eq_true c11
          clear c11
          by_cases c12 : ((rd_T30 l0 x3_2).f0) < ((rd_T30 l0 (ji9)).f0)
          ·rw [if_pos c12] at H
           have c12b0 : decide (((rd_T30 l0 x3_2).f0) < ((rd_T30 l0 (ji9)).f0)) = true := decide_eq_true c12
           clear c12
           obtain rfl := Option.some.inj H
           have p114 : 0 ≤ (x3_2 : Int) := of_decide_eq_true (by first | (with_reducible assumption) | assumption)
           have q114 : x3_2 < (l0.length : Int) := of_decide_eq_true (by first | (with_reducible assumption) | assumption)
           obtain ⟨ad114, e114, hx114_0, hx114_1, hx114_2, hx114_3, hx114_4⟩ := at_T30 HR0.out x3_2 p114 q114
           cases e114
           replace hx114_0 := (HB.out.cell (World.block_lt_of_cell? w _ hx114_0)).trans hx114_0
           replace hx114_1 := (HB.out.cell (World.block_lt_of_cell? w _ hx114_1)).trans hx114_1
           replace hx114_2 := (HB.out.cell (World.block_lt_of_cell? w _ hx114_2)).trans hx114_2
           replace hx114_3 := (HB.out.cell (World.block_lt_of_cell? w _ hx114_3)).trans hx114_3
           replace hx114_4 := (HB.out.cell (World.block_lt_of_cell? w _ hx114_4)).trans hx114_4
           replace p114 := eq_true p114
           replace q114 := eq_true q114
           have p115 : 0 ≤ ((ji9) : Int) := of_decide_eq_true (by first | (with_reducible assumption) | assumption)
           have q115 : (ji9) < (l0.length : Int) := of_decide_eq_true (by first | (with_reducible assumption) | assumption)
           obtain ⟨ad115, e115, hx115_0, hx115_1, hx115_2, hx115_3, hx115_4⟩ := at_T30 HR0.out (ji9) p115 q115
           obtain rfl : ad114 = ad115 := (by injection e115)
           replace hx115_0 := (HB.out.cell (World.block_lt_of_cell? w _ hx115_0)).trans hx115_0
           replace hx115_1 := (HB.out.cell (World.block_lt_of_cell? w _ hx115_1)).trans hx115_1
           replace hx115_2 := (HB.out.cell (World.block_lt_of_cell? w _ hx115_2)).trans hx115_2
           replace hx115_3 := (HB.out.cell (World.block_lt_of_cell? w _ hx115_3)).trans hx115_3
           replace hx115_4 := (HB.out.cell (World.block_lt_of_cell? w _ hx115_4)).trans hx115_4
           replace p115 := eq_true p115
           replace q115 := eq_true q115
           go_wp2
           repeat (go_quiet (fail); try go_wp2)
           go_ret
           exact ⟨by first | rfl | (simp [errW_none, errW_some] <;> rfl) | (simp only [← hji9]; first | rfl | (simp [errW_none, errW_some] <;> rfl)) | (simp [*, errW_none, errW_some] <;> rfl), by repeat (first | (with_reducible first | exact HB.out | apply below_alloc | apply pw_below_drewN | apply below_drew1) | exact HB.out)⟩
          ·rw [if_neg c12] at H
           have c12b0 : decide (((rd_T30 l0 x3_2).f0) < ((rd_T30 l0 (ji9)).f0)) = false := decide_eq_false c12
           clear c12
           have H' := Aside0.mk H
           clear H
           have p114 : 0 ≤ (x3_2 : Int) := of_decide_eq_true (by first | (with_reducible assumption) | assumption)
           have q114 : x3_2 < (l0.length : Int) := of_decide_eq_true (by first | (with_reducible assumption) | assumption)
           obtain ⟨ad114, e114, hx114_0, hx114_1, hx114_2, hx114_3, hx114_4⟩ := at_T30 HR0.out x3_2 p114 q114
           cases e114
           replace hx114_0 := (HB.out.cell (World.block_lt_of_cell? w _ hx114_0)).trans hx114_0
           replace hx114_1 := (HB.out.cell (World.block_lt_of_cell? w _ hx114_1)).trans hx114_1
           replace hx114_2 := (HB.out.cell (World.block_lt_of_cell? w _ hx114_2)).trans hx114_2
           replace hx114_3 := (HB.out.cell (World.block_lt_of_cell? w _ hx114_3)).trans hx114_3
           replace hx114_4 := (HB.out.cell (World.block_lt_of_cell? w _ hx114_4)).trans hx114_4
           replace p114 := eq_true p114
           replace q114 := eq_true q114
           have p115 : 0 ≤ ((ji9) : Int) := of_decide_eq_true (by first | (with_reducible assumption) | assumption)
           have q115 : (ji9) < (l0.length : Int) := of_decide_eq_true (by first | (with_reducible assumption) | assumption)
           obtain ⟨ad115, e115, hx115_0, hx115_1, hx115_2, hx115_3, hx115_4⟩ := at_T30 HR0.out (ji9) p115 q115
           obtain rfl : ad114 = ad115 := (by injection e115)
           replace hx115_0 := (HB.out.cell (World.block_lt_of_cell? w _ hx115_0)).trans hx115_0
           replace hx115_1 := (HB.out.cell (World.block_lt_of_cell? w _ hx115_1)).trans hx115_1
           replace hx115_2 := (HB.out.cell (World.block_lt_of_cell? w _ hx115_2)).trans hx115_2
           replace hx115_3 := (HB.out.cell (World.block_lt_of_cell? w _ hx115_3)).trans hx115_3
           replace hx115_4 := (HB.out.cell (World.block_lt_of_cell? w _ hx115_4)).trans hx115_4
           replace p115 := eq_true p115
           replace q115 := eq_true q115
           go_wp2
           repeat (go_quiet (fail); try go_wp2)
           go_roundg k2
           case measure => have := HJ1.out; have := HK2.out; omega
           case rel => exact ⟨(wrap64 (x3_2 + 1)), (by first | rfl | (simp; done) | (simp [*]; done)), H', ⟨by have := HJ1.out; have := HK2.out; omega⟩, ⟨by repeat (first | (with_reducible first | exact HB.out | apply below_alloc | apply pw_below_drewN | apply below_drew1) | exact HB.out)⟩⟩
         ·rw [if_neg c11] at H
          exact absurd H (by simp)
        ·rw [if_neg c10] at H
         exact absurd H (by simp)
       ·rw [if_neg c8] at H
        exact absurd H (by simp)
      ·rw [if_neg c7] at H
       have c7b0 : decide (x3_2 < (l0.length : Int)) = false := decide_eq_false c7
       clear c7
       obtain rfl := Option.some.inj H
       go_wp2
       repeat (go_quiet (fail); try go_wp2)
       go_ret
       exact ⟨by first | rfl | (simp [errW_none, errW_some] <;> rfl) | (simp [*, errW_none, errW_some] <;> rfl), by repeat (first | (with_reducible first | exact HB.out | apply below_alloc | apply pw_below_drewN | apply below_drew1) | exact HB.out)⟩

/-! ### slices_Clone_byte_byte: function 56 -/
/-- A copy. -/
def slices_Clone_byte_byte.f (l0 : List Int) : Option (List Int) := if l0.length < 17592186044416 then some l0 else none
set_option maxHeartbeats 8000000 in
set_option maxRecDepth 100000 in
theorem slices_Clone_byte_byte.calls (A0 : Option Addr) (c0 : Nat) (l0 : List Int) (r : List Int) (w : World) (hr0 : Kd.C (Kd.int .u8) w A0 l0.length l0) (hc0 : l0.length ≤ c0) (h : slices_Clone_byte_byte.f l0 = some r) :
  Calls Tryd.prog 56 #[.slice A0 l0.length c0] w fun e w' => ∃ v0_ : Value, e = .returned (v0_) ∧ Kd.R (Kd.int .u8) 5 w' w.heap.size (fun _ => True) v0_ r ∧ Below w.heap.size w w' := by
 have HB := Aside0.mk (Below.refl w.heap.size w)
 unfold slices_Clone_byte_byte.f at h
 by_cases hl : l0.length < 17592186044416
 case neg =>
  rw [if_neg hl] at h
  exact absurd h (by simp)
 rw [if_pos hl] at h
 obtain rfl := Option.some.inj h
 cases A0 with
 | none =>
  have he : ∀ w : World, (Go.binOp .eql 26 (.slice none l0.length c0) (.slice none 0 0)).run Tryd.prog w = .ok (.bool true) w := fun _ => by kernel_rfl
  go_enter Tryd.func56, Tryd.ntmps56
  go_wp2
  go_ret
  have e0 : l0 = [] := by
   by_cases hz : 0 < l0.length
   ·obtain ⟨ad, c, e, _⟩ := Kd.C_get hr0 (0 : Int) 0 (by decide) (by omega)
    cases e
   ·exact List.eq_nil_of_length_eq_zero (by omega)
  subst e0
  exact ⟨_, rfl, Kd.R_nil _ _ _ _ _, HB.out⟩
 | some ad =>
  have he : ∀ w : World, (Go.binOp .eql 26 (.slice (some ad) l0.length c0) (.slice none 0 0)).run Tryd.prog w = .ok (.bool false) w := fun _ => by kernel_rfl
  go_enter Tryd.func56, Tryd.ntmps56
  go_wp2_with (first | ((with_reducible refine gate_dst (N := 5) rfl ?_); refine Kd.R_lit (Kd.int .u8) _ 5 ?hg (N := 5) ?hd (xs := ([] : List Int)) (inner := []) (ok := fun _ => True) (okp := fun _ => True) ?hr ?hp (fun _ hk => hk) trivial (Below.refl _ _) (Nat.le_refl _) (by simp) ?_; (case hd => rfl); (case hg => rfl); (case hr => first | (go_simp; done) | (go_simp; rfl)); (case hp => exact Reps.none _ _); intro v1 w1 ho hb hg_ hnew_; clear hg_ hnew_; have n0_ := Aside0.mk (Kd.R_lower ho (below_size HB.out)); have n1_ := Aside0.mk (below_step HB.out hb); clear HB; have HO := n0_; have HB := n1_; clear n0_ n1_; clear hb ho) | ((with_reducible refine gate_builtin (b := .append) (xs := #[.tmp 5, .tmp 6]) rfl ?_); at_builtin; refine Kd.R_append_rows (Kd.int .u8) (w0 := w) w.heap.size rfl (.tmp 5) (.tmp 6) 26 5 (.int .u8 0) 1 rfl Tryd.underlying26 info5 rfl (by decide) (by omega) v1 ([] : List Int) l0 _ _ _ (fun _ => True) (fun _ => False) rfl rfl ?aO ?aR (fun _ _ h => h) (fun _ h => h.elim) ?aF ?aB ?aS ?aL ?_; (case aR => exact Kd.C_below hr0 HB.out); (case aB => exact HB.out); (case aF => exact (fun _ _ => trivial)); (case aO => exact HO.out); (case aS => exact below_size HB.out); (case aL => simp; omega); intro v2 w2 ho hb hg hat; have n0_ := Aside0.mk hb; have n1_ := Aside0.mk ho; clear HB; have HB := n0_; have HO2 := n1_; clear n0_ n1_; clear ho hb hg hat))
  go_ret
  exact ⟨_, rfl, HO2.out, HB.out⟩

-- NOT PRINTED: function 51 (crc_seal)

/-! ### crc_build: function 80 -/
/-- The two tables' entries. -/
def crc_it (f : Int → Int) : Nat → Int → Int
 | 0, c => c
 | n + 1, c => f (crc_it f n c)
/-- A table of which so many entries are written. -/
def crc_cells (e : Nat → Int) (k : Nat) : Array Value := ((List.range 256).map fun i => Value.int .u32 (if i < k then e i else 0)).toArray
theorem crc_cells_size (e : Nat → Int) (k : Nat) : (crc_cells e k).size = 256 := by simp [crc_cells]
theorem crc_cells_get (e : Nat → Int) (k i : Nat) (h : i < 256) : (crc_cells e k)[i]? = some (Value.int .u32 (if i < k then e i else 0)) := by
 unfold crc_cells
 rw [List.getElem?_toArray, List.getElem?_map, List.getElem?_range h]
 rfl
theorem crc_cells_zero (e e' : Nat → Int) : crc_cells e 0 = crc_cells e' 0 := by
 unfold crc_cells
 simp
theorem crc_cells_set (e : Nat → Int) (k : Nat) (h : k < 256) : (crc_cells e k).setIfInBounds k (.int .u32 (e k)) = crc_cells e (k + 1) := by
 apply Array.ext_getElem?
 intro i
 rw [Array.getElem?_setIfInBounds]
 by_cases hi : i < 256
 ·rw [crc_cells_get e (k + 1) i hi]
  by_cases c : k = i
  ·subst c
   rw [if_pos rfl, if_pos (by rw [crc_cells_size]; exact hi), if_pos (by omega)]
  ·rw [if_neg c, crc_cells_get e k i hi]
   congr 2
   by_cases c2 : i < k
   ·rw [if_pos c2, if_pos (by omega)]
   ·rw [if_neg c2, if_neg (by omega)]
 ·rw [if_neg (by omega), Array.getElem?_eq_none (by rw [crc_cells_size]; omega), Array.getElem?_eq_none (by rw [crc_cells_size]; omega)]
theorem crc_zero36 : (Tryd.prog.info? 104).map (fun i => (i.zero, i.size)) = some (some (.agg (crc_cells (fun _ => 0) 0)), 256) := by kernel_rfl
def crc_T (e : Nat → Int) : Value := .agg (crc_cells e 256)
theorem crc_put (w : World) (e : Nat → Int) (k n : Nat) (h : k < 256) : ((w.alloc (.cells (crc_cells e k) 104)).drewN n).setCell ⟨w.heap.size, k, none⟩ (.int .u32 (e k)) = (w.alloc (.cells (crc_cells e (k + 1)) 104)).drewN n := by
 show ((w.alloc (.cells (crc_cells e k) 104)).setCell ⟨w.heap.size, k, none⟩ (.int .u32 (e k))).drewN n = _
 rw [World.setCell_alloc_new, crc_cells_set e k h]
theorem crc_one (e : Nat → Int) (k : Nat) : (crc_cells e k).all (·.oneCell') = true := by
 unfold crc_cells
 simp [Value.oneCell']
theorem crc_at (w : World) (c : Array Value) (n : Nat) : ((w.alloc (.cells c 104)).drewN n).heap[w.heap.size]? = some (.cells c 104 (0, 0)) := heap_alloc_last w _
theorem crc_row (w : World) (c : Array Value) (n : Nat) : ((w.alloc (.cells c 104)).drewN n).setRow w.heap.size c = (w.alloc (.cells c 104)).drewN n := by
 show ((w.alloc (.cells c 104)).setRow w.heap.size c).drewN n = _
 rw [World.setRow_alloc_new]
theorem crc_info (e : Nat → Int) (k : Nat) : (Tryd.prog.info? 104).map (·.size) = some (crc_cells e k).size := by
 rw [crc_cells_size]
 exact (zero_of_info crc_zero36).2
theorem crc_setRow_at {w : World} {g : Nat} {c c' : Array Value} {t : TypeId} (h : w.heap[g]? = some (.cells c t (0, 0))) : (w.setRow g c').heap[g]? = some (.cells c' t (0, 0)) := by
 simp [World.setRow, Array.getElem?_modify, h]
theorem crc_setRow_below {w w1 : World} {g : Nat} {c' : Array Value} (h : Below w.heap.size w w1) (hg : w.heap.size ≤ g) : Below w.heap.size w (w1.setRow g c') := by
 refine ⟨h.os, h.tape, h.output, ?_, fun i hi => ?_⟩
 ·simp [World.setRow]
  exact h.size
 ·rw [← h.block i hi]
  simp only [World.setRow, Array.getElem?_modify]
  rw [if_neg (by omega)]
theorem crc_u8 (x y : Int) : 0 ≤ Go.bits .xor .u8 x y ∧ Go.bits .xor .u8 x y < 256 := by
 show 0 ≤ IntKind.u8.wrap _ ∧ IntKind.u8.wrap _ < 256
 simp only [IntKind.wrap, IntKind.bits, IntKind.signed]
 simp
 omega

/-! ### crc_table32_1: function 81 -/
def crc_table32_1.f (a0 : Int) : Option (Int) := some ((a0) % 4294967296)
set_option maxHeartbeats 8000000 in
set_option maxRecDepth 100000 in
theorem crc_table32_1.calls (a0 : Int) (r : Int) (w : World) (h : crc_table32_1.f a0 = some r) :
  Calls Tryd.prog 81 #[.int .i64 a0] w fun e w' => e = .returned (.int .u32 r) ∧ Drawn0 w w' := by
 have H : (some ((a0) % 4294967296)) = some r := h
 clear h
 obtain rfl := Option.some.inj H
 go_enter Tryd.func81, Tryd.ntmps81
 go_wp2
 go_ret
 exact ⟨by first | rfl | (simp; done) | (simp [*]; done), by repeat (first | exact Drawn0.refl _ | apply Drawn0.step)⟩

/-! ### crc_table32_2: function 82 -/
def crc_table32_2.f (a0 : Int) : Option (Int) := some (Go.bits .xor .u32 (a0 / 2) ((3988292384 * (Go.bits .and .u32 a0 1)) % 4294967296))
set_option maxHeartbeats 8000000 in
set_option maxRecDepth 100000 in
theorem crc_table32_2.calls (a0 : Int) (r : Int) (w : World) (h : crc_table32_2.f a0 = some r) :
  Calls Tryd.prog 82 #[.int .u32 a0] w fun e w' => e = .returned (.int .u32 r) ∧ Drawn0 w w' := by
 have H : (some (Go.bits .xor .u32 (a0 / 2) ((3988292384 * (Go.bits .and .u32 a0 1)) % 4294967296))) = some r := h
 clear h
 obtain rfl := Option.some.inj H
 go_enter Tryd.func82, Tryd.ntmps82
 go_wp2
 go_ret
 exact ⟨by first | rfl | (simp; done) | (simp [*]; done), by repeat (first | exact Drawn0.refl _ | apply Drawn0.step)⟩

-- NOT PRINTED: function 77 (crc_table32)

end Go.Proofs.YtcbjbgleflbpmaaDoor.Print
