-- PRINTED by print.py (a twelfth state) out of the translation. Not trusted: Lean checks it.
import Derived.Test.YtcbjbgleflbpmaaDoorPrint0
import Derived.Test.YtcbjbgleflbpmaaDoorPrint6
import Derived.Test.YtcbjbgleflbpmaaDoorPrint11
import Derived.Test.YtcbjbgleflbpmaaDoorPrint12
namespace Go.Proofs.YtcbjbgleflbpmaaDoor.Print
open Go.RowKit Go.Proofs.YtcbjbgleflbpmaaDoorW.PrintWords Go.Proofs.YtcbjbgleflbpmaaDoorW.PrintLast Go.Proofs.YtcbjbgleflbpmaaDoorW.PrintMore Go.Proofs.YtcbjbgleflbpmaaDoorX
attribute [local go_sem] str_lss str_geq max2_int min2_int max_two min_two max_three min_three max_four min_four   -- for this text's walks alone
set_option linter.unusedVariables false
set_option linter.unusedSimpArgs false

/-! ### palletlaw19_EventParts: function 3 -/
mutual
def palletlaw19_EventParts.j0 : Nat → List (S30) → Int → Bool → Bool → Option (Bool)
 | 0, _, _, _, _ => none
 | k + 1, x0, x1, x5, x26 => if x26 = true then (some x5) else (if (wrap64 ((x0.length : Int) + 1)) = 0 then (none) else ((event_Encode.f k x0).bind fun bt230 => (if 0 ≤ (Int.tmod (wrap64 ((wrap64 ((Int.tmod x1 (wrap64 ((x0.length : Int) + 1))) + (x0.length : Int))) + 1)) (wrap64 ((x0.length : Int) + 1))) then (if (Int.tmod (wrap64 ((wrap64 ((Int.tmod x1 (wrap64 ((x0.length : Int) + 1))) + (x0.length : Int))) + 1)) (wrap64 ((x0.length : Int) + 1))) ≤ (x0.length : Int) then ((event_Encode.f k (x0.take ((Int.tmod (wrap64 ((wrap64 ((Int.tmod x1 (wrap64 ((x0.length : Int) + 1))) + (x0.length : Int))) + 1)) (wrap64 ((x0.length : Int) + 1))) : Int).toNat)).bind fun bt238 => (if bt230.2 = 0 then (palletlaw19_EventParts.j1 k x0 (Int.tmod (wrap64 ((wrap64 ((Int.tmod x1 (wrap64 ((x0.length : Int) + 1))) + (x0.length : Int))) + 1)) (wrap64 ((x0.length : Int) + 1))) x5 bt230.1 bt238.1 (bt238.2 != 0)) else (palletlaw19_EventParts.j1 k x0 (Int.tmod (wrap64 ((wrap64 ((Int.tmod x1 (wrap64 ((x0.length : Int) + 1))) + (x0.length : Int))) + 1)) (wrap64 ((x0.length : Int) + 1))) x5 bt230.1 bt238.1 true))) else (none)) else (none))))
def palletlaw19_EventParts.j1 : Nat → List (S30) → Int → Bool → List Int → List Int → Bool → Option (Bool)
 | 0, _, _, _, _, _, _ => none
 | k + 1, x0, x1, x5, x6, x8, x58 => if x58 = true then (none) else (palletlaw19_EventParts.l0 k x0 x1 x5 x6 x8 ([] : List Int) x0 (x0.length : Int) 0)
def palletlaw19_EventParts.l0 : Nat → List (S30) → Int → Bool → List Int → List Int → List Int → List (S30) → Int → Int → Option (Bool)
 | 0, _, _, _, _, _, _, _, _, _ => none
 | k + 1, x0, x1, x5, x6, x8, x10, x59, x60, x61 => if x61 < x60 then (if 0 ≤ x61 then (if x61 < (x59.length : Int) then ((event_Write.f k ((rd_T30 x59 x61).f0) ((rd_T30 x59 x61).f1) ((rd_T30 x59 x61).f2) ((rd_T30 x59 x61).f3) ((rd_T30 x59 x61).f4)).bind fun bt255 => (if bt255.2 = 0 then (if x61 = x1 then ((palletref02_Vary.f k ([] : List Int) (([IntKind.u64.wrap (x1)] : List Int))).bind fun t262 => (if (x8.length : Int) = (wrap64 ((wrap64 (9 + (t262.length : Int))) + (x10.length : Int))) then (if x10.length + bt255.1.length < 140737488355328 then (palletlaw19_EventParts.l0 k x0 x1 x5 x6 x8 (x10 ++ bt255.1) x59 x60 (wrap64 (x61 + 1))) else (none)) else (none))) else (if x10.length + bt255.1.length < 140737488355328 then (palletlaw19_EventParts.l0 k x0 x1 x5 x6 x8 (x10 ++ bt255.1) x59 x60 (wrap64 (x61 + 1))) else (none))) else (none))) else (none)) else (none)) else ((palletref02_Vary.f k ([] : List Int) (([IntKind.u64.wrap ((x0.length : Int))] : List Int))).bind fun t245 => (if x5 = true then (if (x6.length : Int) = (wrap64 ((wrap64 ((wrap64 (5 + (t245.length : Int))) + (x10.length : Int))) + 4)) then (if 0 ≤ (wrap64 (5 + (t245.length : Int))) then (if (wrap64 (5 + (t245.length : Int))) ≤ (wrap64 ((x6.length : Int) - 4)) then (if (wrap64 ((x6.length : Int) - 4)) ≤ (x6.length : Int) then ((palletref02_Same.f ((x6.take ((wrap64 ((x6.length : Int) - 4)) : Int).toNat).drop ((wrap64 (5 + (t245.length : Int))) : Int).toNat) x10).bind fun t252 => (some t252)) else (none)) else (none)) else (none)) else (none)) else (none)))
end
def palletlaw19_EventParts.f (k : Nat) (l0 : List (S30)) (a1 : Int) : Option (Bool) := (palletlaw19_live.f k).bind fun t228 => (if t228 = true then (if (l0.length : Int) > 300 then (palletlaw19_EventParts.j0 k l0 a1 t228 true) else ((event_Check.f k l0).bind fun t229 => (palletlaw19_EventParts.j0 k l0 a1 t228 (t229 != 0)))) else (none))
theorem palletlaw19_EventParts.mono_l : ∀ k, (∀ y0 y1 y2 y3, LeO (palletlaw19_EventParts.j0 k y0 y1 y2 y3) (palletlaw19_EventParts.j0 (k + 1) y0 y1 y2 y3)) ∧ (∀ y0 y1 y2 y3 y4 y5, LeO (palletlaw19_EventParts.j1 k y0 y1 y2 y3 y4 y5) (palletlaw19_EventParts.j1 (k + 1) y0 y1 y2 y3 y4 y5)) ∧ (∀ y0 y1 y2 y3 y4 y5 y6 y7 y8, LeO (palletlaw19_EventParts.l0 k y0 y1 y2 y3 y4 y5 y6 y7 y8) (palletlaw19_EventParts.l0 (k + 1) y0 y1 y2 y3 y4 y5 y6 y7 y8))
 | 0 => ⟨fun _ _ _ _ r h => by simp [palletlaw19_EventParts.j0] at h, fun _ _ _ _ _ _ r h => by simp [palletlaw19_EventParts.j1] at h, fun _ _ _ _ _ _ _ _ _ r h => by simp [palletlaw19_EventParts.l0] at h⟩
 | k + 1 => by
  obtain ⟨ih0, ih1, ih2⟩ := palletlaw19_EventParts.mono_l k
  refine ⟨?_, ?_, ?_⟩
  ·intro y0 y1 y2 y3
   unfold palletlaw19_EventParts.j0
   repeat' first
   | (with_reducible exact ih0 _ _ _ _)
   | (with_reducible exact ih1 _ _ _ _ _ _)
   | (with_reducible exact ih2 _ _ _ _ _ _ _ _ _)
   | (with_reducible exact event_Check.mono _ _)
   | (with_reducible exact event_Encode.mono _ _)
   | (with_reducible exact event_Write.mono _ _ _ _ _ _)
   | (with_reducible exact palletlaw19_live.mono _)
   | (with_reducible exact palletref02_Vary.mono _ _ _)
   | (with_reducible exact LeO.refl _)
   | (with_reducible exact LeO.none _)
   | (with_reducible refine LeO.ite ?_ ?_)
   | (with_reducible refine LeO.bind ?_ (fun _ => ?_))
   | exact ih0 _ _ _ _
   | exact ih1 _ _ _ _ _ _
   | exact ih2 _ _ _ _ _ _ _ _ _
   | exact event_Check.mono _ _
   | exact event_Encode.mono _ _
   | exact event_Write.mono _ _ _ _ _ _
   | exact palletlaw19_live.mono _
   | exact palletref02_Vary.mono _ _ _
   | exact LeO.none _
   | refine LeO.ite ?_ ?_
   | refine LeO.bind ?_ (fun _ => ?_)
  ·intro y0 y1 y2 y3 y4 y5
   unfold palletlaw19_EventParts.j1
   repeat' first
   | (with_reducible exact ih0 _ _ _ _)
   | (with_reducible exact ih1 _ _ _ _ _ _)
   | (with_reducible exact ih2 _ _ _ _ _ _ _ _ _)
   | (with_reducible exact event_Check.mono _ _)
   | (with_reducible exact event_Encode.mono _ _)
   | (with_reducible exact event_Write.mono _ _ _ _ _ _)
   | (with_reducible exact palletlaw19_live.mono _)
   | (with_reducible exact palletref02_Vary.mono _ _ _)
   | (with_reducible exact LeO.refl _)
   | (with_reducible exact LeO.none _)
   | (with_reducible refine LeO.ite ?_ ?_)
   | (with_reducible refine LeO.bind ?_ (fun _ => ?_))
   | exact ih0 _ _ _ _
   | exact ih1 _ _ _ _ _ _
   | exact ih2 _ _ _ _ _ _ _ _ _
   | exact event_Check.mono _ _
   | exact event_Encode.mono _ _
   | exact event_Write.mono _ _ _ _ _ _
   | exact palletlaw19_live.mono _
   | exact palletref02_Vary.mono _ _ _
   | exact LeO.none _
   | refine LeO.ite ?_ ?_
   | refine LeO.bind ?_ (fun _ => ?_)
  ·intro y0 y1 y2 y3 y4 y5 y6 y7 y8
   unfold palletlaw19_EventParts.l0
   repeat' first
   | (with_reducible exact ih0 _ _ _ _)
   | (with_reducible exact ih1 _ _ _ _ _ _)
   | (with_reducible exact ih2 _ _ _ _ _ _ _ _ _)
   | (with_reducible exact event_Check.mono _ _)
   | (with_reducible exact event_Encode.mono _ _)
   | (with_reducible exact event_Write.mono _ _ _ _ _ _)
   | (with_reducible exact palletlaw19_live.mono _)
   | (with_reducible exact palletref02_Vary.mono _ _ _)
   | (with_reducible exact LeO.refl _)
   | (with_reducible exact LeO.none _)
   | (with_reducible refine LeO.ite ?_ ?_)
   | (with_reducible refine LeO.bind ?_ (fun _ => ?_))
   | exact ih0 _ _ _ _
   | exact ih1 _ _ _ _ _ _
   | exact ih2 _ _ _ _ _ _ _ _ _
   | exact event_Check.mono _ _
   | exact event_Encode.mono _ _
   | exact event_Write.mono _ _ _ _ _ _
   | exact palletlaw19_live.mono _
   | exact palletref02_Vary.mono _ _ _
   | exact LeO.none _
   | refine LeO.ite ?_ ?_
   | refine LeO.bind ?_ (fun _ => ?_)
theorem palletlaw19_EventParts.mono : ∀ a0 a1 k, LeO (palletlaw19_EventParts.f k a0 a1) (palletlaw19_EventParts.f (k + 1) a0 a1) := by
 intro a0 a1 k
 obtain ⟨ih0, ih1, ih2⟩ := palletlaw19_EventParts.mono_l k
 unfold palletlaw19_EventParts.f
 repeat' first
   | (with_reducible exact ih0 _ _ _ _)
   | (with_reducible exact ih1 _ _ _ _ _ _)
   | (with_reducible exact ih2 _ _ _ _ _ _ _ _ _)
   | (with_reducible exact event_Check.mono _ _)
   | (with_reducible exact event_Encode.mono _ _)
   | (with_reducible exact event_Write.mono _ _ _ _ _ _)
   | (with_reducible exact palletlaw19_live.mono _)
   | (with_reducible exact palletref02_Vary.mono _ _ _)
   | (with_reducible exact LeO.refl _)
   | (with_reducible exact LeO.none _)
   | (with_reducible refine LeO.ite ?_ ?_)
   | (with_reducible refine LeO.bind ?_ (fun _ => ?_))
   | exact ih0 _ _ _ _
   | exact ih1 _ _ _ _ _ _
   | exact ih2 _ _ _ _ _ _ _ _ _
   | exact event_Check.mono _ _
   | exact event_Encode.mono _ _
   | exact event_Write.mono _ _ _ _ _ _
   | exact palletlaw19_live.mono _
   | exact palletref02_Vary.mono _ _ _
   | exact LeO.none _
   | refine LeO.ite ?_ ?_
   | refine LeO.bind ?_ (fun _ => ?_)
set_option maxHeartbeats 8000000 in
set_option maxRecDepth 100000 in
theorem palletlaw19_EventParts.calls (k : Nat) (A0 : Option Addr) (c0 : Nat) (l0 : List (S30)) (a1 : Int) (r : Bool) (w : World) (hr0 : Kd.C k30 w A0 l0.length l0) (hc0 : l0.length ≤ c0) (hr_ : Aside0 (r = true)) (h : palletlaw19_EventParts.f k l0 a1 = some r) :
  Calls Tryd.prog 3 #[.slice A0 l0.length c0, .int .i64 a1] w fun e w' => e = .returned (.bool r) ∧ Below w.heap.size w w' := by
 have hu30 := Tryd.underlying30
 have HR0 := Aside0.mk hr0
 have HC0 := Aside0.mk hc0
 clear hr0 hc0
 have HB := Aside0.mk (Below.refl w.heap.size w)
 have H : ((palletlaw19_live.f k).bind fun t228 => (if t228 = true then (if (l0.length : Int) > 300 then (palletlaw19_EventParts.j0 k l0 a1 t228 true) else ((event_Check.f k l0).bind fun t229 => (palletlaw19_EventParts.j0 k l0 a1 t228 (t229 != 0)))) else (none))) = some r := h
 clear h
 replace H := Option.bind_eq_some_iff.mp H
 obtain ⟨t228, A30, H⟩ := H
 replace H : (if t228 = true then (if (l0.length : Int) > 300 then (palletlaw19_EventParts.j0 k l0 a1 t228 true) else ((event_Check.f k l0).bind fun t229 => (palletlaw19_EventParts.j0 k l0 a1 t228 (t229 != 0)))) else (none)) = some r := H
 have A3 := Aside0.mk A30
 clear A30
 by_cases c4 : t228 = true
 ·subst c4
  have H1 : (if (l0.length : Int) > 300 then (palletlaw19_EventParts.j0 k l0 a1 true true) else ((event_Check.f k l0).bind fun t229 => (palletlaw19_EventParts.j0 k l0 a1 true (t229 != 0)))) = some r := by rw [if_pos rfl] at H; exact H
  clear H
  have H := H1
  clear H1
  have HC5 := Aside0.mk H
  clear H
  go_enter Tryd.func3, Tryd.ntmps3
  go_upto_region 4 with (first | ((with_reducible refine gate_callee (f := 10) rfl ?_); refine goesL_ (some 16) rfl rfl Tryd.func10 (by kernel_rfl) rfl #[] rfl (by (try simp only [List.map_toArray, List.map_cons, List.map_nil]); first | done | rfl | (simp only [List.length_drop, List.length_take]; first | rfl | (rw [Nat.min_eq_left (Int.toNat_le.2 (of_decide_eq_true (by assumption)))]; rfl))) ?_; (with_reducible refine (palletlaw19_live.calls k  true _ A3.out).mono ?_); rintro e w6 ⟨rfl, hb⟩; refine ⟨_, rfl, ?_⟩; have n0_ := Aside0.mk (below_step (by repeat (first | (with_reducible first | exact HB.out | apply below_alloc | apply pw_below_drewN | apply below_drew1) | exact HB.out)) hb); clear HB; have HB := n0_; clear n0_; (try clear hb); (try clear hb2); (try clear hk); (try clear hi)))
  (try simp only [Act.put, List.setIfInBounds_toArray, List.set_cons_zero, List.set_cons_succ])
  go_cut [26] (fun v26 wc => ∃ (kq : Nat) (x26_4 : Bool), v26 = .bool x26_4 ∧ Aside0 (palletlaw19_EventParts.j0 kq l0 a1 true x26_4 = some r) ∧ Aside0 (kq ≤ k) ∧ Aside0 (Below w.heap.size w wc))
  case first =>
   have H := HC5.out
   clear HC5
   by_cases c7 : (l0.length : Int) > 300
   ·rw [if_pos c7] at H
    have c7b0 : decide (300 < (l0.length : Int)) = true := decide_eq_true c7
    have c7b1 : decide (300 < l0.length) = true := decide_eq_true (by omega)
    clear c7
    (first | rw [c7b0] | (simp only [i64_w, i32_w]; rw [c7b0]) | skip)
    have H' := Aside0.mk H
    clear H
    go_wp2
    go_meet
    case rel => exact ⟨_, (true), (by first | rfl | (simp; done) | (simp [*]; done)), H', ⟨by first | omega | exact Nat.le_refl _⟩, ⟨by repeat (first | (with_reducible first | exact HB.out | apply below_alloc | apply pw_below_drewN | apply below_drew1) | exact HB.out)⟩⟩
   ·rw [if_neg c7] at H
    have c7b0 : decide (300 < (l0.length : Int)) = false := decide_eq_false c7
    have c7b1 : decide (300 < l0.length) = false := decide_eq_false (by omega)
    clear c7
    (first | rw [c7b0] | (simp only [i64_w, i32_w]; rw [c7b0]) | skip)
    replace H := Option.bind_eq_some_iff.mp H
    obtain ⟨t229, A80, H⟩ := H
    replace H : (palletlaw19_EventParts.j0 k l0 a1 true (t229 != 0)) = some r := H
    have A8 := Aside0.mk A80
    clear A80
    have H' := Aside0.mk H
    clear H
    go_wp2_with (first | (go_at_call 11; (with_reducible refine (event_Check.calls k _ _ l0 t229 _ ?side1 ?side2 A8.out).mono ?_); (case side1 => repeat (first | exact (Kd.C_below HR0.out HB.out) | (with_reducible refine Kd.C_alloc ?_ _) | (with_reducible refine Kd.C_drewN ?_ _) | (with_reducible refine Kd.C_drew ?_))); (case side2 => exact HC0.out); rintro e w9 ⟨rfl, hb⟩; have n0_ := Aside0.mk (below_step (by repeat (first | (with_reducible first | exact HB.out | apply below_alloc | apply pw_below_drewN | apply below_drew1) | exact HB.out)) hb); clear HB; have HB := n0_; clear n0_; (try clear hb); (try clear hb2); (try clear hk); (try clear hi)))
    go_meet
    case rel => exact ⟨_, ((t229 != 0)), (by first | rfl | (simp; done) | (simp [*]; done)), H', ⟨by first | omega | exact Nat.le_refl _⟩, ⟨by repeat (first | (with_reducible first | exact HB.out | apply below_alloc | apply pw_below_drewN | apply below_drew1) | exact HB.out)⟩⟩
  case rest =>
   clear HC5
   try clear c1
   try clear p2
   try clear c3
   try clear c4
   try clear c7
   try clear c7b0
   try clear c7b1
   obtain ⟨kq, x26_4, rfl, HA, HJ4, HB⟩ := hcut
   cases kq with
   | zero => exact absurd HA.out (by simp [palletlaw19_EventParts.j0])
   | succ kj4 =>
    have H := HA.out
    clear HA
    simp only [palletlaw19_EventParts.j0] at H
    by_cases c10 : x26_4 = true
    ·subst c10
     have H1 : (some true) = some r := by rw [if_pos rfl] at H; exact H
     clear H
     have H := H1
     clear H1
     obtain rfl := Option.some.inj H
     go_wp2
     go_ret
     exact ⟨by first | rfl | (simp [errW_none, errW_some] <;> rfl) | (simp [*, errW_none, errW_some] <;> rfl), by repeat (first | (with_reducible first | exact HB.out | apply below_alloc | apply pw_below_drewN | apply below_drew1) | exact HB.out)⟩
    ·replace c10 := Bool.eq_false_iff.mpr c10
     subst c10
     have H1 : (if (wrap64 ((l0.length : Int) + 1)) = 0 then (none) else ((event_Encode.f kj4 l0).bind fun bt230 => (if 0 ≤ (Int.tmod (wrap64 ((wrap64 ((Int.tmod a1 (wrap64 ((l0.length : Int) + 1))) + (l0.length : Int))) + 1)) (wrap64 ((l0.length : Int) + 1))) then (if (Int.tmod (wrap64 ((wrap64 ((Int.tmod a1 (wrap64 ((l0.length : Int) + 1))) + (l0.length : Int))) + 1)) (wrap64 ((l0.length : Int) + 1))) ≤ (l0.length : Int) then ((event_Encode.f kj4 (l0.take ((Int.tmod (wrap64 ((wrap64 ((Int.tmod a1 (wrap64 ((l0.length : Int) + 1))) + (l0.length : Int))) + 1)) (wrap64 ((l0.length : Int) + 1))) : Int).toNat)).bind fun bt238 => (if bt230.2 = 0 then (palletlaw19_EventParts.j1 kj4 l0 (Int.tmod (wrap64 ((wrap64 ((Int.tmod a1 (wrap64 ((l0.length : Int) + 1))) + (l0.length : Int))) + 1)) (wrap64 ((l0.length : Int) + 1))) true bt230.1 bt238.1 (bt238.2 != 0)) else (palletlaw19_EventParts.j1 kj4 l0 (Int.tmod (wrap64 ((wrap64 ((Int.tmod a1 (wrap64 ((l0.length : Int) + 1))) + (l0.length : Int))) + 1)) (wrap64 ((l0.length : Int) + 1))) true bt230.1 bt238.1 true))) else (none)) else (none)))) = some r := by rw [if_neg (show ¬ (false = true) by decide)] at H; exact H
     clear H
     have H := H1
     clear H1
     by_cases c11 : (wrap64 ((l0.length : Int) + 1)) = 0
     ·rw [if_pos c11] at H
      exact absurd H (by simp)
     ·rw [if_neg c11] at H
      have c11b0 : ((wrap64 ((l0.length : Int) + 1)) == 0) = false := beq_eq_false_iff_ne.mpr c11
      have c11b1 : ((wrap64 ((l0.length : Int) + 1)) != 0) = true := bne_iff_ne.mpr c11
      replace H := Option.bind_eq_some_iff.mp H
      obtain ⟨⟨t230, t231⟩, A120, H⟩ := H
      replace H : (if 0 ≤ (Int.tmod (wrap64 ((wrap64 ((Int.tmod a1 (wrap64 ((l0.length : Int) + 1))) + (l0.length : Int))) + 1)) (wrap64 ((l0.length : Int) + 1))) then (if (Int.tmod (wrap64 ((wrap64 ((Int.tmod a1 (wrap64 ((l0.length : Int) + 1))) + (l0.length : Int))) + 1)) (wrap64 ((l0.length : Int) + 1))) ≤ (l0.length : Int) then ((event_Encode.f kj4 (l0.take ((Int.tmod (wrap64 ((wrap64 ((Int.tmod a1 (wrap64 ((l0.length : Int) + 1))) + (l0.length : Int))) + 1)) (wrap64 ((l0.length : Int) + 1))) : Int).toNat)).bind fun bt238 => (if t231 = 0 then (palletlaw19_EventParts.j1 kj4 l0 (Int.tmod (wrap64 ((wrap64 ((Int.tmod a1 (wrap64 ((l0.length : Int) + 1))) + (l0.length : Int))) + 1)) (wrap64 ((l0.length : Int) + 1))) true t230 bt238.1 (bt238.2 != 0)) else (palletlaw19_EventParts.j1 kj4 l0 (Int.tmod (wrap64 ((wrap64 ((Int.tmod a1 (wrap64 ((l0.length : Int) + 1))) + (l0.length : Int))) + 1)) (wrap64 ((l0.length : Int) + 1))) true t230 bt238.1 true))) else (none)) else (none)) = some r := H
      have A12 := Aside0.mk A120
      clear A120
      obtain ⟨ji13, hji13⟩ : ∃ j_ : Int, (Int.tmod (wrap64 ((wrap64 ((Int.tmod a1 (wrap64 ((l0.length : Int) + 1))) + (l0.length : Int))) + 1)) (wrap64 ((l0.length : Int) + 1))) = j_ := ⟨_, rfl⟩
      replace H : (if 0 ≤ (ji13) then (if (ji13) ≤ (l0.length : Int) then ((event_Encode.f kj4 (l0.take ((ji13) : Int).toNat)).bind fun bt238 => (if t231 = 0 then (palletlaw19_EventParts.j1 kj4 l0 ji13 true t230 bt238.1 (bt238.2 != 0)) else (palletlaw19_EventParts.j1 kj4 l0 ji13 true t230 bt238.1 true))) else (none)) else (none)) = some r := by first | (rw [hji13] at H; exact H) | (simp only [hji13] at H ⊢; exact H)
      (try rw [hji13] at A12)
      by_cases c14 : 0 ≤ (ji13)
      ·rw [if_pos c14] at H
       have c14b0 := eq_true c14
       have c14b1 : decide (0 ≤ (ji13)) = true := decide_eq_true c14
       clear c14
       by_cases c15 : (ji13) ≤ (l0.length : Int)
       ·rw [if_pos c15] at H
        have c15b0 := eq_true c15
        have c15b1 : decide ((ji13) ≤ (l0.length : Int)) = true := decide_eq_true c15
        clear c15
        obtain ⟨y234, hy234⟩ : ∃ y_ : List (S30), y_ = (l0.take ((ji13) : Int).toNat) := ⟨_, rfl⟩
        replace H : ((event_Encode.f kj4 y234).bind fun bt238 => (if t231 = 0 then (palletlaw19_EventParts.j1 kj4 l0 ji13 true t230 bt238.1 (bt238.2 != 0)) else (palletlaw19_EventParts.j1 kj4 l0 ji13 true t230 bt238.1 true))) = some r := by first | (rw [hy234]; with_reducible exact H) | (have H2_ := (Option.bind_some _ _).symm.trans H; rw [hy234]; with_reducible exact H2_) | (have H2_ := (Option.bind_some _ _).symm.trans H; with_reducible exact H2_) | with_reducible exact H | (rw [hy234]; exact H) | exact H
        have Ny234 := Aside0.mk hy234
        clear hy234
        replace H := Option.bind_eq_some_iff.mp H
        obtain ⟨⟨t238, t239⟩, A160, H⟩ := H
        replace H : (if t231 = 0 then (palletlaw19_EventParts.j1 kj4 l0 ji13 true t230 t238 (t239 != 0)) else (palletlaw19_EventParts.j1 kj4 l0 ji13 true t230 t238 true)) = some r := H
        have A16 := Aside0.mk A160
        clear A160
        have HC17 := Aside0.mk H
        clear H
        go_upto_region 9 with (first | ((with_reducible refine gate_callee (f := 12) rfl ?_); refine goesL_ (some 43) rfl rfl Tryd.func12 (by kernel_rfl) rfl #[.slice A0 l0.length c0] rfl (by (try simp only [List.map_toArray, List.map_cons, List.map_nil]); first | done | rfl | (simp only [List.length_drop, List.length_take]; first | rfl | (rw [Nat.min_eq_left (Int.toNat_le.2 (of_decide_eq_true (by assumption)))]; rfl))) ?_; (with_reducible refine (event_Encode.calls kj4 _ _ l0 t230 t231 _ ?side1 ?side2 A12.out).mono ?_); (case side1 => repeat (first | exact (Kd.C_below HR0.out HB.out) | (with_reducible refine Kd.C_alloc ?_ _) | (with_reducible refine Kd.C_drewN ?_ _) | (with_reducible refine Kd.C_drew ?_))); (case side2 => exact HC0.out); rintro e w18 ⟨v232, rfl, ho0, hb⟩; refine ⟨_, rfl, ?_⟩; have n0_ := Aside0.mk (Kd.R_lower ho0 (below_size (by repeat (first | (with_reducible first | exact HB.out | apply below_alloc | apply pw_below_drewN | apply below_drew1) | exact HB.out)))); have n1_ := Aside0.mk (below_step (by repeat (first | (with_reducible first | exact HB.out | apply below_alloc | apply pw_below_drewN | apply below_drew1) | exact HB.out)) hb); clear HB; have HO233 := n0_; have HB := n1_; clear n0_ n1_; (try clear hb); (try clear hb2); (try clear hk); (try clear hi); (try clear ho0); have q19 : ((ji13) : Int) ≤ ((l0.length : Int) : Int) := of_decide_eq_true (by first | (with_reducible assumption) | assumption); obtain ⟨i019, hi019, _, hsz19, _⟩ := info_parts info30; have hroom19 : l0.length ≤ c0 := HC0.out; have hC19 : Kd.C k30 _ A0 l0.length l0 := HR0.out; have hcut19 := cut_to (P := Tryd.prog) 22 30 .i64 Tryd.underlying22 hi019 A0 l0.length c0 (ji13) (of_decide_eq_true (by first | (with_reducible assumption) | assumption)) q19 hroom19; have hr19 := Kd.C_take (m := ((ji13) : Int).toNat) hC19 (by omega); have hy19 : y234.length = ((ji13) : Int).toNat := (by rw [Ny234.out, List.length_take]; omega); rw [← Ny234.out] at hr19; rw [← hy19] at hcut19; have HR237 := Aside0.mk hr19; have HC237 := Aside0.mk (show y234.length ≤ c0 from by omega); clear hr19 hC19 hroom19 hi019 hsz19; have KY19 := Aside0.mk hy19; clear hy19; replace q19 := eq_true q19) | ((with_reducible refine gate_callee (f := 12) rfl ?_); refine goesL_ (some 50) rfl rfl Tryd.func12 (by kernel_rfl) rfl #[.slice A0 y234.length c0] rfl (by (try simp only [List.map_toArray, List.map_cons, List.map_nil]); first | done | rfl | (simp only [List.length_drop, List.length_take]; first | rfl | (rw [Nat.min_eq_left (Int.toNat_le.2 (of_decide_eq_true (by assumption)))]; rfl))) ?_; (with_reducible refine (event_Encode.calls kj4 _ _ y234 t238 t239 _ ?side1 ?side2 A16.out).mono ?_); (case side1 => repeat (first | exact (Kd.C_below HR237.out HB.out) | (with_reducible refine Kd.C_alloc ?_ _) | (with_reducible refine Kd.C_drewN ?_ _) | (with_reducible refine Kd.C_drew ?_))); (case side2 => exact HC237.out); rintro e w20 ⟨v240, rfl, ho0, hb⟩; refine ⟨_, rfl, ?_⟩; have n0_ := Aside0.mk (Kd.R_elder' (by (with_reducible repeat (first | apply Kd.R_alloc | apply Kd.R_drewN | apply Kd.R_drew)); first | exact HO233.out | exact Kd.R_mono HO233.out (fun _ _ => trivial)) (Kd.R_base ho0) hb); have n1_ := Aside0.mk (Kd.R_lower (Kd.R_new' ho0 (Kd.R_lt (by (with_reducible repeat (first | apply Kd.R_alloc | apply Kd.R_drewN | apply Kd.R_drew)); first | exact HO233.out | exact Kd.R_mono HO233.out (fun _ _ => trivial)))) (below_size (by repeat (first | (with_reducible first | exact HB.out | apply below_alloc | apply pw_below_drewN | apply below_drew1) | exact HB.out)))); have n2_ := Aside0.mk (below_step (by repeat (first | (with_reducible first | exact HB.out | apply below_alloc | apply pw_below_drewN | apply below_drew1) | exact HB.out)) hb); clear HO233; clear HB; have HO233 := n0_; have HO241 := n1_; have HB := n2_; clear n0_ n1_ n2_; (try clear hb); (try clear hb2); (try clear hk); (try clear hi); (try clear ho0)))
        (try simp only [Act.put, List.setIfInBounds_toArray, List.set_cons_zero, List.set_cons_succ])
        go_cut [58] (fun v58 wc => ∃ (kq : Nat) (x58_16 : Bool), v58 = .bool x58_16 ∧ Aside0 (palletlaw19_EventParts.j1 kq l0 ji13 true t230 t238 x58_16 = some r) ∧ Aside0 (kq ≤ kj4) ∧ Aside0 (Kd.R (Kd.int .u8) 5 wc w.heap.size (fun k_ => some k_ ≠ (v240 : Value).ownBlock) v232 t230) ∧ Aside0 (Kd.R (Kd.int .u8) 5 wc w.heap.size (fun k_ => some k_ ≠ (v232 : Value).ownBlock) v240 t238) ∧ Aside0 (Below w.heap.size w wc))
        case first =>
         have H := HC17.out
         clear HC17
         by_cases c21 : t231 = 0
         ·rw [if_pos c21] at H
          have c21b0 : (t231 == 0) = true := beq_iff_eq.mpr c21
          have c21b1 : (t231 != 0) = false := bne_eq_false_iff_eq.mpr c21
          clear c21
          (first | rw [c21b0] | (simp only [i64_w, i32_w]; rw [c21b0]) | skip)
          have H' := Aside0.mk H
          clear H
          go_wp2
          go_meet
          case rel => exact ⟨_, ((t239 != 0)), (by first | rfl | (simp; done) | (simp [*]; done)), H', ⟨by have := HJ4.out; first | omega | exact Nat.le_refl _⟩, ⟨by (with_reducible repeat (first | apply Kd.R_alloc | apply Kd.R_drewN | apply Kd.R_drew)); exact Kd.R_mono HO233.out (fun _ hk => by first | exact hk.2 | trivial)⟩, ⟨by (with_reducible repeat (first | apply Kd.R_alloc | apply Kd.R_drewN | apply Kd.R_drew)); exact Kd.R_mono HO241.out (fun _ hk => by first | exact hk.2 | trivial)⟩, ⟨by repeat (first | (with_reducible first | exact HB.out | apply below_alloc | apply pw_below_drewN | apply below_drew1) | exact HB.out)⟩⟩
         ·rw [if_neg c21] at H
          have c21b0 : (t231 == 0) = false := beq_eq_false_iff_ne.mpr c21
          have c21b1 : (t231 != 0) = true := bne_iff_ne.mpr c21
          (first | rw [c21b0] | (simp only [i64_w, i32_w]; rw [c21b0]) | skip)
          have H' := Aside0.mk H
          clear H
          go_wp2
          go_meet
          case rel => exact ⟨_, (true), (by first | rfl | (simp; done) | (simp [*]; done)), H', ⟨by have := HJ4.out; first | omega | exact Nat.le_refl _⟩, ⟨by (with_reducible repeat (first | apply Kd.R_alloc | apply Kd.R_drewN | apply Kd.R_drew)); exact Kd.R_mono HO233.out (fun _ hk => by first | exact hk.2 | trivial)⟩, ⟨by (with_reducible repeat (first | apply Kd.R_alloc | apply Kd.R_drewN | apply Kd.R_drew)); exact Kd.R_mono HO241.out (fun _ hk => by first | exact hk.2 | trivial)⟩, ⟨by repeat (first | (with_reducible first | exact HB.out | apply below_alloc | apply pw_below_drewN | apply below_drew1) | exact HB.out)⟩⟩
        case rest =>
         clear HC17
         try clear c1
         try clear q1
         try clear c2
         try clear p2
         try clear c3
         try clear c4
         try clear p6
         try clear c7
         try clear c7b0
         try clear c7b1
         try clear c10
         try clear c11
         try clear c11b0
         try clear c11b1
         try clear c12
         try clear c14
         try clear c14b0
         try clear c14b1
         try clear c15
         try clear c15b0
         try clear c15b1
         try clear q19
         try clear c21
         try clear c21b0
         try clear c21b1
         try clear p2
         try clear q19
         obtain ⟨kq, x58_16, rfl, HA, HJ16, HO_6, HO_8, HB⟩ := hcut
         cases kq with
         | zero => exact absurd HA.out (by simp [palletlaw19_EventParts.j1])
         | succ kj16 =>
          have H := HA.out
          clear HA
          simp only [palletlaw19_EventParts.j1] at H
          by_cases c22 : x58_16 = true
          ·subst c22
           have H1 : (none) = some r := by rw [if_pos rfl] at H; exact H
           clear H
           have H := H1
           clear H1
           exact absurd H (by simp)
          ·replace c22 := Bool.eq_false_iff.mpr c22
           subst c22
           have H1 : (palletlaw19_EventParts.l0 kj16 l0 ji13 true t230 t238 ([] : List Int) l0 (l0.length : Int) 0) = some r := by rw [if_neg (show ¬ (false = true) by decide)] at H; exact H
           clear H
           have H := H1
           clear H1
           have H' := Aside0.mk H
           clear H
           go_wp2
           go_loopg [10, 61] kj16 (fun kq v10 v61 w' => ∃ (x10_3 : List Int) (x61_3 : Int), v61 = .int .i64 x61_3 ∧ Aside0 (palletlaw19_EventParts.l0 kq l0 ji13 true t230 t238 x10_3 l0 (l0.length : Int) x61_3 = some r) ∧ Aside0 (kq ≤ kj16) ∧ Aside0 (Kd.R (Kd.int .u8) 5 w' w.heap.size (fun k_ => some k_ ≠ (v240 : Value).ownBlock ∧ some k_ ≠ (v10 : Value).ownBlock) v232 t230) ∧ Aside0 (Kd.R (Kd.int .u8) 5 w' w.heap.size (fun k_ => some k_ ≠ (v232 : Value).ownBlock ∧ some k_ ≠ (v10 : Value).ownBlock) v240 t238) ∧ Aside0 (Kd.R (Kd.int .u8) 5 w' w.heap.size (fun k_ => some k_ ≠ (v232 : Value).ownBlock ∧ some k_ ≠ (v240 : Value).ownBlock) v10 x10_3) ∧ Aside0 (Below w.heap.size w w'))
           case atStart => exact ⟨(([] : List Int)), (0), (by first | rfl | (simp; done) | (simp [*]; done)), H', ⟨Nat.le_refl _⟩, ⟨by (with_reducible repeat (first | apply Kd.R_alloc | apply Kd.R_drewN | apply Kd.R_drew)); exact Kd.R_mono HO_6.out (fun _ hk => ⟨hk, (by simp [Value.ownBlock])⟩)⟩, ⟨by (with_reducible repeat (first | apply Kd.R_alloc | apply Kd.R_drewN | apply Kd.R_drew)); exact Kd.R_mono HO_8.out (fun _ hk => ⟨hk, (by simp [Value.ownBlock])⟩)⟩, ⟨by first | exact Kd.R_nil _ _ _ _ _ | exact Kd.N_nil _ _ _ _ _ | exact Kd.V_nil _ _ _ _ _ | exact Kd.Q_nil _ _ _ _ _ | exact Kd.S_nil _ _ _ _ _⟩, ⟨by repeat (first | (with_reducible first | exact HB.out | apply below_alloc | apply pw_below_drewN | apply below_drew1) | exact HB.out)⟩⟩
           case round =>
            clear H'
            try clear c1
            try clear q1
            try clear c2
            try clear p2
            try clear c3
            try clear c4
            try clear p6
            try clear c7
            try clear c7b0
            try clear c7b1
            try clear c10
            try clear c11
            try clear c11b0
            try clear c11b1
            try clear c12
            try clear c14
            try clear c14b0
            try clear c14b1
            try clear c15
            try clear c15b0
            try clear c15b1
            try clear q19
            try clear c21
            try clear c21b0
            try clear c21b1
            try clear c22
            try clear p2
            try clear p6
            try clear q1
            try clear q19
            obtain ⟨x10_3, x61_3, rfl, HA, HK3, HO_6, HO_8, HO_10, HB⟩ := hrel
            cases gk with
            | zero => exact absurd HA.out (by simp [palletlaw19_EventParts.l0])
            | succ k3 =>
             have H := HA.out
             clear HA
             simp only [palletlaw19_EventParts.l0] at H
             by_cases c23 : x61_3 < (l0.length : Int)
             ·rw [if_pos c23] at H
              have c23b0 : decide (x61_3 < (l0.length : Int)) = true := decide_eq_true c23
              clear c23
              by_cases c24 : 0 ≤ x61_3
              ·rw [if_pos c24] at H
               have c24b0 : decide (0 ≤ x61_3) = true := decide_eq_true c24
               clear c24
               by_cases c25 : x61_3 < (l0.length : Int)
               ·rw [if_pos c25] at H
                have c25b0 : decide (x61_3 < (l0.length : Int)) = true := decide_eq_true c25
                clear c25
                replace H := Option.bind_eq_some_iff.mp H
                obtain ⟨⟨t255, t258⟩, A260, H⟩ := H
                replace H : (if t258 = 0 then (if x61_3 = ji13 then ((palletref02_Vary.f k3 ([] : List Int) (([IntKind.u64.wrap (ji13)] : List Int))).bind fun t262 => (if (t238.length : Int) = (wrap64 ((wrap64 (9 + (t262.length : Int))) + (x10_3.length : Int))) then (if x10_3.length + t255.length < 140737488355328 then (palletlaw19_EventParts.l0 k3 l0 ji13 true t230 t238 (x10_3 ++ t255) l0 (l0.length : Int) (wrap64 (x61_3 + 1))) else (none)) else (none))) else (if x10_3.length + t255.length < 140737488355328 then (palletlaw19_EventParts.l0 k3 l0 ji13 true t230 t238 (x10_3 ++ t255) l0 (l0.length : Int) (wrap64 (x61_3 + 1))) else (none))) else (none)) = some r := H
                have A26 := Aside0.mk A260
                clear A260
                by_cases c27 : t258 = 0
                ·rw [if_pos c27] at H
                 have c27b0 : (t258 == 0) = true := beq_iff_eq.mpr c27
                 have c27b1 : (t258 != 0) = false := bne_eq_false_iff_eq.mpr c27
                 clear c27
                 by_cases c28 : x61_3 = ji13
                 ·rw [if_pos c28] at H
                  have c28b0 : (x61_3 == ji13) = true := beq_iff_eq.mpr c28
                  have c28b1 : (x61_3 != ji13) = false := bne_eq_false_iff_eq.mpr c28
                  clear c28
                  obtain ⟨y259, hy259⟩ : ∃ y_ : List Int, y_ = (([IntKind.u64.wrap (ji13)] : List Int)) := ⟨_, rfl⟩
                  replace H : ((palletref02_Vary.f k3 ([] : List Int) y259).bind fun t262 => (if (t238.length : Int) = (wrap64 ((wrap64 (9 + (t262.length : Int))) + (x10_3.length : Int))) then (if x10_3.length + t255.length < 140737488355328 then (palletlaw19_EventParts.l0 k3 l0 ji13 true t230 t238 (x10_3 ++ t255) l0 (l0.length : Int) (wrap64 (x61_3 + 1))) else (none)) else (none))) = some r := by first | (rw [hy259]; with_reducible exact H) | (have H2_ := (Option.bind_some _ _).symm.trans H; rw [hy259]; with_reducible exact H2_) | (have H2_ := (Option.bind_some _ _).symm.trans H; with_reducible exact H2_) | with_reducible exact H | (rw [hy259]; exact H) | exact H
                  have Ny259 := Aside0.mk hy259
                  clear hy259
                  replace H := Option.bind_eq_some_iff.mp H
                  obtain ⟨t262, A290, H⟩ := H
                  replace H : (if (t238.length : Int) = (wrap64 ((wrap64 (9 + (t262.length : Int))) + (x10_3.length : Int))) then (if x10_3.length + t255.length < 140737488355328 then (palletlaw19_EventParts.l0 k3 l0 ji13 true t230 t238 (x10_3 ++ t255) l0 (l0.length : Int) (wrap64 (x61_3 + 1))) else (none)) else (none)) = some r := H
                  have A29 := Aside0.mk A290
                  clear A290
                  by_cases c30 : (t238.length : Int) = (wrap64 ((wrap64 (9 + (t262.length : Int))) + (x10_3.length : Int)))
                  ·rw [if_pos c30] at H
                   have c30b0 : ((t238.length : Int) == (wrap64 ((wrap64 (9 + (t262.length : Int))) + (x10_3.length : Int)))) = true := beq_iff_eq.mpr c30
                   have c30b1 : ((t238.length : Int) != (wrap64 ((wrap64 (9 + (t262.length : Int))) + (x10_3.length : Int)))) = false := bne_eq_false_iff_eq.mpr c30
                   clear c30
                   by_cases c31 : x10_3.length + t255.length < 140737488355328
                   ·rw [if_pos c31] at H
                    have LMc31 := Aside0.mk c31
                    clear c31
                    obtain ⟨y265, hy265⟩ : ∃ y_ : List Int, y_ = (x10_3 ++ t255) := ⟨_, rfl⟩
                    replace H : (palletlaw19_EventParts.l0 k3 l0 ji13 true t230 t238 y265 l0 (l0.length : Int) (wrap64 (x61_3 + 1))) = some r := by first | (rw [hy265]; with_reducible exact H) | (have H2_ := (Option.bind_some _ _).symm.trans H; rw [hy265]; with_reducible exact H2_) | (have H2_ := (Option.bind_some _ _).symm.trans H; with_reducible exact H2_) | with_reducible exact H | (rw [hy265]; exact H) | exact H
                    have Ny265 := Aside0.mk hy265
                    clear hy265
                    have H' := Aside0.mk H
                    clear H
                    have p253 : 0 ≤ (x61_3 : Int) := of_decide_eq_true (by first | (with_reducible assumption) | assumption)
                    have q253 : x61_3 < (l0.length : Int) := of_decide_eq_true (by first | (with_reducible assumption) | assumption)
                    obtain ⟨ad253, e253, hx253_0, hx253_1, hx253_2, hx253_3, hx253_4⟩ := at_T30 HR0.out x61_3 p253 q253
                    cases e253
                    replace hx253_0 := (HB.out.cell (World.block_lt_of_cell? w _ hx253_0)).trans hx253_0
                    replace hx253_1 := (HB.out.cell (World.block_lt_of_cell? w _ hx253_1)).trans hx253_1
                    replace hx253_2 := (HB.out.cell (World.block_lt_of_cell? w _ hx253_2)).trans hx253_2
                    replace hx253_3 := (HB.out.cell (World.block_lt_of_cell? w _ hx253_3)).trans hx253_3
                    replace hx253_4 := (HB.out.cell (World.block_lt_of_cell? w _ hx253_4)).trans hx253_4
                    replace p253 := eq_true p253
                    replace q253 := eq_true q253
                    go_wp2_with (first | ((with_reducible refine gate_dst (N := 12) rfl ?_); (try (refine gate_guard (by rfl) ?_; dsimp only)); refine box_event ?hg (N := 12) ?hd (cs := #[.int .i64 0, .int .i64 0, .int .i64 0, .int .i64 0, .int .i64 0]) (t := 30) ?hr ?_; (case hd => rfl); (case hg => rfl); (case hr => first | (go_simp; done) | (go_simp; rfl)); intro gb254 hg w32 hbox hb; have n0_ := Aside0.mk (Kd.R_below (by (with_reducible repeat (first | apply Kd.R_alloc | apply Kd.R_drewN | apply Kd.R_drew)); exact HO_6.out) hb); have n1_ := Aside0.mk (Kd.R_below (by (with_reducible repeat (first | apply Kd.R_alloc | apply Kd.R_drewN | apply Kd.R_drew)); exact HO_8.out) hb); have n2_ := Aside0.mk (Kd.R_below (by (with_reducible repeat (first | apply Kd.R_alloc | apply Kd.R_drewN | apply Kd.R_drew)); exact HO_10.out) hb); have n3_ := Aside0.mk (below_step (by repeat (first | (with_reducible first | exact HB.out | apply below_alloc | apply pw_below_drewN | apply below_drew1) | exact HB.out)) hb); have n4_ := Aside0.mk (hbox); have n5_ := Aside0.mk ((by rw [hg]; exact (below_size (by repeat (first | (with_reducible first | exact HB.out | apply below_alloc | apply pw_below_drewN | apply below_drew1) | exact HB.out))) : w.heap.size ≤ gb254)); have n6_ := Aside0.mk ((by rw [hg]; exact (below_size (by repeat (first | (with_reducible first | exact HB.out | apply below_alloc | apply pw_below_drewN | apply below_drew1) | exact HB.out))) : w.heap.size ≤ gb254)); clear HO_6; clear HO_8; clear HO_10; clear HB; have HO_6 := n0_; have HO_8 := n1_; have HO_10 := n2_; have HB := n3_; have BK254 := n4_; have GW254 := n5_; have GE254 := n6_; clear n0_ n1_ n2_ n3_ n4_ n5_ n6_; clear hb hbox hg; have hcz33_0 : w32.cell? ⟨gb254, 0, none⟩ = some (.int .i64 0) := (blk_cell BK254.out 0).trans rfl; have hcz33_1 : w32.cell? ⟨gb254, 1, none⟩ = some (.int .i64 0) := (blk_cell BK254.out 1).trans rfl; have hcz33_2 : w32.cell? ⟨gb254, 2, none⟩ = some (.int .i64 0) := (blk_cell BK254.out 2).trans rfl; have hcz33_3 : w32.cell? ⟨gb254, 3, none⟩ = some (.int .i64 0) := (blk_cell BK254.out 3).trans rfl; have hcz33_4 : w32.cell? ⟨gb254, 4, none⟩ = some (.int .i64 0) := (blk_cell BK254.out 4).trans rfl; have hfz33_0 := blk_frozen BK254.out 0; have hfz33_1 := blk_frozen BK254.out 1; have hfz33_2 := blk_frozen BK254.out 2; have hfz33_3 := blk_frozen BK254.out 3; have hfz33_4 := blk_frozen BK254.out 4) | ((with_reducible refine gate_callee (f := 13) rfl ?_); refine goesL_ (some 68) rfl rfl Tryd.func13 (by kernel_rfl) rfl #[.agg #[.int .i64 ((rd_T30 l0 x61_3).f0), .int .i64 ((rd_T30 l0 x61_3).f1), .int .i64 ((rd_T30 l0 x61_3).f2), .int .i64 ((rd_T30 l0 x61_3).f3), .int .i64 ((rd_T30 l0 x61_3).f4)]] rfl (by (try simp only [List.map_toArray, List.map_cons, List.map_nil]); first | done | rfl | (simp only [List.length_drop, List.length_take]; first | rfl | (rw [Nat.min_eq_left (Int.toNat_le.2 (of_decide_eq_true (by assumption)))]; rfl))) ?_; (with_reducible refine (event_Write.calls k3 ((rd_T30 l0 x61_3).f0) ((rd_T30 l0 x61_3).f1) ((rd_T30 l0 x61_3).f2) ((rd_T30 l0 x61_3).f3) ((rd_T30 l0 x61_3).f4) t255 t258 _ A26.out).mono ?_); rintro e w34 ⟨v256, rfl, ho0, hb⟩; refine ⟨_, rfl, ?_⟩; have n0_ := Aside0.mk (Kd.R_elder' (by (with_reducible repeat (first | apply Kd.R_alloc | apply Kd.R_drewN | apply Kd.R_drew)); exact (Kd.R_mono (Kd.R_far (p := ⟨gb254, 4, none⟩) (Kd.R_far (p := ⟨gb254, 3, none⟩) (Kd.R_far (p := ⟨gb254, 2, none⟩) (Kd.R_far (p := ⟨gb254, 1, none⟩) (Kd.R_far (p := ⟨gb254, 0, none⟩) (Kd.R_types HO_6.out BK254.out (by decide)) (fun _ hk => hk.2) (.int .i64 ((rd_T30 l0 x61_3).f0))) (fun _ hk => hk.2) (.int .i64 ((rd_T30 l0 x61_3).f1))) (fun _ hk => hk.2) (.int .i64 ((rd_T30 l0 x61_3).f2))) (fun _ hk => hk.2) (.int .i64 ((rd_T30 l0 x61_3).f3))) (fun _ hk => hk.2) (.int .i64 ((rd_T30 l0 x61_3).f4))) (fun _ h_ => h_.1))) (Kd.R_base ho0) hb); have n1_ := Aside0.mk (Kd.R_elder' (by (with_reducible repeat (first | apply Kd.R_alloc | apply Kd.R_drewN | apply Kd.R_drew)); exact (Kd.R_mono (Kd.R_far (p := ⟨gb254, 4, none⟩) (Kd.R_far (p := ⟨gb254, 3, none⟩) (Kd.R_far (p := ⟨gb254, 2, none⟩) (Kd.R_far (p := ⟨gb254, 1, none⟩) (Kd.R_far (p := ⟨gb254, 0, none⟩) (Kd.R_types HO_8.out BK254.out (by decide)) (fun _ hk => hk.2) (.int .i64 ((rd_T30 l0 x61_3).f0))) (fun _ hk => hk.2) (.int .i64 ((rd_T30 l0 x61_3).f1))) (fun _ hk => hk.2) (.int .i64 ((rd_T30 l0 x61_3).f2))) (fun _ hk => hk.2) (.int .i64 ((rd_T30 l0 x61_3).f3))) (fun _ hk => hk.2) (.int .i64 ((rd_T30 l0 x61_3).f4))) (fun _ h_ => h_.1))) (Kd.R_base ho0) hb); have n2_ := Aside0.mk (Kd.R_elder' (by (with_reducible repeat (first | apply Kd.R_alloc | apply Kd.R_drewN | apply Kd.R_drew)); exact (Kd.R_mono (Kd.R_far (p := ⟨gb254, 4, none⟩) (Kd.R_far (p := ⟨gb254, 3, none⟩) (Kd.R_far (p := ⟨gb254, 2, none⟩) (Kd.R_far (p := ⟨gb254, 1, none⟩) (Kd.R_far (p := ⟨gb254, 0, none⟩) (Kd.R_types HO_10.out BK254.out (by decide)) (fun _ hk => hk.2) (.int .i64 ((rd_T30 l0 x61_3).f0))) (fun _ hk => hk.2) (.int .i64 ((rd_T30 l0 x61_3).f1))) (fun _ hk => hk.2) (.int .i64 ((rd_T30 l0 x61_3).f2))) (fun _ hk => hk.2) (.int .i64 ((rd_T30 l0 x61_3).f3))) (fun _ hk => hk.2) (.int .i64 ((rd_T30 l0 x61_3).f4))) (fun _ h_ => h_.1))) (Kd.R_base ho0) hb); have n3_ := Aside0.mk (Kd.R_lower (Kd.R_new' (Kd.R_new' (Kd.R_new' ho0 (Kd.R_lt (by (with_reducible repeat (first | apply Kd.R_alloc | apply Kd.R_drewN | apply Kd.R_drew)); exact (Kd.R_mono (Kd.R_far (p := ⟨gb254, 4, none⟩) (Kd.R_far (p := ⟨gb254, 3, none⟩) (Kd.R_far (p := ⟨gb254, 2, none⟩) (Kd.R_far (p := ⟨gb254, 1, none⟩) (Kd.R_far (p := ⟨gb254, 0, none⟩) (Kd.R_types HO_6.out BK254.out (by decide)) (fun _ hk => hk.2) (.int .i64 ((rd_T30 l0 x61_3).f0))) (fun _ hk => hk.2) (.int .i64 ((rd_T30 l0 x61_3).f1))) (fun _ hk => hk.2) (.int .i64 ((rd_T30 l0 x61_3).f2))) (fun _ hk => hk.2) (.int .i64 ((rd_T30 l0 x61_3).f3))) (fun _ hk => hk.2) (.int .i64 ((rd_T30 l0 x61_3).f4))) (fun _ h_ => h_.1))))) (Kd.R_lt (by (with_reducible repeat (first | apply Kd.R_alloc | apply Kd.R_drewN | apply Kd.R_drew)); exact (Kd.R_mono (Kd.R_far (p := ⟨gb254, 4, none⟩) (Kd.R_far (p := ⟨gb254, 3, none⟩) (Kd.R_far (p := ⟨gb254, 2, none⟩) (Kd.R_far (p := ⟨gb254, 1, none⟩) (Kd.R_far (p := ⟨gb254, 0, none⟩) (Kd.R_types HO_8.out BK254.out (by decide)) (fun _ hk => hk.2) (.int .i64 ((rd_T30 l0 x61_3).f0))) (fun _ hk => hk.2) (.int .i64 ((rd_T30 l0 x61_3).f1))) (fun _ hk => hk.2) (.int .i64 ((rd_T30 l0 x61_3).f2))) (fun _ hk => hk.2) (.int .i64 ((rd_T30 l0 x61_3).f3))) (fun _ hk => hk.2) (.int .i64 ((rd_T30 l0 x61_3).f4))) (fun _ h_ => h_.1))))) (Kd.R_lt (by (with_reducible repeat (first | apply Kd.R_alloc | apply Kd.R_drewN | apply Kd.R_drew)); exact (Kd.R_mono (Kd.R_far (p := ⟨gb254, 4, none⟩) (Kd.R_far (p := ⟨gb254, 3, none⟩) (Kd.R_far (p := ⟨gb254, 2, none⟩) (Kd.R_far (p := ⟨gb254, 1, none⟩) (Kd.R_far (p := ⟨gb254, 0, none⟩) (Kd.R_types HO_10.out BK254.out (by decide)) (fun _ hk => hk.2) (.int .i64 ((rd_T30 l0 x61_3).f0))) (fun _ hk => hk.2) (.int .i64 ((rd_T30 l0 x61_3).f1))) (fun _ hk => hk.2) (.int .i64 ((rd_T30 l0 x61_3).f2))) (fun _ hk => hk.2) (.int .i64 ((rd_T30 l0 x61_3).f3))) (fun _ hk => hk.2) (.int .i64 ((rd_T30 l0 x61_3).f4))) (fun _ h_ => h_.1))))) (below_size (by repeat (first | (with_reducible first | exact HB.out | apply below_alloc | apply pw_below_drewN | apply below_drew1 | refine below_set ?_ GE254.out) | exact HB.out)))); have n4_ := Aside0.mk (blk_below (g := gb254) (o := .cells #[.int .i64 ((rd_T30 l0 x61_3).f0), .int .i64 ((rd_T30 l0 x61_3).f1), .int .i64 ((rd_T30 l0 x61_3).f2), .int .i64 ((rd_T30 l0 x61_3).f3), .int .i64 ((rd_T30 l0 x61_3).f4)] 30 (0, 0)) (by (with_reducible repeat (first | refine blk_drewN ?_ _ | refine blk_drew ?_ | refine blk_alloc ?_ _)); refine blk_put (cs := #[.int .i64 ((rd_T30 l0 x61_3).f0), .int .i64 ((rd_T30 l0 x61_3).f1), .int .i64 ((rd_T30 l0 x61_3).f2), .int .i64 ((rd_T30 l0 x61_3).f3), .int .i64 0]) ?_ 4 _ rfl; (with_reducible repeat (first | refine blk_drewN ?_ _ | refine blk_drew ?_ | refine blk_alloc ?_ _)); refine blk_put (cs := #[.int .i64 ((rd_T30 l0 x61_3).f0), .int .i64 ((rd_T30 l0 x61_3).f1), .int .i64 ((rd_T30 l0 x61_3).f2), .int .i64 0, .int .i64 0]) ?_ 3 _ rfl; (with_reducible repeat (first | refine blk_drewN ?_ _ | refine blk_drew ?_ | refine blk_alloc ?_ _)); refine blk_put (cs := #[.int .i64 ((rd_T30 l0 x61_3).f0), .int .i64 ((rd_T30 l0 x61_3).f1), .int .i64 0, .int .i64 0, .int .i64 0]) ?_ 2 _ rfl; (with_reducible repeat (first | refine blk_drewN ?_ _ | refine blk_drew ?_ | refine blk_alloc ?_ _)); refine blk_put (cs := #[.int .i64 ((rd_T30 l0 x61_3).f0), .int .i64 0, .int .i64 0, .int .i64 0, .int .i64 0]) ?_ 1 _ rfl; (with_reducible repeat (first | refine blk_drewN ?_ _ | refine blk_drew ?_ | refine blk_alloc ?_ _)); refine blk_put (cs := #[.int .i64 0, .int .i64 0, .int .i64 0, .int .i64 0, .int .i64 0]) ?_ 0 _ rfl; (with_reducible repeat (first | refine blk_drewN ?_ _ | refine blk_drew ?_ | refine blk_alloc ?_ _)); exact BK254.out) hb); have n5_ := Aside0.mk (below_step (by repeat (first | (with_reducible first | exact HB.out | apply below_alloc | apply pw_below_drewN | apply below_drew1 | refine below_set ?_ GE254.out) | exact HB.out)) hb); clear HO_6; clear HO_8; clear HO_10; clear BK254; clear HB; have HO_6 := n0_; have HO_8 := n1_; have HO_10 := n2_; have HO257 := n3_; have BK254 := n4_; have HB := n5_; clear n0_ n1_ n2_ n3_ n4_ n5_; (try clear hb); (try clear hb2); (try clear hk); (try clear hi); (try clear ho0); obtain ⟨Ao35, co35, eo35⟩ := Kd.R_slice HO_8.out; subst eo35) | ((with_reducible refine gate_dst (N := 81) rfl ?_); (try (refine gate_guard (by rfl) ?_; dsimp only)); refine Kd.R_lit (Kd.int .u64) _ 33 ?hg (N := 81) ?hd (xs := ([IntKind.u64.wrap (ji13)] : List Int)) (inner := [.int .u64 (IntKind.u64.wrap (ji13))]) (ok := fun _ => True) (okp := fun _ => True) ?hr ?hp (fun _ hk => hk) trivial (Below.refl _ _) (Nat.le_refl _) (by simp) ?_; (case hd => rfl); (case hg => rfl); (case hr => first | (go_simp; done) | (go_simp; rfl)); (case hp => exact (Reps.one (show Kd.M (Kd.int .u64) _ _ _ (IntKind.u64.wrap (ji13)) [.int .u64 (IntKind.u64.wrap (ji13))] from rfl) (Reps.none _ _))); intro v260 w36 ho37 hb hg_ hnew_; clear hg_ hnew_; (first | rw [← Ny259.out] at ho37 | (simp only [Int.reduceToNat] at ho37; rw [← Ny259.out] at ho37)); have n0_ := Aside0.mk (Kd.R_below (by (with_reducible repeat (first | apply Kd.R_alloc | apply Kd.R_drewN | apply Kd.R_drew)); exact HO_6.out) hb); have n1_ := Aside0.mk (Kd.R_below (by (with_reducible repeat (first | apply Kd.R_alloc | apply Kd.R_drewN | apply Kd.R_drew)); exact HO_8.out) hb); have n2_ := Aside0.mk (Kd.R_below (by (with_reducible repeat (first | apply Kd.R_alloc | apply Kd.R_drewN | apply Kd.R_drew)); exact HO_10.out) hb); have n3_ := Aside0.mk (Kd.R_below (by (with_reducible repeat (first | apply Kd.R_alloc | apply Kd.R_drewN | apply Kd.R_drew)); first | exact HO257.out | exact Kd.R_mono HO257.out (fun _ _ => trivial)) hb); have n4_ := Aside0.mk (Kd.R_lower ho37 (below_size (by repeat (first | (with_reducible first | exact HB.out | apply below_alloc | apply pw_below_drewN | apply below_drew1 | refine below_set ?_ GE254.out) | exact HB.out)))); have n5_ := Aside0.mk (blk_below (g := gb254) (o := .cells #[.int .i64 ((rd_T30 l0 x61_3).f0), .int .i64 ((rd_T30 l0 x61_3).f1), .int .i64 ((rd_T30 l0 x61_3).f2), .int .i64 ((rd_T30 l0 x61_3).f3), .int .i64 ((rd_T30 l0 x61_3).f4)] 30 (0, 0)) (by (with_reducible repeat (first | refine blk_drewN ?_ _ | refine blk_drew ?_ | refine blk_alloc ?_ _)); exact BK254.out) hb); have n6_ := Aside0.mk (below_step (by repeat (first | (with_reducible first | exact HB.out | apply below_alloc | apply pw_below_drewN | apply below_drew1 | refine below_set ?_ GE254.out) | exact HB.out)) hb); clear HO_6; clear HO_8; clear HO_10; clear HO257; clear BK254; clear HB; have HO_6 := n0_; have HO_8 := n1_; have HO_10 := n2_; have HO257 := n3_; have HO261 := n4_; have BK254 := n5_; have HB := n6_; clear n0_ n1_ n2_ n3_ n4_ n5_ n6_; clear hb ho37; obtain ⟨Ao38, co38, eo38⟩ := Kd.R_slice HO261.out; subst eo38) | (go_at_call 14; (refine (palletref02_Vary.calls k3 _ _ ([] : List Int) _ _ y259 t262 _ ?side1 ?side2 ?side3 ?side4 A29.out).mono ?_); (case side1 => exact Kd.C_nil _ _); (case side2 => exact Nat.le_refl _); (case side3 => repeat (first | exact (Kd.R_reads' HO261.out).2.2 | (with_reducible refine Kd.C_alloc ?_ _) | (with_reducible refine Kd.C_drewN ?_ _) | (with_reducible refine Kd.C_drew ?_))); (case side4 => exact (Kd.R_reads' HO261.out).2.1); rintro e w39 ⟨v263, rfl, ho0, hb⟩; have n0_ := Aside0.mk (Kd.R_elder' (by (with_reducible repeat (first | apply Kd.R_alloc | apply Kd.R_drewN | apply Kd.R_drew)); exact HO_6.out) (Kd.R_base ho0) hb); have n1_ := Aside0.mk (Kd.R_elder' (by (with_reducible repeat (first | apply Kd.R_alloc | apply Kd.R_drewN | apply Kd.R_drew)); exact HO_8.out) (Kd.R_base ho0) hb); have n2_ := Aside0.mk (Kd.R_elder' (by (with_reducible repeat (first | apply Kd.R_alloc | apply Kd.R_drewN | apply Kd.R_drew)); exact HO_10.out) (Kd.R_base ho0) hb); have n3_ := Aside0.mk (Kd.R_elder' (by (with_reducible repeat (first | apply Kd.R_alloc | apply Kd.R_drewN | apply Kd.R_drew)); first | exact HO257.out | exact Kd.R_mono HO257.out (fun _ _ => trivial)) (Kd.R_base ho0) hb); have n4_ := Aside0.mk (Kd.R_below (by (with_reducible repeat (first | apply Kd.R_alloc | apply Kd.R_drewN | apply Kd.R_drew)); first | exact HO261.out | exact Kd.R_mono HO261.out (fun _ _ => trivial)) hb); have n5_ := Aside0.mk (Kd.R_lower (Kd.R_new' (Kd.R_new' (Kd.R_new' (Kd.R_new' ho0 (Kd.R_lt (by (with_reducible repeat (first | apply Kd.R_alloc | apply Kd.R_drewN | apply Kd.R_drew)); exact HO_6.out))) (Kd.R_lt (by (with_reducible repeat (first | apply Kd.R_alloc | apply Kd.R_drewN | apply Kd.R_drew)); exact HO_8.out))) (Kd.R_lt (by (with_reducible repeat (first | apply Kd.R_alloc | apply Kd.R_drewN | apply Kd.R_drew)); exact HO_10.out))) (Kd.R_lt (by (with_reducible repeat (first | apply Kd.R_alloc | apply Kd.R_drewN | apply Kd.R_drew)); first | exact HO257.out | exact Kd.R_mono HO257.out (fun _ _ => trivial)))) (below_size (by repeat (first | (with_reducible first | exact HB.out | apply below_alloc | apply pw_below_drewN | apply below_drew1 | refine below_set ?_ GE254.out) | exact HB.out)))); have n6_ := Aside0.mk (blk_below (g := gb254) (o := .cells #[.int .i64 ((rd_T30 l0 x61_3).f0), .int .i64 ((rd_T30 l0 x61_3).f1), .int .i64 ((rd_T30 l0 x61_3).f2), .int .i64 ((rd_T30 l0 x61_3).f3), .int .i64 ((rd_T30 l0 x61_3).f4)] 30 (0, 0)) (by (with_reducible repeat (first | refine blk_drewN ?_ _ | refine blk_drew ?_ | refine blk_alloc ?_ _)); exact BK254.out) hb); have n7_ := Aside0.mk (below_step (by repeat (first | (with_reducible first | exact HB.out | apply below_alloc | apply pw_below_drewN | apply below_drew1 | refine below_set ?_ GE254.out) | exact HB.out)) hb); clear HO_6; clear HO_8; clear HO_10; clear HO257; clear HO261; clear BK254; clear HB; have HO_6 := n0_; have HO_8 := n1_; have HO_10 := n2_; have HO257 := n3_; have HO261 := n4_; have HO264 := n5_; have BK254 := n6_; have HB := n7_; clear n0_ n1_ n2_ n3_ n4_ n5_ n6_ n7_; (try clear hb); (try clear hb2); (try clear hk); (try clear hi); (try clear ho0); obtain ⟨Ao40, co40, eo40⟩ := Kd.R_slice HO264.out; subst eo40; obtain ⟨Ao41, co41, eo41⟩ := Kd.R_slice HO_10.out; subst eo41; obtain ⟨Ao43, co43, eo43⟩ := Kd.R_slice HO257.out; subst eo43) | ((with_reducible refine gate_builtin (b := .append) (xs := #[.tmp 90, .tmp 91]) rfl ?_); (try (refine gate_guard (by rfl) ?_; dsimp only)); at_builtin; refine Kd.R_append_rows (Kd.int .u8) (w0 := w) w.heap.size rfl (.tmp 90) (.tmp 91) 26 5 (.int .u8 0) 1 rfl Tryd.underlying26 info5 rfl (by decide) (by omega) (.slice Ao41 x10_3.length co41) x10_3 t255 _ _ _ (fun k_ => some k_ ≠ (v232 : Value).ownBlock ∧ some k_ ≠ (.slice Ao35 t238.length co35 : Value).ownBlock ∧ some k_ ≠ (.slice Ao43 t255.length co43 : Value).ownBlock ∧ some k_ ≠ (.slice Ao40 t262.length co40 : Value).ownBlock) (fun _ => False) rfl rfl ?aO ?aR (fun _ _ h => h) (fun _ h => h.elim) ?aF ?aB ?aS ?aL ?_; (case aR => repeat (first | exact (Kd.R_reads' HO257.out).2.2 | (with_reducible refine Kd.C_alloc ?_ _) | (with_reducible refine Kd.C_drewN ?_ _) | (with_reducible refine Kd.C_drew ?_))); (case aB => exact (by repeat (first | (with_reducible first | exact HB.out | apply below_alloc | apply pw_below_drewN | apply below_drew1 | refine below_set ?_ GE254.out) | exact HB.out))); (case aF => exact (fun k_ hk => ⟨Kd.fresh' (Kd.R_lt (by (with_reducible repeat (first | apply Kd.R_alloc | apply Kd.R_drewN | apply Kd.R_drew)); exact HO_6.out)) k_ hk, Kd.fresh' (Kd.R_lt (by (with_reducible repeat (first | apply Kd.R_alloc | apply Kd.R_drewN | apply Kd.R_drew)); exact HO_8.out)) k_ hk, Kd.fresh' (Kd.R_lt (by (with_reducible repeat (first | apply Kd.R_alloc | apply Kd.R_drewN | apply Kd.R_drew)); first | exact HO257.out | exact Kd.R_mono HO257.out (fun _ _ => trivial))) k_ hk, Kd.fresh' (Kd.R_lt (by (with_reducible repeat (first | apply Kd.R_alloc | apply Kd.R_drewN | apply Kd.R_drew)); first | exact HO264.out | exact Kd.R_mono HO264.out (fun _ _ => trivial))) k_ hk⟩)); (case aO => exact (by (with_reducible repeat (first | apply Kd.R_alloc | apply Kd.R_drewN | apply Kd.R_drew)); exact Kd.R_mono HO_10.out (fun _ hk => ⟨hk.1.1.1, ⟨hk.1.1.2, ⟨hk.1.2, hk.2⟩⟩⟩))); (case aS => exact (below_size (by repeat (first | (with_reducible first | exact HB.out | apply below_alloc | apply pw_below_drewN | apply below_drew1 | refine below_set ?_ GE254.out) | exact HB.out)))); (case aL => have := LMc31.out; omega); intro v266 w42 ho hb hg hat; rw [← Ny265.out] at ho; have n0_ := Aside0.mk (Kd.R_after (ok := (fun k_ => some k_ ≠ (.slice Ao35 t238.length co35 : Value).ownBlock ∧ some k_ ≠ (.slice Ao43 t255.length co43 : Value).ownBlock ∧ some k_ ≠ (.slice Ao40 t262.length co40 : Value).ownBlock)) (by (with_reducible repeat (first | apply Kd.R_alloc | apply Kd.R_drewN | apply Kd.R_drew)); exact Kd.R_mono HO_6.out (fun _ hk => ⟨⟨hk.1.1.1, ⟨hk.1.2, hk.2⟩⟩, hk.1.1.2⟩)) hg hat); have n1_ := Aside0.mk (Kd.R_after (ok := (fun k_ => some k_ ≠ (v232 : Value).ownBlock ∧ some k_ ≠ (.slice Ao43 t255.length co43 : Value).ownBlock ∧ some k_ ≠ (.slice Ao40 t262.length co40 : Value).ownBlock)) (by (with_reducible repeat (first | apply Kd.R_alloc | apply Kd.R_drewN | apply Kd.R_drew)); exact Kd.R_mono HO_8.out (fun _ hk => ⟨⟨hk.1.1.1, ⟨hk.1.2, hk.2⟩⟩, hk.1.1.2⟩)) hg hat); have n2_ := Aside0.mk (blk_grown (g := gb254) (o := .cells #[.int .i64 ((rd_T30 l0 x61_3).f0), .int .i64 ((rd_T30 l0 x61_3).f1), .int .i64 ((rd_T30 l0 x61_3).f2), .int .i64 ((rd_T30 l0 x61_3).f3), .int .i64 ((rd_T30 l0 x61_3).f4)] 30 (0, 0)) (by (with_reducible repeat (first | refine blk_drewN ?_ _ | refine blk_drew ?_ | refine blk_alloc ?_ _)); exact BK254.out) hg (Kd.R_ne HO_10.out BK254.out (by decide))); have n3_ := Aside0.mk (Kd.R_after (ok := (fun k_ => some k_ ≠ (v232 : Value).ownBlock ∧ some k_ ≠ (.slice Ao35 t238.length co35 : Value).ownBlock ∧ some k_ ≠ (.slice Ao40 t262.length co40 : Value).ownBlock)) (by (with_reducible repeat (first | apply Kd.R_alloc | apply Kd.R_drewN | apply Kd.R_drew)); exact Kd.R_mono HO257.out (fun _ hk => ⟨⟨hk.1.1.1.2, ⟨hk.1.1.2, hk.2⟩⟩, hk.1.2⟩)) hg hat); have n4_ := Aside0.mk (Kd.R_over' (by (with_reducible repeat (first | apply Kd.R_alloc | apply Kd.R_drewN | apply Kd.R_drew)); first | exact HO261.out | exact Kd.R_mono HO261.out (fun _ _ => trivial)) (Kd.R_typed (by (with_reducible repeat (first | apply Kd.R_alloc | apply Kd.R_drewN | apply Kd.R_drew)); exact HO_10.out)) (by decide) hg); have n5_ := Aside0.mk (Kd.R_after (ok := (fun k_ => some k_ ≠ (v232 : Value).ownBlock ∧ some k_ ≠ (.slice Ao35 t238.length co35 : Value).ownBlock ∧ some k_ ≠ (.slice Ao43 t255.length co43 : Value).ownBlock)) (by (with_reducible repeat (first | apply Kd.R_alloc | apply Kd.R_drewN | apply Kd.R_drew)); exact Kd.R_mono HO264.out (fun _ hk => ⟨⟨hk.1.1.1.2, ⟨hk.1.1.2, hk.2⟩⟩, hk.1.2⟩)) hg hat); have n6_ := Aside0.mk (hb); have n7_ := Aside0.mk (ho); clear HO_6; clear HO_8; clear BK254; clear HO257; clear HO261; clear HO264; clear HB; clear HO_10; have HO_6 := n0_; have HO_8 := n1_; have BK254 := n2_; have HO257 := n3_; have HO261 := n4_; have HO264 := n5_; have HB := n6_; have HO267 := n7_; clear n0_ n1_ n2_ n3_ n4_ n5_ n6_ n7_; clear ho hb hg hat))
                    go_roundg k3
                    case measure => have := HJ4.out; have := HJ16.out; have := HK3.out; omega
                    case rel => exact ⟨(y265), (wrap64 (x61_3 + 1)), (by first | rfl | (simp; done) | (simp [*]; done)), H', ⟨by have := HJ4.out; have := HJ16.out; have := HK3.out; omega⟩, ⟨by (with_reducible repeat (first | apply Kd.R_alloc | apply Kd.R_drewN | apply Kd.R_drew)); exact Kd.R_mono HO_6.out (fun _ hk => ⟨hk.1.1, hk.2⟩)⟩, ⟨by (with_reducible repeat (first | apply Kd.R_alloc | apply Kd.R_drewN | apply Kd.R_drew)); exact Kd.R_mono HO_8.out (fun _ hk => ⟨hk.1.1, hk.2⟩)⟩, ⟨by (with_reducible repeat (first | apply Kd.R_alloc | apply Kd.R_drewN | apply Kd.R_drew)); exact Kd.R_mono HO267.out (fun _ hk => ⟨hk.1, hk.2.1⟩)⟩, ⟨by repeat (first | (with_reducible first | exact HB.out | apply below_alloc | apply pw_below_drewN | apply below_drew1 | refine below_set ?_ GE254.out) | exact HB.out)⟩⟩
                   ·rw [if_neg c31] at H
                    exact absurd H (by simp)
                  ·rw [if_neg c30] at H
                   exact absurd H (by simp)
                 ·rw [if_neg c28] at H
                  have c28b0 : (x61_3 == ji13) = false := beq_eq_false_iff_ne.mpr c28
                  have c28b1 : (x61_3 != ji13) = true := bne_iff_ne.mpr c28
                  by_cases c44 : x10_3.length + t255.length < 140737488355328
                  ·rw [if_pos c44] at H
                   have LMc44 := Aside0.mk c44
                   clear c44
                   obtain ⟨y268, hy268⟩ : ∃ y_ : List Int, y_ = (x10_3 ++ t255) := ⟨_, rfl⟩
                   replace H : (palletlaw19_EventParts.l0 k3 l0 ji13 true t230 t238 y268 l0 (l0.length : Int) (wrap64 (x61_3 + 1))) = some r := by first | (rw [hy268]; with_reducible exact H) | (have H2_ := (Option.bind_some _ _).symm.trans H; rw [hy268]; with_reducible exact H2_) | (have H2_ := (Option.bind_some _ _).symm.trans H; with_reducible exact H2_) | with_reducible exact H | (rw [hy268]; exact H) | exact H
                   have Ny268 := Aside0.mk hy268
                   clear hy268
                   have H' := Aside0.mk H
                   clear H
                   have p253 : 0 ≤ (x61_3 : Int) := of_decide_eq_true (by first | (with_reducible assumption) | assumption)
                   have q253 : x61_3 < (l0.length : Int) := of_decide_eq_true (by first | (with_reducible assumption) | assumption)
                   obtain ⟨ad253, e253, hx253_0, hx253_1, hx253_2, hx253_3, hx253_4⟩ := at_T30 HR0.out x61_3 p253 q253
                   cases e253
                   replace hx253_0 := (HB.out.cell (World.block_lt_of_cell? w _ hx253_0)).trans hx253_0
                   replace hx253_1 := (HB.out.cell (World.block_lt_of_cell? w _ hx253_1)).trans hx253_1
                   replace hx253_2 := (HB.out.cell (World.block_lt_of_cell? w _ hx253_2)).trans hx253_2
                   replace hx253_3 := (HB.out.cell (World.block_lt_of_cell? w _ hx253_3)).trans hx253_3
                   replace hx253_4 := (HB.out.cell (World.block_lt_of_cell? w _ hx253_4)).trans hx253_4
                   replace p253 := eq_true p253
                   replace q253 := eq_true q253
                   go_wp2_with (first | ((with_reducible refine gate_dst (N := 12) rfl ?_); (try (refine gate_guard (by rfl) ?_; dsimp only)); refine box_event ?hg (N := 12) ?hd (cs := #[.int .i64 0, .int .i64 0, .int .i64 0, .int .i64 0, .int .i64 0]) (t := 30) ?hr ?_; (case hd => rfl); (case hg => rfl); (case hr => first | (go_simp; done) | (go_simp; rfl)); intro gb254 hg w45 hbox hb; have n0_ := Aside0.mk (Kd.R_below (by (with_reducible repeat (first | apply Kd.R_alloc | apply Kd.R_drewN | apply Kd.R_drew)); exact HO_6.out) hb); have n1_ := Aside0.mk (Kd.R_below (by (with_reducible repeat (first | apply Kd.R_alloc | apply Kd.R_drewN | apply Kd.R_drew)); exact HO_8.out) hb); have n2_ := Aside0.mk (Kd.R_below (by (with_reducible repeat (first | apply Kd.R_alloc | apply Kd.R_drewN | apply Kd.R_drew)); exact HO_10.out) hb); have n3_ := Aside0.mk (below_step (by repeat (first | (with_reducible first | exact HB.out | apply below_alloc | apply pw_below_drewN | apply below_drew1) | exact HB.out)) hb); have n4_ := Aside0.mk (hbox); have n5_ := Aside0.mk ((by rw [hg]; exact (below_size (by repeat (first | (with_reducible first | exact HB.out | apply below_alloc | apply pw_below_drewN | apply below_drew1) | exact HB.out))) : w.heap.size ≤ gb254)); have n6_ := Aside0.mk ((by rw [hg]; exact (below_size (by repeat (first | (with_reducible first | exact HB.out | apply below_alloc | apply pw_below_drewN | apply below_drew1) | exact HB.out))) : w.heap.size ≤ gb254)); clear HO_6; clear HO_8; clear HO_10; clear HB; have HO_6 := n0_; have HO_8 := n1_; have HO_10 := n2_; have HB := n3_; have BK254 := n4_; have GW254 := n5_; have GE254 := n6_; clear n0_ n1_ n2_ n3_ n4_ n5_ n6_; clear hb hbox hg; have hcz46_0 : w45.cell? ⟨gb254, 0, none⟩ = some (.int .i64 0) := (blk_cell BK254.out 0).trans rfl; have hcz46_1 : w45.cell? ⟨gb254, 1, none⟩ = some (.int .i64 0) := (blk_cell BK254.out 1).trans rfl; have hcz46_2 : w45.cell? ⟨gb254, 2, none⟩ = some (.int .i64 0) := (blk_cell BK254.out 2).trans rfl; have hcz46_3 : w45.cell? ⟨gb254, 3, none⟩ = some (.int .i64 0) := (blk_cell BK254.out 3).trans rfl; have hcz46_4 : w45.cell? ⟨gb254, 4, none⟩ = some (.int .i64 0) := (blk_cell BK254.out 4).trans rfl; have hfz46_0 := blk_frozen BK254.out 0; have hfz46_1 := blk_frozen BK254.out 1; have hfz46_2 := blk_frozen BK254.out 2; have hfz46_3 := blk_frozen BK254.out 3; have hfz46_4 := blk_frozen BK254.out 4) | ((with_reducible refine gate_callee (f := 13) rfl ?_); refine goesL_ (some 68) rfl rfl Tryd.func13 (by kernel_rfl) rfl #[.agg #[.int .i64 ((rd_T30 l0 x61_3).f0), .int .i64 ((rd_T30 l0 x61_3).f1), .int .i64 ((rd_T30 l0 x61_3).f2), .int .i64 ((rd_T30 l0 x61_3).f3), .int .i64 ((rd_T30 l0 x61_3).f4)]] rfl (by (try simp only [List.map_toArray, List.map_cons, List.map_nil]); first | done | rfl | (simp only [List.length_drop, List.length_take]; first | rfl | (rw [Nat.min_eq_left (Int.toNat_le.2 (of_decide_eq_true (by assumption)))]; rfl))) ?_; (with_reducible refine (event_Write.calls k3 ((rd_T30 l0 x61_3).f0) ((rd_T30 l0 x61_3).f1) ((rd_T30 l0 x61_3).f2) ((rd_T30 l0 x61_3).f3) ((rd_T30 l0 x61_3).f4) t255 t258 _ A26.out).mono ?_); rintro e w47 ⟨v256, rfl, ho0, hb⟩; refine ⟨_, rfl, ?_⟩; have n0_ := Aside0.mk (Kd.R_elder' (by (with_reducible repeat (first | apply Kd.R_alloc | apply Kd.R_drewN | apply Kd.R_drew)); exact (Kd.R_mono (Kd.R_far (p := ⟨gb254, 4, none⟩) (Kd.R_far (p := ⟨gb254, 3, none⟩) (Kd.R_far (p := ⟨gb254, 2, none⟩) (Kd.R_far (p := ⟨gb254, 1, none⟩) (Kd.R_far (p := ⟨gb254, 0, none⟩) (Kd.R_types HO_6.out BK254.out (by decide)) (fun _ hk => hk.2) (.int .i64 ((rd_T30 l0 x61_3).f0))) (fun _ hk => hk.2) (.int .i64 ((rd_T30 l0 x61_3).f1))) (fun _ hk => hk.2) (.int .i64 ((rd_T30 l0 x61_3).f2))) (fun _ hk => hk.2) (.int .i64 ((rd_T30 l0 x61_3).f3))) (fun _ hk => hk.2) (.int .i64 ((rd_T30 l0 x61_3).f4))) (fun _ h_ => h_.1))) (Kd.R_base ho0) hb); have n1_ := Aside0.mk (Kd.R_elder' (by (with_reducible repeat (first | apply Kd.R_alloc | apply Kd.R_drewN | apply Kd.R_drew)); exact (Kd.R_mono (Kd.R_far (p := ⟨gb254, 4, none⟩) (Kd.R_far (p := ⟨gb254, 3, none⟩) (Kd.R_far (p := ⟨gb254, 2, none⟩) (Kd.R_far (p := ⟨gb254, 1, none⟩) (Kd.R_far (p := ⟨gb254, 0, none⟩) (Kd.R_types HO_8.out BK254.out (by decide)) (fun _ hk => hk.2) (.int .i64 ((rd_T30 l0 x61_3).f0))) (fun _ hk => hk.2) (.int .i64 ((rd_T30 l0 x61_3).f1))) (fun _ hk => hk.2) (.int .i64 ((rd_T30 l0 x61_3).f2))) (fun _ hk => hk.2) (.int .i64 ((rd_T30 l0 x61_3).f3))) (fun _ hk => hk.2) (.int .i64 ((rd_T30 l0 x61_3).f4))) (fun _ h_ => h_.1))) (Kd.R_base ho0) hb); have n2_ := Aside0.mk (Kd.R_elder' (by (with_reducible repeat (first | apply Kd.R_alloc | apply Kd.R_drewN | apply Kd.R_drew)); exact (Kd.R_mono (Kd.R_far (p := ⟨gb254, 4, none⟩) (Kd.R_far (p := ⟨gb254, 3, none⟩) (Kd.R_far (p := ⟨gb254, 2, none⟩) (Kd.R_far (p := ⟨gb254, 1, none⟩) (Kd.R_far (p := ⟨gb254, 0, none⟩) (Kd.R_types HO_10.out BK254.out (by decide)) (fun _ hk => hk.2) (.int .i64 ((rd_T30 l0 x61_3).f0))) (fun _ hk => hk.2) (.int .i64 ((rd_T30 l0 x61_3).f1))) (fun _ hk => hk.2) (.int .i64 ((rd_T30 l0 x61_3).f2))) (fun _ hk => hk.2) (.int .i64 ((rd_T30 l0 x61_3).f3))) (fun _ hk => hk.2) (.int .i64 ((rd_T30 l0 x61_3).f4))) (fun _ h_ => h_.1))) (Kd.R_base ho0) hb); have n3_ := Aside0.mk (Kd.R_lower (Kd.R_new' (Kd.R_new' (Kd.R_new' ho0 (Kd.R_lt (by (with_reducible repeat (first | apply Kd.R_alloc | apply Kd.R_drewN | apply Kd.R_drew)); exact (Kd.R_mono (Kd.R_far (p := ⟨gb254, 4, none⟩) (Kd.R_far (p := ⟨gb254, 3, none⟩) (Kd.R_far (p := ⟨gb254, 2, none⟩) (Kd.R_far (p := ⟨gb254, 1, none⟩) (Kd.R_far (p := ⟨gb254, 0, none⟩) (Kd.R_types HO_6.out BK254.out (by decide)) (fun _ hk => hk.2) (.int .i64 ((rd_T30 l0 x61_3).f0))) (fun _ hk => hk.2) (.int .i64 ((rd_T30 l0 x61_3).f1))) (fun _ hk => hk.2) (.int .i64 ((rd_T30 l0 x61_3).f2))) (fun _ hk => hk.2) (.int .i64 ((rd_T30 l0 x61_3).f3))) (fun _ hk => hk.2) (.int .i64 ((rd_T30 l0 x61_3).f4))) (fun _ h_ => h_.1))))) (Kd.R_lt (by (with_reducible repeat (first | apply Kd.R_alloc | apply Kd.R_drewN | apply Kd.R_drew)); exact (Kd.R_mono (Kd.R_far (p := ⟨gb254, 4, none⟩) (Kd.R_far (p := ⟨gb254, 3, none⟩) (Kd.R_far (p := ⟨gb254, 2, none⟩) (Kd.R_far (p := ⟨gb254, 1, none⟩) (Kd.R_far (p := ⟨gb254, 0, none⟩) (Kd.R_types HO_8.out BK254.out (by decide)) (fun _ hk => hk.2) (.int .i64 ((rd_T30 l0 x61_3).f0))) (fun _ hk => hk.2) (.int .i64 ((rd_T30 l0 x61_3).f1))) (fun _ hk => hk.2) (.int .i64 ((rd_T30 l0 x61_3).f2))) (fun _ hk => hk.2) (.int .i64 ((rd_T30 l0 x61_3).f3))) (fun _ hk => hk.2) (.int .i64 ((rd_T30 l0 x61_3).f4))) (fun _ h_ => h_.1))))) (Kd.R_lt (by (with_reducible repeat (first | apply Kd.R_alloc | apply Kd.R_drewN | apply Kd.R_drew)); exact (Kd.R_mono (Kd.R_far (p := ⟨gb254, 4, none⟩) (Kd.R_far (p := ⟨gb254, 3, none⟩) (Kd.R_far (p := ⟨gb254, 2, none⟩) (Kd.R_far (p := ⟨gb254, 1, none⟩) (Kd.R_far (p := ⟨gb254, 0, none⟩) (Kd.R_types HO_10.out BK254.out (by decide)) (fun _ hk => hk.2) (.int .i64 ((rd_T30 l0 x61_3).f0))) (fun _ hk => hk.2) (.int .i64 ((rd_T30 l0 x61_3).f1))) (fun _ hk => hk.2) (.int .i64 ((rd_T30 l0 x61_3).f2))) (fun _ hk => hk.2) (.int .i64 ((rd_T30 l0 x61_3).f3))) (fun _ hk => hk.2) (.int .i64 ((rd_T30 l0 x61_3).f4))) (fun _ h_ => h_.1))))) (below_size (by repeat (first | (with_reducible first | exact HB.out | apply below_alloc | apply pw_below_drewN | apply below_drew1 | refine below_set ?_ GE254.out) | exact HB.out)))); have n4_ := Aside0.mk (blk_below (g := gb254) (o := .cells #[.int .i64 ((rd_T30 l0 x61_3).f0), .int .i64 ((rd_T30 l0 x61_3).f1), .int .i64 ((rd_T30 l0 x61_3).f2), .int .i64 ((rd_T30 l0 x61_3).f3), .int .i64 ((rd_T30 l0 x61_3).f4)] 30 (0, 0)) (by (with_reducible repeat (first | refine blk_drewN ?_ _ | refine blk_drew ?_ | refine blk_alloc ?_ _)); refine blk_put (cs := #[.int .i64 ((rd_T30 l0 x61_3).f0), .int .i64 ((rd_T30 l0 x61_3).f1), .int .i64 ((rd_T30 l0 x61_3).f2), .int .i64 ((rd_T30 l0 x61_3).f3), .int .i64 0]) ?_ 4 _ rfl; (with_reducible repeat (first | refine blk_drewN ?_ _ | refine blk_drew ?_ | refine blk_alloc ?_ _)); refine blk_put (cs := #[.int .i64 ((rd_T30 l0 x61_3).f0), .int .i64 ((rd_T30 l0 x61_3).f1), .int .i64 ((rd_T30 l0 x61_3).f2), .int .i64 0, .int .i64 0]) ?_ 3 _ rfl; (with_reducible repeat (first | refine blk_drewN ?_ _ | refine blk_drew ?_ | refine blk_alloc ?_ _)); refine blk_put (cs := #[.int .i64 ((rd_T30 l0 x61_3).f0), .int .i64 ((rd_T30 l0 x61_3).f1), .int .i64 0, .int .i64 0, .int .i64 0]) ?_ 2 _ rfl; (with_reducible repeat (first | refine blk_drewN ?_ _ | refine blk_drew ?_ | refine blk_alloc ?_ _)); refine blk_put (cs := #[.int .i64 ((rd_T30 l0 x61_3).f0), .int .i64 0, .int .i64 0, .int .i64 0, .int .i64 0]) ?_ 1 _ rfl; (with_reducible repeat (first | refine blk_drewN ?_ _ | refine blk_drew ?_ | refine blk_alloc ?_ _)); refine blk_put (cs := #[.int .i64 0, .int .i64 0, .int .i64 0, .int .i64 0, .int .i64 0]) ?_ 0 _ rfl; (with_reducible repeat (first | refine blk_drewN ?_ _ | refine blk_drew ?_ | refine blk_alloc ?_ _)); exact BK254.out) hb); have n5_ := Aside0.mk (below_step (by repeat (first | (with_reducible first | exact HB.out | apply below_alloc | apply pw_below_drewN | apply below_drew1 | refine below_set ?_ GE254.out) | exact HB.out)) hb); clear HO_6; clear HO_8; clear HO_10; clear BK254; clear HB; have HO_6 := n0_; have HO_8 := n1_; have HO_10 := n2_; have HO257 := n3_; have BK254 := n4_; have HB := n5_; clear n0_ n1_ n2_ n3_ n4_ n5_; (try clear hb); (try clear hb2); (try clear hk); (try clear hi); (try clear ho0); obtain ⟨Ao49, co49, eo49⟩ := Kd.R_slice HO257.out; subst eo49) | ((with_reducible refine gate_builtin (b := .append) (xs := #[.tmp 90, .tmp 91]) rfl ?_); (try (refine gate_guard (by rfl) ?_; dsimp only)); at_builtin; refine Kd.R_append_rows (Kd.int .u8) (w0 := w) w.heap.size rfl (.tmp 90) (.tmp 91) 26 5 (.int .u8 0) 1 rfl Tryd.underlying26 info5 rfl (by decide) (by omega) u10 x10_3 t255 _ _ _ (fun k_ => some k_ ≠ (v232 : Value).ownBlock ∧ some k_ ≠ (v240 : Value).ownBlock ∧ some k_ ≠ (.slice Ao49 t255.length co49 : Value).ownBlock) (fun _ => False) rfl rfl ?aO ?aR (fun _ _ h => h) (fun _ h => h.elim) ?aF ?aB ?aS ?aL ?_; (case aR => repeat (first | exact (Kd.R_reads' HO257.out).2.2 | (with_reducible refine Kd.C_alloc ?_ _) | (with_reducible refine Kd.C_drewN ?_ _) | (with_reducible refine Kd.C_drew ?_))); (case aB => exact (by repeat (first | (with_reducible first | exact HB.out | apply below_alloc | apply pw_below_drewN | apply below_drew1 | refine below_set ?_ GE254.out) | exact HB.out))); (case aF => exact (fun k_ hk => ⟨Kd.fresh' (Kd.R_lt (by (with_reducible repeat (first | apply Kd.R_alloc | apply Kd.R_drewN | apply Kd.R_drew)); exact HO_6.out)) k_ hk, Kd.fresh' (Kd.R_lt (by (with_reducible repeat (first | apply Kd.R_alloc | apply Kd.R_drewN | apply Kd.R_drew)); exact HO_8.out)) k_ hk, Kd.fresh' (Kd.R_lt (by (with_reducible repeat (first | apply Kd.R_alloc | apply Kd.R_drewN | apply Kd.R_drew)); first | exact HO257.out | exact Kd.R_mono HO257.out (fun _ _ => trivial))) k_ hk⟩)); (case aO => exact (by (with_reducible repeat (first | apply Kd.R_alloc | apply Kd.R_drewN | apply Kd.R_drew)); exact Kd.R_mono HO_10.out (fun _ hk => ⟨hk.1.1, ⟨hk.1.2, hk.2⟩⟩))); (case aS => exact (below_size (by repeat (first | (with_reducible first | exact HB.out | apply below_alloc | apply pw_below_drewN | apply below_drew1 | refine below_set ?_ GE254.out) | exact HB.out)))); (case aL => have := LMc44.out; omega); intro v269 w48 ho hb hg hat; rw [← Ny268.out] at ho; have n0_ := Aside0.mk (Kd.R_after (ok := (fun k_ => some k_ ≠ (v240 : Value).ownBlock ∧ some k_ ≠ (.slice Ao49 t255.length co49 : Value).ownBlock)) (by (with_reducible repeat (first | apply Kd.R_alloc | apply Kd.R_drewN | apply Kd.R_drew)); exact Kd.R_mono HO_6.out (fun _ hk => ⟨⟨hk.1.1, hk.2⟩, hk.1.2⟩)) hg hat); have n1_ := Aside0.mk (Kd.R_after (ok := (fun k_ => some k_ ≠ (v232 : Value).ownBlock ∧ some k_ ≠ (.slice Ao49 t255.length co49 : Value).ownBlock)) (by (with_reducible repeat (first | apply Kd.R_alloc | apply Kd.R_drewN | apply Kd.R_drew)); exact Kd.R_mono HO_8.out (fun _ hk => ⟨⟨hk.1.1, hk.2⟩, hk.1.2⟩)) hg hat); have n2_ := Aside0.mk (blk_grown (g := gb254) (o := .cells #[.int .i64 ((rd_T30 l0 x61_3).f0), .int .i64 ((rd_T30 l0 x61_3).f1), .int .i64 ((rd_T30 l0 x61_3).f2), .int .i64 ((rd_T30 l0 x61_3).f3), .int .i64 ((rd_T30 l0 x61_3).f4)] 30 (0, 0)) (by (with_reducible repeat (first | refine blk_drewN ?_ _ | refine blk_drew ?_ | refine blk_alloc ?_ _)); exact BK254.out) hg (Kd.R_ne HO_10.out BK254.out (by decide))); have n3_ := Aside0.mk (Kd.R_after (ok := (fun k_ => some k_ ≠ (v232 : Value).ownBlock ∧ some k_ ≠ (v240 : Value).ownBlock)) (by (with_reducible repeat (first | apply Kd.R_alloc | apply Kd.R_drewN | apply Kd.R_drew)); exact Kd.R_mono HO257.out (fun _ hk => ⟨⟨hk.1.1.2, hk.1.2⟩, hk.2⟩)) hg hat); have n4_ := Aside0.mk (hb); have n5_ := Aside0.mk (ho); clear HO_6; clear HO_8; clear BK254; clear HO257; clear HB; clear HO_10; have HO_6 := n0_; have HO_8 := n1_; have BK254 := n2_; have HO257 := n3_; have HB := n4_; have HO270 := n5_; clear n0_ n1_ n2_ n3_ n4_ n5_; clear ho hb hg hat))
                   go_roundg k3
                   case measure => have := HJ4.out; have := HJ16.out; have := HK3.out; omega
                   case rel => exact ⟨(y268), (wrap64 (x61_3 + 1)), (by first | rfl | (simp; done) | (simp [*]; done)), H', ⟨by have := HJ4.out; have := HJ16.out; have := HK3.out; omega⟩, ⟨by (with_reducible repeat (first | apply Kd.R_alloc | apply Kd.R_drewN | apply Kd.R_drew)); exact Kd.R_mono HO_6.out (fun _ hk => ⟨hk.1.1, hk.2⟩)⟩, ⟨by (with_reducible repeat (first | apply Kd.R_alloc | apply Kd.R_drewN | apply Kd.R_drew)); exact Kd.R_mono HO_8.out (fun _ hk => ⟨hk.1.1, hk.2⟩)⟩, ⟨by (with_reducible repeat (first | apply Kd.R_alloc | apply Kd.R_drewN | apply Kd.R_drew)); exact Kd.R_mono HO270.out (fun _ hk => ⟨hk.1, hk.2.1⟩)⟩, ⟨by repeat (first | (with_reducible first | exact HB.out | apply below_alloc | apply pw_below_drewN | apply below_drew1 | refine below_set ?_ GE254.out) | exact HB.out)⟩⟩
                  ·rw [if_neg c44] at H
                   exact absurd H (by simp)
                ·rw [if_neg c27] at H
                 exact absurd H (by simp)
               ·rw [if_neg c25] at H
                exact absurd H (by simp)
              ·rw [if_neg c24] at H
               exact absurd H (by simp)
             ·rw [if_neg c23] at H
              have c23b0 : decide (x61_3 < (l0.length : Int)) = false := decide_eq_false c23
              clear c23
              obtain ⟨y242, hy242⟩ : ∃ y_ : List Int, y_ = (([IntKind.u64.wrap ((l0.length : Int))] : List Int)) := ⟨_, rfl⟩
              replace H : ((palletref02_Vary.f k3 ([] : List Int) y242).bind fun t245 => (if true = true then (if (t230.length : Int) = (wrap64 ((wrap64 ((wrap64 (5 + (t245.length : Int))) + (x10_3.length : Int))) + 4)) then (if 0 ≤ (wrap64 (5 + (t245.length : Int))) then (if (wrap64 (5 + (t245.length : Int))) ≤ (wrap64 ((t230.length : Int) - 4)) then (if (wrap64 ((t230.length : Int) - 4)) ≤ (t230.length : Int) then ((palletref02_Same.f ((t230.take ((wrap64 ((t230.length : Int) - 4)) : Int).toNat).drop ((wrap64 (5 + (t245.length : Int))) : Int).toNat) x10_3).bind fun t252 => (some t252)) else (none)) else (none)) else (none)) else (none)) else (none))) = some r := by first | (rw [hy242]; with_reducible exact H) | (have H2_ := (Option.bind_some _ _).symm.trans H; rw [hy242]; with_reducible exact H2_) | (have H2_ := (Option.bind_some _ _).symm.trans H; with_reducible exact H2_) | with_reducible exact H | (rw [hy242]; exact H) | exact H
              have Ny242 := Aside0.mk hy242
              clear hy242
              replace H := Option.bind_eq_some_iff.mp H
              obtain ⟨t245, A500, H⟩ := H
              replace H : (if true = true then (if (t230.length : Int) = (wrap64 ((wrap64 ((wrap64 (5 + (t245.length : Int))) + (x10_3.length : Int))) + 4)) then (if 0 ≤ (wrap64 (5 + (t245.length : Int))) then (if (wrap64 (5 + (t245.length : Int))) ≤ (wrap64 ((t230.length : Int) - 4)) then (if (wrap64 ((t230.length : Int) - 4)) ≤ (t230.length : Int) then ((palletref02_Same.f ((t230.take ((wrap64 ((t230.length : Int) - 4)) : Int).toNat).drop ((wrap64 (5 + (t245.length : Int))) : Int).toNat) x10_3).bind fun t252 => (some t252)) else (none)) else (none)) else (none)) else (none)) else (none)) = some r := H
              have A50 := Aside0.mk A500
              clear A500
              have H1 : (if (t230.length : Int) = (wrap64 ((wrap64 ((wrap64 (5 + (t245.length : Int))) + (x10_3.length : Int))) + 4)) then (if 0 ≤ (wrap64 (5 + (t245.length : Int))) then (if (wrap64 (5 + (t245.length : Int))) ≤ (wrap64 ((t230.length : Int) - 4)) then (if (wrap64 ((t230.length : Int) - 4)) ≤ (t230.length : Int) then ((palletref02_Same.f ((t230.take ((wrap64 ((t230.length : Int) - 4)) : Int).toNat).drop ((wrap64 (5 + (t245.length : Int))) : Int).toNat) x10_3).bind fun t252 => (some t252)) else (none)) else (none)) else (none)) else (none)) = some r := by first | (rw [if_pos rfl] at H; exact H) | exact H
              clear H
              have H := H1
              clear H1
              by_cases c51 : (t230.length : Int) = (wrap64 ((wrap64 ((wrap64 (5 + (t245.length : Int))) + (x10_3.length : Int))) + 4))
              ·rw [if_pos c51] at H
               have c51b0 : ((t230.length : Int) == (wrap64 ((wrap64 ((wrap64 (5 + (t245.length : Int))) + (x10_3.length : Int))) + 4))) = true := beq_iff_eq.mpr c51
               have c51b1 : ((t230.length : Int) != (wrap64 ((wrap64 ((wrap64 (5 + (t245.length : Int))) + (x10_3.length : Int))) + 4))) = false := bne_eq_false_iff_eq.mpr c51
               clear c51
               obtain ⟨ji52, hji52⟩ : ∃ j_ : Int, (wrap64 (5 + (t245.length : Int))) = j_ := ⟨_, rfl⟩
               replace H : (if 0 ≤ (ji52) then (if (ji52) ≤ (wrap64 ((t230.length : Int) - 4)) then (if (wrap64 ((t230.length : Int) - 4)) ≤ (t230.length : Int) then ((palletref02_Same.f ((t230.take ((wrap64 ((t230.length : Int) - 4)) : Int).toNat).drop ((ji52) : Int).toNat) x10_3).bind fun t252 => (some t252)) else (none)) else (none)) else (none)) = some r := by first | (rw [hji52] at H; exact H) | (simp only [hji52] at H ⊢; exact H)
               (try rw [hji52] at c51b0)
               (try rw [hji52] at c51b1)
               (try rw [hji52] at A50)
               have hji52w : (IntKind.i64.wrap (5 + (t245.length : Int))) = ji52 := (i64_w _).trans hji52
               by_cases c53 : 0 ≤ (ji52)
               ·rw [if_pos c53] at H
                have c53b0 := eq_true c53
                have c53b1 : decide (0 ≤ (ji52)) = true := decide_eq_true c53
                clear c53
                by_cases c54 : (ji52) ≤ (wrap64 ((t230.length : Int) - 4))
                ·rw [if_pos c54] at H
                 have c54b0 := eq_true c54
                 have c54b1 : decide ((ji52) ≤ (wrap64 ((t230.length : Int) - 4))) = true := decide_eq_true c54
                 clear c54
                 by_cases c55 : (wrap64 ((t230.length : Int) - 4)) ≤ (t230.length : Int)
                 ·rw [if_pos c55] at H
                  have c55b0 := eq_true c55
                  have c55b1 : decide ((wrap64 ((t230.length : Int) - 4)) ≤ (t230.length : Int)) = true := decide_eq_true c55
                  clear c55
                  obtain ⟨y248, hy248⟩ : ∃ y_ : List Int, y_ = ((t230.take ((wrap64 ((t230.length : Int) - 4)) : Int).toNat).drop ((ji52) : Int).toNat) := ⟨_, rfl⟩
                  replace H : ((palletref02_Same.f y248 x10_3).bind fun t252 => (some t252)) = some r := by first | (rw [hy248]; with_reducible exact H) | (have H2_ := (Option.bind_some _ _).symm.trans H; rw [hy248]; with_reducible exact H2_) | (have H2_ := (Option.bind_some _ _).symm.trans H; with_reducible exact H2_) | with_reducible exact H | (rw [hy248]; exact H) | exact H
                  have Ny248 := Aside0.mk hy248
                  clear hy248
                  replace H := Option.bind_eq_some_iff.mp H
                  obtain ⟨t252, A560, H⟩ := H
                  replace H : (some t252) = some r := H
                  have A56 := Aside0.mk A560
                  clear A560
                  obtain rfl := Option.some.inj H
                  go_wp2_with (first | ((with_reducible refine gate_dst (N := 97) rfl ?_); (try (refine gate_guard (by rfl) ?_; dsimp only)); refine Kd.R_lit (Kd.int .u64) _ 33 ?hg (N := 97) ?hd (xs := ([IntKind.u64.wrap ((l0.length : Int))] : List Int)) (inner := [.int .u64 (IntKind.u64.wrap ((l0.length : Int)))]) (ok := fun _ => True) (okp := fun _ => True) ?hr ?hp (fun _ hk => hk) trivial (Below.refl _ _) (Nat.le_refl _) (by simp) ?_; (case hd => rfl); (case hg => rfl); (case hr => first | (go_simp; done) | (go_simp; rfl)); (case hp => exact (Reps.one (show Kd.M (Kd.int .u64) _ _ _ (IntKind.u64.wrap ((l0.length : Int))) [.int .u64 (IntKind.u64.wrap ((l0.length : Int)))] from rfl) (Reps.none _ _))); intro v243 w57 ho58 hb hg_ hnew_; clear hg_ hnew_; (first | rw [← Ny242.out] at ho58 | (simp only [Int.reduceToNat] at ho58; rw [← Ny242.out] at ho58)); have n0_ := Aside0.mk (Kd.R_below (by (with_reducible repeat (first | apply Kd.R_alloc | apply Kd.R_drewN | apply Kd.R_drew)); exact HO_6.out) hb); have n1_ := Aside0.mk (Kd.R_below (by (with_reducible repeat (first | apply Kd.R_alloc | apply Kd.R_drewN | apply Kd.R_drew)); exact HO_8.out) hb); have n2_ := Aside0.mk (Kd.R_below (by (with_reducible repeat (first | apply Kd.R_alloc | apply Kd.R_drewN | apply Kd.R_drew)); exact HO_10.out) hb); have n3_ := Aside0.mk (Kd.R_lower ho58 (below_size (by repeat (first | (with_reducible first | exact HB.out | apply below_alloc | apply pw_below_drewN | apply below_drew1) | exact HB.out)))); have n4_ := Aside0.mk (below_step (by repeat (first | (with_reducible first | exact HB.out | apply below_alloc | apply pw_below_drewN | apply below_drew1) | exact HB.out)) hb); clear HO_6; clear HO_8; clear HO_10; clear HB; have HO_6 := n0_; have HO_8 := n1_; have HO_10 := n2_; have HO244 := n3_; have HB := n4_; clear n0_ n1_ n2_ n3_ n4_; clear hb ho58; obtain ⟨Ao59, co59, eo59⟩ := Kd.R_slice HO244.out; subst eo59) | ((with_reducible refine gate_callee (f := 14) rfl ?_); refine goesL_ (some 98) rfl rfl Tryd.func14 (by kernel_rfl) rfl #[.slice none 0 0, .slice Ao59 y242.length co59] rfl (by (try simp only [List.map_toArray, List.map_cons, List.map_nil]); first | done | rfl | (simp only [List.length_drop, List.length_take]; first | rfl | (rw [Nat.min_eq_left (Int.toNat_le.2 (of_decide_eq_true (by assumption)))]; rfl))) ?_; (refine (palletref02_Vary.calls k3 _ _ ([] : List Int) _ _ y242 t245 _ ?side1 ?side2 ?side3 ?side4 A50.out).mono ?_); (case side1 => exact Kd.C_nil _ _); (case side2 => exact Nat.le_refl _); (case side3 => repeat (first | exact (Kd.R_reads' HO244.out).2.2 | (with_reducible refine Kd.C_alloc ?_ _) | (with_reducible refine Kd.C_drewN ?_ _) | (with_reducible refine Kd.C_drew ?_))); (case side4 => exact (Kd.R_reads' HO244.out).2.1); rintro e w60 ⟨v246, rfl, ho0, hb⟩; refine ⟨_, rfl, ?_⟩; have n0_ := Aside0.mk (Kd.R_elder' (by (with_reducible repeat (first | apply Kd.R_alloc | apply Kd.R_drewN | apply Kd.R_drew)); exact HO_6.out) (Kd.R_base ho0) hb); have n1_ := Aside0.mk (Kd.R_elder' (by (with_reducible repeat (first | apply Kd.R_alloc | apply Kd.R_drewN | apply Kd.R_drew)); exact HO_8.out) (Kd.R_base ho0) hb); have n2_ := Aside0.mk (Kd.R_elder' (by (with_reducible repeat (first | apply Kd.R_alloc | apply Kd.R_drewN | apply Kd.R_drew)); exact HO_10.out) (Kd.R_base ho0) hb); have n3_ := Aside0.mk (Kd.R_below (by (with_reducible repeat (first | apply Kd.R_alloc | apply Kd.R_drewN | apply Kd.R_drew)); first | exact HO244.out | exact Kd.R_mono HO244.out (fun _ _ => trivial)) hb); have n4_ := Aside0.mk (Kd.R_lower (Kd.R_new' (Kd.R_new' (Kd.R_new' ho0 (Kd.R_lt (by (with_reducible repeat (first | apply Kd.R_alloc | apply Kd.R_drewN | apply Kd.R_drew)); exact HO_6.out))) (Kd.R_lt (by (with_reducible repeat (first | apply Kd.R_alloc | apply Kd.R_drewN | apply Kd.R_drew)); exact HO_8.out))) (Kd.R_lt (by (with_reducible repeat (first | apply Kd.R_alloc | apply Kd.R_drewN | apply Kd.R_drew)); exact HO_10.out))) (below_size (by repeat (first | (with_reducible first | exact HB.out | apply below_alloc | apply pw_below_drewN | apply below_drew1) | exact HB.out)))); have n5_ := Aside0.mk (below_step (by repeat (first | (with_reducible first | exact HB.out | apply below_alloc | apply pw_below_drewN | apply below_drew1) | exact HB.out)) hb); clear HO_6; clear HO_8; clear HO_10; clear HO244; clear HB; have HO_6 := n0_; have HO_8 := n1_; have HO_10 := n2_; have HO244 := n3_; have HO247 := n4_; have HB := n5_; clear n0_ n1_ n2_ n3_ n4_ n5_; (try clear hb); (try clear hb2); (try clear hk); (try clear hi); (try clear ho0); obtain ⟨Ao61, co61, eo61⟩ := Kd.R_slice HO247.out; subst eo61; obtain ⟨Ao62, co62, eo62⟩ := Kd.R_slice HO_6.out; subst eo62; obtain ⟨Ao63, co63, eo63⟩ := Kd.R_slice HO_10.out; subst eo63; have q64 : ((wrap64 ((t230.length : Int) - 4)) : Int) ≤ ((t230.length : Int) : Int) := of_decide_eq_true (by first | (with_reducible assumption) | assumption); obtain ⟨i064, hi064, _, hsz64, _⟩ := info_parts info5; have hroom64 : t230.length ≤ co62 := (Kd.R_reads' HO_6.out).2.1; have hC64 : Kd.C (Kd.int .u8) _ Ao62 t230.length t230 := (Kd.R_reads' HO_6.out).2.2; have ql64 : ((ji52) : Int) ≤ ((wrap64 ((t230.length : Int) - 4)) : Int) := of_decide_eq_true (by first | (with_reducible assumption) | assumption); have q064 : (0 : Int) ≤ ((ji52) : Int) := of_decide_eq_true (by first | (with_reducible assumption) | assumption); have hcut64 := cut_mid (P := Tryd.prog) 26 5 .i64 .i64 Tryd.underlying26 hi064 1 hsz64 Ao62 t230.length co62 (ji52) (wrap64 ((t230.length : Int) - 4)) q064 ql64 q64 hroom64; have hr64 := Kd.C_mid (lo := ((ji52) : Int).toNat) (hi := ((wrap64 ((t230.length : Int) - 4)) : Int).toNat) (c := co62) hC64 (by omega) (by omega) hroom64; obtain ⟨A64, hA64⟩ : ∃ A1, A1 = (if co62 = ((ji52) : Int).toNat then Ao62 else (Ao62 : Option Addr).map (·.add (((ji52) : Int).toNat * 1))) := ⟨_, rfl⟩; obtain ⟨c64, hc64⟩ : ∃ c1, c1 = co62 - ((ji52) : Int).toNat := ⟨_, rfl⟩; have hy64 : y248.length = ((wrap64 ((t230.length : Int) - 4)) : Int).toNat - ((ji52) : Int).toNat := (by rw [Ny248.out, List.length_drop, List.length_take] <;> omega); rw [show ((t230).take ((wrap64 ((t230.length : Int) - 4)) : Int).toNat).drop ((ji52) : Int).toNat = y248 from Ny248.out.symm] at hr64; replace hr64 : Kd.C (Kd.int .u8) _ A64 y248.length y248 := (by rw [hA64]; exact hr64); rw [← hy64, ← hA64, ← hc64] at hcut64; have HR251 := Aside0.mk hr64; have HC251 := Aside0.mk (show y248.length ≤ c64 from by rw [hy64, hc64]; exact Nat.sub_le_sub_right (Nat.le_trans (by omega) hroom64) _); clear hr64 hC64 hroom64 hi064 hsz64 hc64; have KY64 := Aside0.mk hy64; have KA64 := Aside0.mk hA64; clear hy64 hA64; have KL64 := Aside0.mk (show ((wrap64 ((t230.length : Int) - 4)) : Int).toNat ≤ t230.length from by omega); have KM64 := Aside0.mk (show ((ji52) : Int).toNat ≤ ((wrap64 ((t230.length : Int) - 4)) : Int).toNat from by omega); replace q64 := eq_true q64) | (go_at_call 15; (with_reducible refine (palletref02_Same.calls _ _ y248 _ _ x10_3 t252 _ ?side1 ?side2 ?side3 ?side4 A56.out).mono ?_); (case side1 => repeat (first | exact (by repeat (first | (with_reducible exact HR251.out) | (with_reducible refine Kd.C_alloc ?_ _) | (with_reducible refine Kd.C_drewN ?_ _) | (with_reducible refine Kd.C_drew ?_) | exact HR251.out)) | (with_reducible refine Kd.C_alloc ?_ _) | (with_reducible refine Kd.C_drewN ?_ _) | (with_reducible refine Kd.C_drew ?_))); (case side2 => exact HC251.out); (case side3 => repeat (first | exact (Kd.R_reads' HO_10.out).2.2 | (with_reducible refine Kd.C_alloc ?_ _) | (with_reducible refine Kd.C_drewN ?_ _) | (with_reducible refine Kd.C_drew ?_))); (case side4 => exact (Kd.R_reads' HO_10.out).2.1); rintro e w' ⟨rfl, ⟨nd, rfl⟩⟩))
                  go_ret
                  exact ⟨by first | rfl | (simp [errW_none, errW_some] <;> rfl) | (simp only [← hji13, ← hji52]; first | rfl | (simp [errW_none, errW_some] <;> rfl)) | (simp [*, errW_none, errW_some] <;> rfl), by repeat (first | (with_reducible first | exact HB.out | apply below_alloc | apply pw_below_drewN | apply below_drew1) | exact HB.out)⟩
                 ·rw [if_neg c55] at H
                  exact absurd H (by simp)
                ·rw [if_neg c54] at H
                 exact absurd H (by simp)
               ·rw [if_neg c53] at H
                exact absurd H (by simp)
              ·rw [if_neg c51] at H
               exact absurd H (by simp)
       ·rw [if_neg c15] at H
        exact absurd H (by simp)
      ·rw [if_neg c14] at H
       exact absurd H (by simp)
 ·replace c4 := Bool.eq_false_iff.mpr c4
  subst c4
  have H1 : (none) = some r := by rw [if_neg (show ¬ (false = true) by decide)] at H; exact H
  clear H
  have H := H1
  clear H1
  exact absurd H (by simp)

end Go.Proofs.YtcbjbgleflbpmaaDoor.Print
