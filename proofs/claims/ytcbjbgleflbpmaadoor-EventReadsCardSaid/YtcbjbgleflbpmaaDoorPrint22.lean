-- PRINTED by print.py (a twelfth state) out of the translation. Not trusted: Lean checks it.
import Derived.Test.YtcbjbgleflbpmaaDoorPrint0
import Derived.Test.YtcbjbgleflbpmaaDoorPrint15
import Derived.Test.YtcbjbgleflbpmaaDoorPrint17
import Derived.Test.YtcbjbgleflbpmaaDoorPrint21
namespace Go.Proofs.YtcbjbgleflbpmaaDoor.Print
open Go.RowKit Go.Proofs.YtcbjbgleflbpmaaDoorW.PrintWords Go.Proofs.YtcbjbgleflbpmaaDoorW.PrintLast Go.Proofs.YtcbjbgleflbpmaaDoorW.PrintMore Go.Proofs.YtcbjbgleflbpmaaDoorX
attribute [local go_sem] str_lss str_geq max2_int min2_int max_two min_two max_three min_three max_four min_four   -- for this text's walks alone
set_option linter.unusedVariables false
set_option linter.unusedSimpArgs false

/-! ### palletref19_Decode: function 25 -/
mutual
def palletref19_Decode.j0 : Nat → List Int → Bool → Option ((List (S30)) × Int × Int)
 | 0, _, _ => none
 | k + 1, x5, x29 => if x29 = true then (some (([] : List (S30)), 0, 4)) else ((palletref02_TakeVary.f k x5 5).bind fun bt338 => (if bt338.2.2 = 0 then (if bt338.1 > 20000 then (some (([] : List (S30)), 5, 4)) else (palletref19_Decode.l0 k x5 bt338.2.1 ([] : List (S30)) bt338.1 0)) else (some (([] : List (S30)), 5, bt338.2.2))))
def palletref19_Decode.l0 : Nat → List Int → Int → List (S30) → Int → Int → Option ((List (S30)) × Int × Int)
 | 0, _, _, _, _, _ => none
 | k + 1, x5, x8, x9, x41, x42 => if x42 < x41 then ((palletref19_Read.f k x5 x8).bind fun bt341 => (if bt341.2.2.2.2.2.2 = 0 then (if (x9.length : Int) > 0 then (if 0 ≤ (wrap64 ((x9.length : Int) - 1)) then (if (wrap64 ((x9.length : Int) - 1)) < (x9.length : Int) then (palletref19_Decode.j2 k x5 x8 x9 bt341.2.2.2.2.2.1 x41 x42 (decide (bt341.1 < ((rd_T30 x9 (wrap64 ((x9.length : Int) - 1))).f0))) bt341.1 bt341.2.1 bt341.2.2.1 bt341.2.2.2.1 bt341.2.2.2.2.1) else (none)) else (none)) else (palletref19_Decode.j2 k x5 x8 x9 bt341.2.2.2.2.2.1 x41 x42 false bt341.1 bt341.2.1 bt341.2.2.1 bt341.2.2.2.1 bt341.2.2.2.2.1)) else (some (([] : List (S30)), x8, bt341.2.2.2.2.2.2)))) else (if x8 = (x5.length : Int) then (some (x9, 0, 0)) else (some (([] : List (S30)), x8, 4)))
def palletref19_Decode.j2 : Nat → List Int → Int → List (S30) → Int → Int → Int → Bool → Int → Int → Int → Int → Int → Option ((List (S30)) × Int × Int)
 | 0, _, _, _, _, _, _, _, _, _, _, _, _ => none
 | k + 1, x5, x8, x9, x11, x41, x42, x69, x349000, x349001, x349002, x349003, x349004 => if x69 = true then (some (([] : List (S30)), x8, 4)) else (if x9.length < 3518437208883 then (palletref19_Decode.l0 k x5 x11 (x9 ++ [(⟨x349000, x349001, x349002, x349003, x349004⟩ : S30)]) x41 (IntKind.u64.wrap (x42 + 1))) else (none))
end
def palletref19_Decode.f (k : Nat) (l0 : List Int) : Option ((List (S30)) × Int × Int) := (palletref03_Open32.f k l0).bind fun bt330 => (if bt330.2 = 0 then (if (bt330.1.length : Int) < 5 then (palletref19_Decode.j0 k bt330.1 true) else (if 5 ≤ (bt330.1.length : Int) then (palletref19_Decode.j0 k bt330.1 ((strOfNums (bt330.1.take 5)).toList != ([80, 76, 84, 76, 1] : List UInt8))) else (none))) else (some (([] : List (S30)), 0, bt330.2)))
theorem palletref19_Decode.mono_l : ∀ k, (∀ y0 y1, LeO (palletref19_Decode.j0 k y0 y1) (palletref19_Decode.j0 (k + 1) y0 y1)) ∧ (∀ y0 y1 y2 y3 y4, LeO (palletref19_Decode.l0 k y0 y1 y2 y3 y4) (palletref19_Decode.l0 (k + 1) y0 y1 y2 y3 y4)) ∧ (∀ y0 y1 y2 y3 y4 y5 y6 y7 y8 y9 y10 y11, LeO (palletref19_Decode.j2 k y0 y1 y2 y3 y4 y5 y6 y7 y8 y9 y10 y11) (palletref19_Decode.j2 (k + 1) y0 y1 y2 y3 y4 y5 y6 y7 y8 y9 y10 y11))
 | 0 => ⟨fun _ _ r h => by simp [palletref19_Decode.j0] at h, fun _ _ _ _ _ r h => by simp [palletref19_Decode.l0] at h, fun _ _ _ _ _ _ _ _ _ _ _ _ r h => by simp [palletref19_Decode.j2] at h⟩
 | k + 1 => by
  obtain ⟨ih0, ih1, ih2⟩ := palletref19_Decode.mono_l k
  refine ⟨?_, ?_, ?_⟩
  ·intro y0 y1
   unfold palletref19_Decode.j0
   repeat' first
   | (with_reducible exact ih0 _ _)
   | (with_reducible exact ih1 _ _ _ _ _)
   | (with_reducible exact ih2 _ _ _ _ _ _ _ _ _ _ _ _)
   | (with_reducible exact palletref02_TakeVary.mono _ _ _)
   | (with_reducible exact palletref03_Open32.mono _ _)
   | (with_reducible exact palletref19_Read.mono _ _ _)
   | (with_reducible exact LeO.refl _)
   | (with_reducible exact LeO.none _)
   | (with_reducible refine LeO.ite ?_ ?_)
   | (with_reducible refine LeO.bind ?_ (fun _ => ?_))
   | exact ih0 _ _
   | exact ih1 _ _ _ _ _
   | exact ih2 _ _ _ _ _ _ _ _ _ _ _ _
   | exact palletref02_TakeVary.mono _ _ _
   | exact palletref03_Open32.mono _ _
   | exact palletref19_Read.mono _ _ _
   | exact LeO.none _
   | refine LeO.ite ?_ ?_
   | refine LeO.bind ?_ (fun _ => ?_)
  ·intro y0 y1 y2 y3 y4
   unfold palletref19_Decode.l0
   repeat' first
   | (with_reducible exact ih0 _ _)
   | (with_reducible exact ih1 _ _ _ _ _)
   | (with_reducible exact ih2 _ _ _ _ _ _ _ _ _ _ _ _)
   | (with_reducible exact palletref02_TakeVary.mono _ _ _)
   | (with_reducible exact palletref03_Open32.mono _ _)
   | (with_reducible exact palletref19_Read.mono _ _ _)
   | (with_reducible exact LeO.refl _)
   | (with_reducible exact LeO.none _)
   | (with_reducible refine LeO.ite ?_ ?_)
   | (with_reducible refine LeO.bind ?_ (fun _ => ?_))
   | exact ih0 _ _
   | exact ih1 _ _ _ _ _
   | exact ih2 _ _ _ _ _ _ _ _ _ _ _ _
   | exact palletref02_TakeVary.mono _ _ _
   | exact palletref03_Open32.mono _ _
   | exact palletref19_Read.mono _ _ _
   | exact LeO.none _
   | refine LeO.ite ?_ ?_
   | refine LeO.bind ?_ (fun _ => ?_)
  ·intro y0 y1 y2 y3 y4 y5 y6 y7 y8 y9 y10 y11
   unfold palletref19_Decode.j2
   repeat' first
   | (with_reducible exact ih0 _ _)
   | (with_reducible exact ih1 _ _ _ _ _)
   | (with_reducible exact ih2 _ _ _ _ _ _ _ _ _ _ _ _)
   | (with_reducible exact palletref02_TakeVary.mono _ _ _)
   | (with_reducible exact palletref03_Open32.mono _ _)
   | (with_reducible exact palletref19_Read.mono _ _ _)
   | (with_reducible exact LeO.refl _)
   | (with_reducible exact LeO.none _)
   | (with_reducible refine LeO.ite ?_ ?_)
   | (with_reducible refine LeO.bind ?_ (fun _ => ?_))
   | exact ih0 _ _
   | exact ih1 _ _ _ _ _
   | exact ih2 _ _ _ _ _ _ _ _ _ _ _ _
   | exact palletref02_TakeVary.mono _ _ _
   | exact palletref03_Open32.mono _ _
   | exact palletref19_Read.mono _ _ _
   | exact LeO.none _
   | refine LeO.ite ?_ ?_
   | refine LeO.bind ?_ (fun _ => ?_)
theorem palletref19_Decode.mono : ∀ a0 k, LeO (palletref19_Decode.f k a0) (palletref19_Decode.f (k + 1) a0) := by
 intro a0 k
 obtain ⟨ih0, ih1, ih2⟩ := palletref19_Decode.mono_l k
 unfold palletref19_Decode.f
 repeat' first
   | (with_reducible exact ih0 _ _)
   | (with_reducible exact ih1 _ _ _ _ _)
   | (with_reducible exact ih2 _ _ _ _ _ _ _ _ _ _ _ _)
   | (with_reducible exact palletref02_TakeVary.mono _ _ _)
   | (with_reducible exact palletref03_Open32.mono _ _)
   | (with_reducible exact palletref19_Read.mono _ _ _)
   | (with_reducible exact LeO.refl _)
   | (with_reducible exact LeO.none _)
   | (with_reducible refine LeO.ite ?_ ?_)
   | (with_reducible refine LeO.bind ?_ (fun _ => ?_))
   | exact ih0 _ _
   | exact ih1 _ _ _ _ _
   | exact ih2 _ _ _ _ _ _ _ _ _ _ _ _
   | exact palletref02_TakeVary.mono _ _ _
   | exact palletref03_Open32.mono _ _
   | exact palletref19_Read.mono _ _ _
   | exact LeO.none _
   | refine LeO.ite ?_ ?_
   | refine LeO.bind ?_ (fun _ => ?_)
set_option maxHeartbeats 8000000 in
set_option maxRecDepth 100000 in
theorem palletref19_Decode.calls (k : Nat) (A0 : Option Addr) (c0 : Nat) (l0 : List Int) (r1 : List (S30)) (r2 : Int) (r3 : Int) (w : World) (hr0 : Kd.C (Kd.int .u8) w A0 l0.length l0) (hc0 : l0.length ≤ c0) (h : palletref19_Decode.f k l0 = some (r1, r2, r3)) :
  Calls Tryd.prog 25 #[.slice A0 l0.length c0] w fun e w' => ∃ v0_ : Value, e = .returned (.tuple #[v0_, .int .i64 r2, .int .i64 r3]) ∧ Kd.R k30 30 w' w.heap.size (fun _ => True) v0_ r1 ∧ Below w.heap.size w w' := by
 have hu30 := Tryd.underlying30
 have HR0 := Aside0.mk hr0
 have HC0 := Aside0.mk hc0
 clear hr0 hc0
 have HB := Aside0.mk (Below.refl w.heap.size w)
 have H : ((palletref03_Open32.f k l0).bind fun bt330 => (if bt330.2 = 0 then (if (bt330.1.length : Int) < 5 then (palletref19_Decode.j0 k bt330.1 true) else (if 5 ≤ (bt330.1.length : Int) then (palletref19_Decode.j0 k bt330.1 ((strOfNums (bt330.1.take 5)).toList != ([80, 76, 84, 76, 1] : List UInt8))) else (none))) else (some (([] : List (S30)), 0, bt330.2)))) = some (r1, r2, r3) := h
 clear h
 replace H := Option.bind_eq_some_iff.mp H
 obtain ⟨⟨t330, t331⟩, A20, H⟩ := H
 replace H : (if t331 = 0 then (if (t330.length : Int) < 5 then (palletref19_Decode.j0 k t330 true) else (if 5 ≤ (t330.length : Int) then (palletref19_Decode.j0 k t330 ((strOfNums (t330.take 5)).toList != ([80, 76, 84, 76, 1] : List UInt8))) else (none))) else (some (([] : List (S30)), 0, t331))) = some (r1, r2, r3) := H
 have A2 := Aside0.mk A20
 clear A20
 by_cases c3 : t331 = 0
 ·rw [if_pos c3] at H
  have c3b0 : (t331 == 0) = true := beq_iff_eq.mpr c3
  have c3b1 : (t331 != 0) = false := bne_eq_false_iff_eq.mpr c3
  clear c3
  have HC4 := Aside0.mk H
  clear H
  go_enter Tryd.func25, Tryd.ntmps25
  go_upto_region 4 with (first | (go_at_call 54; (with_reducible refine (palletref03_Open32.calls k _ _ l0 t330 t331 _ ?side1 ?side2 A2.out).mono ?_); (case side1 => repeat (first | exact HR0.out | (with_reducible refine Kd.C_alloc ?_ _) | (with_reducible refine Kd.C_drewN ?_ _) | (with_reducible refine Kd.C_drew ?_))); (case side2 => exact HC0.out); rintro e w5 ⟨v332, rfl, ho0, hb⟩; have n0_ := Aside0.mk (Kd.R_lower ho0 (below_size (by repeat (first | (with_reducible first | exact HB.out | apply below_alloc | apply pw_below_drewN | apply below_drew1) | exact HB.out)))); have n1_ := Aside0.mk (below_step (by repeat (first | (with_reducible first | exact HB.out | apply below_alloc | apply pw_below_drewN | apply below_drew1) | exact HB.out)) hb); clear HB; have HO333 := n0_; have HB := n1_; clear n0_ n1_; (try clear hb); (try clear hb2); (try clear hk); (try clear hi); (try clear ho0)))
  repeat (go_quiet (first | (go_at_call 54; (with_reducible refine (palletref03_Open32.calls k _ _ l0 t330 t331 _ ?side1 ?side2 A2.out).mono ?_); (case side1 => repeat (first | exact HR0.out | (with_reducible refine Kd.C_alloc ?_ _) | (with_reducible refine Kd.C_drewN ?_ _) | (with_reducible refine Kd.C_drew ?_))); (case side2 => exact HC0.out); rintro e w5 ⟨v332, rfl, ho0, hb⟩; have n0_ := Aside0.mk (Kd.R_lower ho0 (below_size (by repeat (first | (with_reducible first | exact HB.out | apply below_alloc | apply pw_below_drewN | apply below_drew1) | exact HB.out)))); have n1_ := Aside0.mk (below_step (by repeat (first | (with_reducible first | exact HB.out | apply below_alloc | apply pw_below_drewN | apply below_drew1) | exact HB.out)) hb); clear HB; have HO333 := n0_; have HB := n1_; clear n0_ n1_; (try clear hb); (try clear hb2); (try clear hk); (try clear hi); (try clear ho0))); go_upto_region 4 with (first | (go_at_call 54; (with_reducible refine (palletref03_Open32.calls k _ _ l0 t330 t331 _ ?side1 ?side2 A2.out).mono ?_); (case side1 => repeat (first | exact HR0.out | (with_reducible refine Kd.C_alloc ?_ _) | (with_reducible refine Kd.C_drewN ?_ _) | (with_reducible refine Kd.C_drew ?_))); (case side2 => exact HC0.out); rintro e w5 ⟨v332, rfl, ho0, hb⟩; have n0_ := Aside0.mk (Kd.R_lower ho0 (below_size (by repeat (first | (with_reducible first | exact HB.out | apply below_alloc | apply pw_below_drewN | apply below_drew1) | exact HB.out)))); have n1_ := Aside0.mk (below_step (by repeat (first | (with_reducible first | exact HB.out | apply below_alloc | apply pw_below_drewN | apply below_drew1) | exact HB.out)) hb); clear HB; have HO333 := n0_; have HB := n1_; clear n0_ n1_; (try clear hb); (try clear hb2); (try clear hk); (try clear hi); (try clear ho0))))
  (try simp only [Act.put, List.setIfInBounds_toArray, List.set_cons_zero, List.set_cons_succ])
  go_cut [29] (fun v29 wc => ∃ (kq : Nat) (x29_3 : Bool), v29 = .bool x29_3 ∧ Aside0 (palletref19_Decode.j0 kq t330 x29_3 = some (r1, r2, r3)) ∧ Aside0 (kq ≤ k) ∧ Aside0 (Kd.R (Kd.int .u8) 5 wc w.heap.size (fun _ => True) v332 t330) ∧ Aside0 (Below w.heap.size w wc))
  case first =>
   have H := HC4.out
   clear HC4
   by_cases c6 : (t330.length : Int) < 5
   ·rw [if_pos c6] at H
    have c6b0 : decide ((t330.length : Int) < 5) = true := decide_eq_true c6
    have c6b1 : decide (t330.length < 5) = true := decide_eq_true (by omega)
    clear c6
    (first | rw [c6b0] | (simp only [i64_w, i32_w]; rw [c6b0]) | skip)
    have H' := Aside0.mk H
    clear H
    obtain ⟨Ao7, co7, eo7⟩ := Kd.R_slice HO333.out
    subst eo7
    go_wp2
    repeat (go_quiet (fail); try go_wp2)
    go_meet
    case rel => exact ⟨_, (true), (by first | rfl | (simp; done) | (simp [*]; done)), H', ⟨by first | omega | exact Nat.le_refl _⟩, ⟨by (with_reducible repeat (first | apply Kd.R_alloc | apply Kd.R_drewN | apply Kd.R_drew)); exact HO333.out⟩, ⟨by repeat (first | (with_reducible first | exact HB.out | apply below_alloc | apply pw_below_drewN | apply below_drew1) | exact HB.out)⟩⟩
   ·rw [if_neg c6] at H
    have c6b0 : decide ((t330.length : Int) < 5) = false := decide_eq_false c6
    have c6b1 : decide (t330.length < 5) = false := decide_eq_false (by omega)
    clear c6
    (first | rw [c6b0] | (simp only [i64_w, i32_w]; rw [c6b0]) | skip)
    by_cases c8 : 5 ≤ (t330.length : Int)
    ·rw [if_pos c8] at H
     have c8b0 := eq_true c8
     have c8b1 : decide (5 ≤ (t330.length : Int)) = true := decide_eq_true c8
     clear c8
     obtain ⟨y334, hy334⟩ : ∃ y_ : List Int, y_ = (t330.take 5) := ⟨_, rfl⟩
     replace H : (palletref19_Decode.j0 k t330 ((strOfNums y334).toList != ([80, 76, 84, 76, 1] : List UInt8))) = some (r1, r2, r3) := by first | (rw [hy334]; with_reducible exact H) | (have H2_ := (Option.bind_some _ _).symm.trans H; rw [hy334]; with_reducible exact H2_) | (have H2_ := (Option.bind_some _ _).symm.trans H; with_reducible exact H2_) | with_reducible exact H | (rw [hy334]; exact H) | exact H
     have Ny334 := Aside0.mk hy334
     clear hy334
     have H' := Aside0.mk H
     clear H
     obtain ⟨Ao9, co9, eo9⟩ := Kd.R_slice HO333.out
     subst eo9
     have q10 : (5 : Int) ≤ ((t330.length : Int) : Int) := of_decide_eq_true (by first | (with_reducible assumption) | assumption)
     obtain ⟨i010, hi010, _, hsz10, _⟩ := info_parts info5
     have hroom10 : t330.length ≤ co9 := (Kd.R_reads' HO333.out).2.1
     have hC10 : Kd.C (Kd.int .u8) _ Ao9 t330.length t330 := (Kd.R_reads' HO333.out).2.2
     have hcut10 := cut_to (P := Tryd.prog) 26 5 .i64 Tryd.underlying26 hi010 Ao9 t330.length co9 5 (by omega) q10 hroom10
     have hr10 := Kd.C_take (m := 5) hC10 (by omega)
     have hy10 : y334.length = (5 : Int).toNat := (by rw [Ny334.out, List.length_take]; omega)
     rw [← Ny334.out] at hr10
     rw [← hy10] at hcut10
     have HR337 := Aside0.mk hr10
     have HC337 := Aside0.mk (show y334.length ≤ co9 from by omega)
     clear hr10 hC10 hroom10 hi010 hsz10
     have KY10 := Aside0.mk hy10
     clear hy10
     have KL10 := Aside0.mk (show 5 ≤ t330.length from by omega)
     replace q10 := eq_true q10
     have hcv11 := Kd.C_string (P := Tryd.prog) (A := Ao9) (c := co9) Tryd.underlying26 Tryd.underlying5 Tryd.underlying9 (by repeat (first | (with_reducible exact HR337.out) | (with_reducible refine Kd.C_alloc ?_ _) | (with_reducible refine Kd.C_drewN ?_ _) | (with_reducible refine Kd.C_drew ?_) | exact HR337.out))
     go_wp2
     repeat (go_quiet (fail); try go_wp2)
     go_meet
     case rel => exact ⟨_, (((strOfNums y334).toList != ([80, 76, 84, 76, 1] : List UInt8))), (by first | rfl | (simp; done) | (simp [*]; done)), H', ⟨by first | omega | exact Nat.le_refl _⟩, ⟨by (with_reducible repeat (first | apply Kd.R_alloc | apply Kd.R_drewN | apply Kd.R_drew)); exact HO333.out⟩, ⟨by repeat (first | (with_reducible first | exact HB.out | apply below_alloc | apply pw_below_drewN | apply below_drew1) | exact HB.out)⟩⟩
    ·rw [if_neg c8] at H
     exact absurd H (by simp)
  case rest =>
   clear HC4
   try clear q1
   try clear hcv1
   try clear c2
   try clear p2
   try clear c3
   try clear c3b0
   try clear c3b1
   try clear c6
   try clear c6b0
   try clear c6b1
   try clear c8
   try clear c8b0
   try clear c8b1
   try clear q10
   try clear hcv11
   try clear q10
   obtain ⟨kq, x29_3, rfl, HA, HJ3, HO_5, HB⟩ := hcut
   cases kq with
   | zero => exact absurd HA.out (by simp [palletref19_Decode.j0])
   | succ kj3 =>
    have H := HA.out
    clear HA
    simp only [palletref19_Decode.j0] at H
    by_cases c12 : x29_3 = true
    ·subst c12
     have H1 : (some (([] : List (S30)), 0, 4)) = some (r1, r2, r3) := by rw [if_pos rfl] at H; exact H
     clear H
     have H := H1
     clear H1
     simp only [Option.some.injEq, Prod.mk.injEq] at H
     obtain ⟨rfl, rfl, rfl⟩ := H
     go_wp2
     repeat (go_quiet (fail); try go_wp2)
     go_ret3
     exact ⟨_, by first | rfl | (simp [errW_none, errW_some] <;> rfl) | (simp [*, errW_none, errW_some] <;> rfl), by first | exact Kd.R_nil _ _ _ _ _ | exact Kd.N_nil _ _ _ _ _ | exact Kd.V_nil _ _ _ _ _ | exact Kd.Q_nil _ _ _ _ _ | exact Kd.S_nil _ _ _ _ _, by repeat (first | (with_reducible first | exact HB.out | apply below_alloc | apply pw_below_drewN | apply below_drew1) | exact HB.out)⟩
    ·replace c12 := Bool.eq_false_iff.mpr c12
     subst c12
     have H1 : ((palletref02_TakeVary.f kj3 t330 5).bind fun bt338 => (if bt338.2.2 = 0 then (if bt338.1 > 20000 then (some (([] : List (S30)), 5, 4)) else (palletref19_Decode.l0 kj3 t330 bt338.2.1 ([] : List (S30)) bt338.1 0)) else (some (([] : List (S30)), 5, bt338.2.2)))) = some (r1, r2, r3) := by rw [if_neg (show ¬ (false = true) by decide)] at H; exact H
     clear H
     have H := H1
     clear H1
     replace H := Option.bind_eq_some_iff.mp H
     obtain ⟨⟨t338, t339, t340⟩, A130, H⟩ := H
     replace H : (if t340 = 0 then (if t338 > 20000 then (some (([] : List (S30)), 5, 4)) else (palletref19_Decode.l0 kj3 t330 t339 ([] : List (S30)) t338 0)) else (some (([] : List (S30)), 5, t340))) = some (r1, r2, r3) := H
     have A13 := Aside0.mk A130
     clear A130
     by_cases c14 : t340 = 0
     ·rw [if_pos c14] at H
      have c14b0 : (t340 == 0) = true := beq_iff_eq.mpr c14
      have c14b1 : (t340 != 0) = false := bne_eq_false_iff_eq.mpr c14
      clear c14
      by_cases c15 : t338 > 20000
      ·rw [if_pos c15] at H
       have c15b0 : decide (20000 < t338) = true := decide_eq_true c15
       clear c15
       simp only [Option.some.injEq, Prod.mk.injEq] at H
       obtain ⟨rfl, rfl, rfl⟩ := H
       obtain ⟨Ao16, co16, eo16⟩ := Kd.R_slice HO_5.out
       subst eo16
       go_wp2_with (first | (go_at_call 49; (with_reducible refine (palletref02_TakeVary.calls kj3 _ _ t330 5 t338 t339 t340 _ ?side1 ?side2 A13.out).mono ?_); (case side1 => repeat (first | exact (Kd.R_reads' HO_5.out).2.2 | (with_reducible refine Kd.C_alloc ?_ _) | (with_reducible refine Kd.C_drewN ?_ _) | (with_reducible refine Kd.C_drew ?_))); (case side2 => exact (Kd.R_reads' HO_5.out).2.1); rintro e w' ⟨rfl, ⟨nd, rfl⟩⟩; (try first | exact ⟨rfl, _, World.drewN_drewN _ _ _⟩ | exact ⟨rfl, _, Eq.trans (World.drewN_drewN _ _ _) (congrArg (World.drewN _) (Nat.add_assoc _ _ _))⟩)))
       repeat (go_quiet (first | (go_at_call 49; (with_reducible refine (palletref02_TakeVary.calls kj3 _ _ t330 5 t338 t339 t340 _ ?side1 ?side2 A13.out).mono ?_); (case side1 => repeat (first | exact (Kd.R_reads' HO_5.out).2.2 | (with_reducible refine Kd.C_alloc ?_ _) | (with_reducible refine Kd.C_drewN ?_ _) | (with_reducible refine Kd.C_drew ?_))); (case side2 => exact (Kd.R_reads' HO_5.out).2.1); rintro e w' ⟨rfl, ⟨nd, rfl⟩⟩; (try first | exact ⟨rfl, _, World.drewN_drewN _ _ _⟩ | exact ⟨rfl, _, Eq.trans (World.drewN_drewN _ _ _) (congrArg (World.drewN _) (Nat.add_assoc _ _ _))⟩))); try go_wp2_with (first | (go_at_call 49; (with_reducible refine (palletref02_TakeVary.calls kj3 _ _ t330 5 t338 t339 t340 _ ?side1 ?side2 A13.out).mono ?_); (case side1 => repeat (first | exact (Kd.R_reads' HO_5.out).2.2 | (with_reducible refine Kd.C_alloc ?_ _) | (with_reducible refine Kd.C_drewN ?_ _) | (with_reducible refine Kd.C_drew ?_))); (case side2 => exact (Kd.R_reads' HO_5.out).2.1); rintro e w' ⟨rfl, ⟨nd, rfl⟩⟩; (try first | exact ⟨rfl, _, World.drewN_drewN _ _ _⟩ | exact ⟨rfl, _, Eq.trans (World.drewN_drewN _ _ _) (congrArg (World.drewN _) (Nat.add_assoc _ _ _))⟩))))
       go_ret3
       exact ⟨_, by first | rfl | (simp [errW_none, errW_some] <;> rfl) | (simp [*, errW_none, errW_some] <;> rfl), by first | exact Kd.R_nil _ _ _ _ _ | exact Kd.N_nil _ _ _ _ _ | exact Kd.V_nil _ _ _ _ _ | exact Kd.Q_nil _ _ _ _ _ | exact Kd.S_nil _ _ _ _ _, by repeat (first | (with_reducible first | exact HB.out | apply below_alloc | apply pw_below_drewN | apply below_drew1) | exact HB.out)⟩
      ·rw [if_neg c15] at H
       have c15b0 : decide (20000 < t338) = false := decide_eq_false c15
       clear c15
       have H' := Aside0.mk H
       clear H
       obtain ⟨Ao17, co17, eo17⟩ := Kd.R_slice HO_5.out
       subst eo17
       go_wp2_with (first | (go_at_call 49; (with_reducible refine (palletref02_TakeVary.calls kj3 _ _ t330 5 t338 t339 t340 _ ?side1 ?side2 A13.out).mono ?_); (case side1 => repeat (first | exact (Kd.R_reads' HO_5.out).2.2 | (with_reducible refine Kd.C_alloc ?_ _) | (with_reducible refine Kd.C_drewN ?_ _) | (with_reducible refine Kd.C_drew ?_))); (case side2 => exact (Kd.R_reads' HO_5.out).2.1); rintro e w' ⟨rfl, ⟨nd, rfl⟩⟩; (try first | exact ⟨rfl, _, World.drewN_drewN _ _ _⟩ | exact ⟨rfl, _, Eq.trans (World.drewN_drewN _ _ _) (congrArg (World.drewN _) (Nat.add_assoc _ _ _))⟩)))
       repeat (go_quiet (first | (go_at_call 49; (with_reducible refine (palletref02_TakeVary.calls kj3 _ _ t330 5 t338 t339 t340 _ ?side1 ?side2 A13.out).mono ?_); (case side1 => repeat (first | exact (Kd.R_reads' HO_5.out).2.2 | (with_reducible refine Kd.C_alloc ?_ _) | (with_reducible refine Kd.C_drewN ?_ _) | (with_reducible refine Kd.C_drew ?_))); (case side2 => exact (Kd.R_reads' HO_5.out).2.1); rintro e w' ⟨rfl, ⟨nd, rfl⟩⟩; (try first | exact ⟨rfl, _, World.drewN_drewN _ _ _⟩ | exact ⟨rfl, _, Eq.trans (World.drewN_drewN _ _ _) (congrArg (World.drewN _) (Nat.add_assoc _ _ _))⟩))); try go_wp2_with (first | (go_at_call 49; (with_reducible refine (palletref02_TakeVary.calls kj3 _ _ t330 5 t338 t339 t340 _ ?side1 ?side2 A13.out).mono ?_); (case side1 => repeat (first | exact (Kd.R_reads' HO_5.out).2.2 | (with_reducible refine Kd.C_alloc ?_ _) | (with_reducible refine Kd.C_drewN ?_ _) | (with_reducible refine Kd.C_drew ?_))); (case side2 => exact (Kd.R_reads' HO_5.out).2.1); rintro e w' ⟨rfl, ⟨nd, rfl⟩⟩; (try first | exact ⟨rfl, _, World.drewN_drewN _ _ _⟩ | exact ⟨rfl, _, Eq.trans (World.drewN_drewN _ _ _) (congrArg (World.drewN _) (Nat.add_assoc _ _ _))⟩))))
       go_loopg [8, 9, 42] kj3 (fun kq v8 v9 v42 w' => ∃ (x8_2 : Int) (x9_2 : List (S30)) (x42_2 : Int), v8 = .int .i64 x8_2 ∧ v42 = .int .u64 x42_2 ∧ Aside0 (palletref19_Decode.l0 kq t330 x8_2 x9_2 t338 x42_2 = some (r1, r2, r3)) ∧ Aside0 (kq ≤ kj3) ∧ Aside0 (Kd.R (Kd.int .u8) 5 w' w.heap.size (fun _ => True) (.slice Ao17 t330.length co17) t330) ∧ Aside0 (Kd.R k30 30 w' w.heap.size (fun _ => True) v9 x9_2) ∧ Aside0 (Below w.heap.size w w'))
       case atStart => exact ⟨(t339), (([] : List (S30))), (0), (by first | rfl | (simp; done) | (simp [*]; done)), (by first | rfl | (simp; done) | (simp [*]; done)), H', ⟨Nat.le_refl _⟩, ⟨by (with_reducible repeat (first | apply Kd.R_alloc | apply Kd.R_drewN | apply Kd.R_drew)); exact HO_5.out⟩, ⟨by first | exact Kd.R_nil _ _ _ _ _ | exact Kd.N_nil _ _ _ _ _ | exact Kd.V_nil _ _ _ _ _ | exact Kd.Q_nil _ _ _ _ _ | exact Kd.S_nil _ _ _ _ _⟩, ⟨by repeat (first | (with_reducible first | exact HB.out | apply below_alloc | apply pw_below_drewN | apply below_drew1) | exact HB.out)⟩⟩
       case round =>
        clear H'
        try clear c1
        try clear q1
        try clear hcv1
        try clear c2
        try clear p2
        try clear c3
        try clear c3b0
        try clear c3b1
        try clear c6
        try clear c6b0
        try clear c6b1
        try clear c8
        try clear c8b0
        try clear c8b1
        try clear q10
        try clear hcv11
        try clear c12
        try clear c14
        try clear c14b0
        try clear c14b1
        try clear c15
        try clear c15b0
        try clear p2
        try clear q1
        try clear q10
        obtain ⟨x8_2, x9_2, x42_2, rfl, rfl, HA, HK2, HO_5, HO_9, HB⟩ := hrel
        cases gk with
        | zero => exact absurd HA.out (by simp [palletref19_Decode.l0])
        | succ k2 =>
         have H := HA.out
         clear HA
         simp only [palletref19_Decode.l0] at H
         by_cases c18 : x42_2 < t338
         ·rw [if_pos c18] at H
          have c18b0 : decide (x42_2 < t338) = true := decide_eq_true c18
          clear c18
          replace H := Option.bind_eq_some_iff.mp H
          obtain ⟨⟨t341, t342, t343, t344, t345, t346, t347⟩, A190, H⟩ := H
          replace H : (if t347 = 0 then (if (x9_2.length : Int) > 0 then (if 0 ≤ (wrap64 ((x9_2.length : Int) - 1)) then (if (wrap64 ((x9_2.length : Int) - 1)) < (x9_2.length : Int) then (palletref19_Decode.j2 k2 t330 x8_2 x9_2 t346 t338 x42_2 (decide (t341 < ((rd_T30 x9_2 (wrap64 ((x9_2.length : Int) - 1))).f0))) t341 t342 t343 t344 t345) else (none)) else (none)) else (palletref19_Decode.j2 k2 t330 x8_2 x9_2 t346 t338 x42_2 false t341 t342 t343 t344 t345)) else (some (([] : List (S30)), x8_2, t347))) = some (r1, r2, r3) := H
          have A19 := Aside0.mk A190
          clear A190
          by_cases c20 : t347 = 0
          ·rw [if_pos c20] at H
           have c20b0 : (t347 == 0) = true := beq_iff_eq.mpr c20
           have c20b1 : (t347 != 0) = false := bne_eq_false_iff_eq.mpr c20
           clear c20
           have HC21 := Aside0.mk H
           clear H
           go_upto_region 17 with (first | (go_at_call 22; (with_reducible refine (palletref19_Read.calls k2 _ _ t330 x8_2 t341 t342 t343 t344 t345 t346 t347 _ ?side1 ?side2 A19.out).mono ?_); (case side1 => repeat (first | exact (Kd.R_reads' HO_5.out).2.2 | (with_reducible refine Kd.C_alloc ?_ _) | (with_reducible refine Kd.C_drewN ?_ _) | (with_reducible refine Kd.C_drew ?_))); (case side2 => exact (Kd.R_reads' HO_5.out).2.1); rintro e w22 ⟨rfl, hb⟩; have n0_ := Aside0.mk (Kd.R_below (by (with_reducible repeat (first | apply Kd.R_alloc | apply Kd.R_drewN | apply Kd.R_drew)); exact HO_5.out) hb); have n1_ := Aside0.mk (Kd.R_below (by (with_reducible repeat (first | apply Kd.R_alloc | apply Kd.R_drewN | apply Kd.R_drew)); exact HO_9.out) hb); have n2_ := Aside0.mk (below_step (by repeat (first | (with_reducible first | exact HB.out | apply below_alloc | apply pw_below_drewN | apply below_drew1) | exact HB.out)) hb); clear HO_5; clear HO_9; clear HB; have HO_5 := n0_; have HO_9 := n1_; have HB := n2_; clear n0_ n1_ n2_; (try clear hb); (try clear hb2); (try clear hk); (try clear hi)) | ((with_reducible refine gate_dst (N := 10) rfl ?_); (try (refine gate_guard (by rfl) ?_; dsimp only)); refine box_event ?hg (N := 10) ?hd (cs := #[.int .i64 0, .int .i64 0, .int .i64 0, .int .i64 0, .int .i64 0]) (t := 30) ?hr ?_; (case hd => rfl); (case hg => rfl); (case hr => first | (go_simp; done) | (go_simp; rfl)); intro gb348 hg w23 hbox hb; have n0_ := Aside0.mk (Kd.R_below (by (with_reducible repeat (first | apply Kd.R_alloc | apply Kd.R_drewN | apply Kd.R_drew)); exact HO_5.out) hb); have n1_ := Aside0.mk (Kd.R_below (Kd.R_elderB (by (with_reducible repeat (first | apply Kd.R_alloc | apply Kd.R_drewN | apply Kd.R_drew)); exact HO_9.out) gb348 (Nat.le_of_eq hg.symm)) hb); have n2_ := Aside0.mk (below_step (by repeat (first | (with_reducible first | exact HB.out | apply below_alloc | apply pw_below_drewN | apply below_drew1) | exact HB.out)) hb); have n3_ := Aside0.mk (hbox); have n4_ := Aside0.mk ((by rw [hg]; exact (below_size (by repeat (first | (with_reducible first | exact HB.out | apply below_alloc | apply pw_below_drewN | apply below_drew1) | exact HB.out))) : w.heap.size ≤ gb348)); have n5_ := Aside0.mk ((by rw [hg]; exact (below_size (by repeat (first | (with_reducible first | exact HB.out | apply below_alloc | apply pw_below_drewN | apply below_drew1) | exact HB.out))) : w.heap.size ≤ gb348)); clear HO_5; clear HO_9; clear HB; have HO_5 := n0_; have HO_9 := n1_; have HB := n2_; have BK348 := n3_; have GW348 := n4_; have GE348 := n5_; clear n0_ n1_ n2_ n3_ n4_ n5_; clear hb hbox hg; have hcz24_0 : w23.cell? ⟨gb348, 0, none⟩ = some (.int .i64 0) := (blk_cell BK348.out 0).trans rfl; have hcz24_1 : w23.cell? ⟨gb348, 1, none⟩ = some (.int .i64 0) := (blk_cell BK348.out 1).trans rfl; have hcz24_2 : w23.cell? ⟨gb348, 2, none⟩ = some (.int .i64 0) := (blk_cell BK348.out 2).trans rfl; have hcz24_3 : w23.cell? ⟨gb348, 3, none⟩ = some (.int .i64 0) := (blk_cell BK348.out 3).trans rfl; have hcz24_4 : w23.cell? ⟨gb348, 4, none⟩ = some (.int .i64 0) := (blk_cell BK348.out 4).trans rfl; have hfz24_0 := blk_frozen BK348.out 0; have hfz24_1 := blk_frozen BK348.out 1; have hfz24_2 := blk_frozen BK348.out 2; have hfz24_3 := blk_frozen BK348.out 3; have hfz24_4 := blk_frozen BK348.out 4))
           repeat (go_quiet (first | (go_at_call 22; (with_reducible refine (palletref19_Read.calls k2 _ _ t330 x8_2 t341 t342 t343 t344 t345 t346 t347 _ ?side1 ?side2 A19.out).mono ?_); (case side1 => repeat (first | exact (Kd.R_reads' HO_5.out).2.2 | (with_reducible refine Kd.C_alloc ?_ _) | (with_reducible refine Kd.C_drewN ?_ _) | (with_reducible refine Kd.C_drew ?_))); (case side2 => exact (Kd.R_reads' HO_5.out).2.1); rintro e w22 ⟨rfl, hb⟩; have n0_ := Aside0.mk (Kd.R_below (by (with_reducible repeat (first | apply Kd.R_alloc | apply Kd.R_drewN | apply Kd.R_drew)); exact HO_5.out) hb); have n1_ := Aside0.mk (Kd.R_below (by (with_reducible repeat (first | apply Kd.R_alloc | apply Kd.R_drewN | apply Kd.R_drew)); exact HO_9.out) hb); have n2_ := Aside0.mk (below_step (by repeat (first | (with_reducible first | exact HB.out | apply below_alloc | apply pw_below_drewN | apply below_drew1) | exact HB.out)) hb); clear HO_5; clear HO_9; clear HB; have HO_5 := n0_; have HO_9 := n1_; have HB := n2_; clear n0_ n1_ n2_; (try clear hb); (try clear hb2); (try clear hk); (try clear hi)) | ((with_reducible refine gate_dst (N := 10) rfl ?_); (try (refine gate_guard (by rfl) ?_; dsimp only)); refine box_event ?hg (N := 10) ?hd (cs := #[.int .i64 0, .int .i64 0, .int .i64 0, .int .i64 0, .int .i64 0]) (t := 30) ?hr ?_; (case hd => rfl); (case hg => rfl); (case hr => first | (go_simp; done) | (go_simp; rfl)); intro gb348 hg w23 hbox hb; have n0_ := Aside0.mk (Kd.R_below (by (with_reducible repeat (first | apply Kd.R_alloc | apply Kd.R_drewN | apply Kd.R_drew)); exact HO_5.out) hb); have n1_ := Aside0.mk (Kd.R_below (Kd.R_elderB (by (with_reducible repeat (first | apply Kd.R_alloc | apply Kd.R_drewN | apply Kd.R_drew)); exact HO_9.out) gb348 (Nat.le_of_eq hg.symm)) hb); have n2_ := Aside0.mk (below_step (by repeat (first | (with_reducible first | exact HB.out | apply below_alloc | apply pw_below_drewN | apply below_drew1) | exact HB.out)) hb); have n3_ := Aside0.mk (hbox); have n4_ := Aside0.mk ((by rw [hg]; exact (below_size (by repeat (first | (with_reducible first | exact HB.out | apply below_alloc | apply pw_below_drewN | apply below_drew1) | exact HB.out))) : w.heap.size ≤ gb348)); have n5_ := Aside0.mk ((by rw [hg]; exact (below_size (by repeat (first | (with_reducible first | exact HB.out | apply below_alloc | apply pw_below_drewN | apply below_drew1) | exact HB.out))) : w.heap.size ≤ gb348)); clear HO_5; clear HO_9; clear HB; have HO_5 := n0_; have HO_9 := n1_; have HB := n2_; have BK348 := n3_; have GW348 := n4_; have GE348 := n5_; clear n0_ n1_ n2_ n3_ n4_ n5_; clear hb hbox hg; have hcz24_0 : w23.cell? ⟨gb348, 0, none⟩ = some (.int .i64 0) := (blk_cell BK348.out 0).trans rfl; have hcz24_1 : w23.cell? ⟨gb348, 1, none⟩ = some (.int .i64 0) := (blk_cell BK348.out 1).trans rfl; have hcz24_2 : w23.cell? ⟨gb348, 2, none⟩ = some (.int .i64 0) := (blk_cell BK348.out 2).trans rfl; have hcz24_3 : w23.cell? ⟨gb348, 3, none⟩ = some (.int .i64 0) := (blk_cell BK348.out 3).trans rfl; have hcz24_4 : w23.cell? ⟨gb348, 4, none⟩ = some (.int .i64 0) := (blk_cell BK348.out 4).trans rfl; have hfz24_0 := blk_frozen BK348.out 0; have hfz24_1 := blk_frozen BK348.out 1; have hfz24_2 := blk_frozen BK348.out 2; have hfz24_3 := blk_frozen BK348.out 3; have hfz24_4 := blk_frozen BK348.out 4)); go_upto_region 17 with (first | (go_at_call 22; (with_reducible refine (palletref19_Read.calls k2 _ _ t330 x8_2 t341 t342 t343 t344 t345 t346 t347 _ ?side1 ?side2 A19.out).mono ?_); (case side1 => repeat (first | exact (Kd.R_reads' HO_5.out).2.2 | (with_reducible refine Kd.C_alloc ?_ _) | (with_reducible refine Kd.C_drewN ?_ _) | (with_reducible refine Kd.C_drew ?_))); (case side2 => exact (Kd.R_reads' HO_5.out).2.1); rintro e w22 ⟨rfl, hb⟩; have n0_ := Aside0.mk (Kd.R_below (by (with_reducible repeat (first | apply Kd.R_alloc | apply Kd.R_drewN | apply Kd.R_drew)); exact HO_5.out) hb); have n1_ := Aside0.mk (Kd.R_below (by (with_reducible repeat (first | apply Kd.R_alloc | apply Kd.R_drewN | apply Kd.R_drew)); exact HO_9.out) hb); have n2_ := Aside0.mk (below_step (by repeat (first | (with_reducible first | exact HB.out | apply below_alloc | apply pw_below_drewN | apply below_drew1) | exact HB.out)) hb); clear HO_5; clear HO_9; clear HB; have HO_5 := n0_; have HO_9 := n1_; have HB := n2_; clear n0_ n1_ n2_; (try clear hb); (try clear hb2); (try clear hk); (try clear hi)) | ((with_reducible refine gate_dst (N := 10) rfl ?_); (try (refine gate_guard (by rfl) ?_; dsimp only)); refine box_event ?hg (N := 10) ?hd (cs := #[.int .i64 0, .int .i64 0, .int .i64 0, .int .i64 0, .int .i64 0]) (t := 30) ?hr ?_; (case hd => rfl); (case hg => rfl); (case hr => first | (go_simp; done) | (go_simp; rfl)); intro gb348 hg w23 hbox hb; have n0_ := Aside0.mk (Kd.R_below (by (with_reducible repeat (first | apply Kd.R_alloc | apply Kd.R_drewN | apply Kd.R_drew)); exact HO_5.out) hb); have n1_ := Aside0.mk (Kd.R_below (Kd.R_elderB (by (with_reducible repeat (first | apply Kd.R_alloc | apply Kd.R_drewN | apply Kd.R_drew)); exact HO_9.out) gb348 (Nat.le_of_eq hg.symm)) hb); have n2_ := Aside0.mk (below_step (by repeat (first | (with_reducible first | exact HB.out | apply below_alloc | apply pw_below_drewN | apply below_drew1) | exact HB.out)) hb); have n3_ := Aside0.mk (hbox); have n4_ := Aside0.mk ((by rw [hg]; exact (below_size (by repeat (first | (with_reducible first | exact HB.out | apply below_alloc | apply pw_below_drewN | apply below_drew1) | exact HB.out))) : w.heap.size ≤ gb348)); have n5_ := Aside0.mk ((by rw [hg]; exact (below_size (by repeat (first | (with_reducible first | exact HB.out | apply below_alloc | apply pw_below_drewN | apply below_drew1) | exact HB.out))) : w.heap.size ≤ gb348)); clear HO_5; clear HO_9; clear HB; have HO_5 := n0_; have HO_9 := n1_; have HB := n2_; have BK348 := n3_; have GW348 := n4_; have GE348 := n5_; clear n0_ n1_ n2_ n3_ n4_ n5_; clear hb hbox hg; have hcz24_0 : w23.cell? ⟨gb348, 0, none⟩ = some (.int .i64 0) := (blk_cell BK348.out 0).trans rfl; have hcz24_1 : w23.cell? ⟨gb348, 1, none⟩ = some (.int .i64 0) := (blk_cell BK348.out 1).trans rfl; have hcz24_2 : w23.cell? ⟨gb348, 2, none⟩ = some (.int .i64 0) := (blk_cell BK348.out 2).trans rfl; have hcz24_3 : w23.cell? ⟨gb348, 3, none⟩ = some (.int .i64 0) := (blk_cell BK348.out 3).trans rfl; have hcz24_4 : w23.cell? ⟨gb348, 4, none⟩ = some (.int .i64 0) := (blk_cell BK348.out 4).trans rfl; have hfz24_0 := blk_frozen BK348.out 0; have hfz24_1 := blk_frozen BK348.out 1; have hfz24_2 := blk_frozen BK348.out 2; have hfz24_3 := blk_frozen BK348.out 3; have hfz24_4 := blk_frozen BK348.out 4)))
           (try simp only [Act.put, List.setIfInBounds_toArray, List.set_cons_zero, List.set_cons_succ])
           go_cut [69] (fun v69 wc => ∃ (kq : Nat) (x69_20 : Bool), v69 = .bool x69_20 ∧ Aside0 (palletref19_Decode.j2 kq t330 x8_2 x9_2 t346 t338 x42_2 x69_20 t341 t342 t343 t344 t345 = some (r1, r2, r3)) ∧ Aside0 (kq ≤ k2) ∧ Aside0 (Kd.R (Kd.int .u8) 5 wc w.heap.size (fun _ => True) (.slice Ao17 t330.length co17) t330) ∧ Aside0 (Kd.R k30 30 wc w.heap.size (fun k_ => k_ ≠ gb348) u9 x9_2) ∧ Aside0 (wc.heap[gb348]? = some (.cells #[.int .i64 t341, .int .i64 t342, .int .i64 t343, .int .i64 t344, .int .i64 t345] 30 (0, 0))) ∧ Aside0 (Below w.heap.size w wc))
           case first =>
            have H := HC21.out
            clear HC21
            by_cases c25 : (x9_2.length : Int) > 0
            ·rw [if_pos c25] at H
             have c25b0 : decide (0 < (x9_2.length : Int)) = true := decide_eq_true c25
             have c25b1 : decide (0 < x9_2.length) = true := decide_eq_true (by omega)
             clear c25
             (first | rw [c25b0] | (simp only [i64_w, i32_w]; rw [c25b0]) | skip)
             obtain ⟨ji26, hji26⟩ : ∃ j_ : Int, (wrap64 ((x9_2.length : Int) - 1)) = j_ := ⟨_, rfl⟩
             replace H : (if 0 ≤ (ji26) then (if (ji26) < (x9_2.length : Int) then (palletref19_Decode.j2 k2 t330 x8_2 x9_2 t346 t338 x42_2 (decide (t341 < ((rd_T30 x9_2 (ji26)).f0))) t341 t342 t343 t344 t345) else (none)) else (none)) = some (r1, r2, r3) := by first | (rw [hji26] at H; exact H) | (simp only [hji26] at H ⊢; exact H)
             have hji26w : (IntKind.i64.wrap ((x9_2.length : Int) - 1)) = ji26 := (i64_w _).trans hji26
             by_cases c27 : 0 ≤ (ji26)
             ·rw [if_pos c27] at H
              have c27b0 : decide (0 ≤ (ji26)) = true := decide_eq_true c27
              clear c27
              by_cases c28 : (ji26) < (x9_2.length : Int)
              ·rw [if_pos c28] at H
               have c28b0 : decide ((ji26) < (x9_2.length : Int)) = true := decide_eq_true c28
               clear c28
               have H' := Aside0.mk H
               clear H
               obtain ⟨Ao29, co29, eo29⟩ := Kd.R_slice HO_9.out
               subst eo29
               have hcz30_0 : w23.cell? ⟨gb348, 0, none⟩ = some (.int .i64 0) := (blk_cell BK348.out 0).trans rfl
               have hcz30_1 : w23.cell? ⟨gb348, 1, none⟩ = some (.int .i64 0) := (blk_cell BK348.out 1).trans rfl
               have hcz30_2 : w23.cell? ⟨gb348, 2, none⟩ = some (.int .i64 0) := (blk_cell BK348.out 2).trans rfl
               have hcz30_3 : w23.cell? ⟨gb348, 3, none⟩ = some (.int .i64 0) := (blk_cell BK348.out 3).trans rfl
               have hcz30_4 : w23.cell? ⟨gb348, 4, none⟩ = some (.int .i64 0) := (blk_cell BK348.out 4).trans rfl
               have hfz30_0 := blk_frozen BK348.out 0
               have hfz30_1 := blk_frozen BK348.out 1
               have hfz30_2 := blk_frozen BK348.out 2
               have hfz30_3 := blk_frozen BK348.out 3
               have hfz30_4 := blk_frozen BK348.out 4
               have p349 : 0 ≤ ((ji26) : Int) := of_decide_eq_true (by first | (with_reducible assumption) | assumption)
               have q349 : (ji26) < (x9_2.length : Int) := of_decide_eq_true (by first | (with_reducible assumption) | assumption)
               obtain ⟨ad349, e349, hx349_0, hx349_1, hx349_2, hx349_3, hx349_4⟩ := at_T30 (Kd.R_reads' HO_9.out).2.2 (ji26) p349 q349
               cases e349
               have hn349_0 : ad349.block ≠ gb348 := by first | exact Kd.own_blk (Kd.R_ne HO_9.out BK348.out (by decide)) | exact fun h_ => (by have q_ := HO_9.out.1 ad349.block rfl; first | exact q_ h_ | exact q_.2 h_ | exact q_.1 h_)
               have hn349_1 : ad349.block ≠ gb348 := by first | exact Kd.own_blk (Kd.R_ne HO_9.out BK348.out (by decide)) | exact fun h_ => (by have q_ := HO_9.out.1 ad349.block rfl; first | exact q_ h_ | exact q_.2 h_ | exact q_.1 h_)
               have hn349_2 : ad349.block ≠ gb348 := by first | exact Kd.own_blk (Kd.R_ne HO_9.out BK348.out (by decide)) | exact fun h_ => (by have q_ := HO_9.out.1 ad349.block rfl; first | exact q_ h_ | exact q_.2 h_ | exact q_.1 h_)
               have hn349_3 : ad349.block ≠ gb348 := by first | exact Kd.own_blk (Kd.R_ne HO_9.out BK348.out (by decide)) | exact fun h_ => (by have q_ := HO_9.out.1 ad349.block rfl; first | exact q_ h_ | exact q_.2 h_ | exact q_.1 h_)
               have hn349_4 : ad349.block ≠ gb348 := by first | exact Kd.own_blk (Kd.R_ne HO_9.out BK348.out (by decide)) | exact fun h_ => (by have q_ := HO_9.out.1 ad349.block rfl; first | exact q_ h_ | exact q_.2 h_ | exact q_.1 h_)
               replace hx349_0 := (cell_far (p := ⟨gb348, 0, none⟩) (by first | (rw [add_block]; exact hn349_0) | (show (Addr.add _ _).block ≠ _; rw [add_block]; exact hn349_0) | exact hn349_0) (.int .i64 t341)).trans hx349_0
               replace hx349_1 := (cell_far (p := ⟨gb348, 0, none⟩) (by first | (rw [add_block]; exact hn349_0) | (show (Addr.add _ _).block ≠ _; rw [add_block]; exact hn349_0) | exact hn349_0) (.int .i64 t341)).trans hx349_1
               replace hx349_2 := (cell_far (p := ⟨gb348, 0, none⟩) (by first | (rw [add_block]; exact hn349_0) | (show (Addr.add _ _).block ≠ _; rw [add_block]; exact hn349_0) | exact hn349_0) (.int .i64 t341)).trans hx349_2
               replace hx349_3 := (cell_far (p := ⟨gb348, 0, none⟩) (by first | (rw [add_block]; exact hn349_0) | (show (Addr.add _ _).block ≠ _; rw [add_block]; exact hn349_0) | exact hn349_0) (.int .i64 t341)).trans hx349_3
               replace hx349_4 := (cell_far (p := ⟨gb348, 0, none⟩) (by first | (rw [add_block]; exact hn349_0) | (show (Addr.add _ _).block ≠ _; rw [add_block]; exact hn349_0) | exact hn349_0) (.int .i64 t341)).trans hx349_4
               replace hx349_0 := (cell_far (p := ⟨gb348, 1, none⟩) (by first | (rw [add_block]; exact hn349_1) | (show (Addr.add _ _).block ≠ _; rw [add_block]; exact hn349_1) | exact hn349_1) (.int .i64 t342)).trans hx349_0
               replace hx349_1 := (cell_far (p := ⟨gb348, 1, none⟩) (by first | (rw [add_block]; exact hn349_1) | (show (Addr.add _ _).block ≠ _; rw [add_block]; exact hn349_1) | exact hn349_1) (.int .i64 t342)).trans hx349_1
               replace hx349_2 := (cell_far (p := ⟨gb348, 1, none⟩) (by first | (rw [add_block]; exact hn349_1) | (show (Addr.add _ _).block ≠ _; rw [add_block]; exact hn349_1) | exact hn349_1) (.int .i64 t342)).trans hx349_2
               replace hx349_3 := (cell_far (p := ⟨gb348, 1, none⟩) (by first | (rw [add_block]; exact hn349_1) | (show (Addr.add _ _).block ≠ _; rw [add_block]; exact hn349_1) | exact hn349_1) (.int .i64 t342)).trans hx349_3
               replace hx349_4 := (cell_far (p := ⟨gb348, 1, none⟩) (by first | (rw [add_block]; exact hn349_1) | (show (Addr.add _ _).block ≠ _; rw [add_block]; exact hn349_1) | exact hn349_1) (.int .i64 t342)).trans hx349_4
               replace hx349_0 := (cell_far (p := ⟨gb348, 2, none⟩) (by first | (rw [add_block]; exact hn349_2) | (show (Addr.add _ _).block ≠ _; rw [add_block]; exact hn349_2) | exact hn349_2) (.int .i64 t343)).trans hx349_0
               replace hx349_1 := (cell_far (p := ⟨gb348, 2, none⟩) (by first | (rw [add_block]; exact hn349_2) | (show (Addr.add _ _).block ≠ _; rw [add_block]; exact hn349_2) | exact hn349_2) (.int .i64 t343)).trans hx349_1
               replace hx349_2 := (cell_far (p := ⟨gb348, 2, none⟩) (by first | (rw [add_block]; exact hn349_2) | (show (Addr.add _ _).block ≠ _; rw [add_block]; exact hn349_2) | exact hn349_2) (.int .i64 t343)).trans hx349_2
               replace hx349_3 := (cell_far (p := ⟨gb348, 2, none⟩) (by first | (rw [add_block]; exact hn349_2) | (show (Addr.add _ _).block ≠ _; rw [add_block]; exact hn349_2) | exact hn349_2) (.int .i64 t343)).trans hx349_3
               replace hx349_4 := (cell_far (p := ⟨gb348, 2, none⟩) (by first | (rw [add_block]; exact hn349_2) | (show (Addr.add _ _).block ≠ _; rw [add_block]; exact hn349_2) | exact hn349_2) (.int .i64 t343)).trans hx349_4
               replace hx349_0 := (cell_far (p := ⟨gb348, 3, none⟩) (by first | (rw [add_block]; exact hn349_3) | (show (Addr.add _ _).block ≠ _; rw [add_block]; exact hn349_3) | exact hn349_3) (.int .i64 t344)).trans hx349_0
               replace hx349_1 := (cell_far (p := ⟨gb348, 3, none⟩) (by first | (rw [add_block]; exact hn349_3) | (show (Addr.add _ _).block ≠ _; rw [add_block]; exact hn349_3) | exact hn349_3) (.int .i64 t344)).trans hx349_1
               replace hx349_2 := (cell_far (p := ⟨gb348, 3, none⟩) (by first | (rw [add_block]; exact hn349_3) | (show (Addr.add _ _).block ≠ _; rw [add_block]; exact hn349_3) | exact hn349_3) (.int .i64 t344)).trans hx349_2
               replace hx349_3 := (cell_far (p := ⟨gb348, 3, none⟩) (by first | (rw [add_block]; exact hn349_3) | (show (Addr.add _ _).block ≠ _; rw [add_block]; exact hn349_3) | exact hn349_3) (.int .i64 t344)).trans hx349_3
               replace hx349_4 := (cell_far (p := ⟨gb348, 3, none⟩) (by first | (rw [add_block]; exact hn349_3) | (show (Addr.add _ _).block ≠ _; rw [add_block]; exact hn349_3) | exact hn349_3) (.int .i64 t344)).trans hx349_4
               replace hx349_0 := (cell_far (p := ⟨gb348, 4, none⟩) (by first | (rw [add_block]; exact hn349_4) | (show (Addr.add _ _).block ≠ _; rw [add_block]; exact hn349_4) | exact hn349_4) (.int .i64 t345)).trans hx349_0
               replace hx349_1 := (cell_far (p := ⟨gb348, 4, none⟩) (by first | (rw [add_block]; exact hn349_4) | (show (Addr.add _ _).block ≠ _; rw [add_block]; exact hn349_4) | exact hn349_4) (.int .i64 t345)).trans hx349_1
               replace hx349_2 := (cell_far (p := ⟨gb348, 4, none⟩) (by first | (rw [add_block]; exact hn349_4) | (show (Addr.add _ _).block ≠ _; rw [add_block]; exact hn349_4) | exact hn349_4) (.int .i64 t345)).trans hx349_2
               replace hx349_3 := (cell_far (p := ⟨gb348, 4, none⟩) (by first | (rw [add_block]; exact hn349_4) | (show (Addr.add _ _).block ≠ _; rw [add_block]; exact hn349_4) | exact hn349_4) (.int .i64 t345)).trans hx349_3
               replace hx349_4 := (cell_far (p := ⟨gb348, 4, none⟩) (by first | (rw [add_block]; exact hn349_4) | (show (Addr.add _ _).block ≠ _; rw [add_block]; exact hn349_4) | exact hn349_4) (.int .i64 t345)).trans hx349_4
               (try have hy349_0 := fun (n_ : Nat) => (show (((((((w23.drewN n_).setCell ⟨gb348, 0, none⟩ (.int .i64 t341)).setCell ⟨gb348, 1, none⟩ (.int .i64 t342)).setCell ⟨gb348, 2, none⟩ (.int .i64 t343)).setCell ⟨gb348, 3, none⟩ (.int .i64 t344)).setCell ⟨gb348, 4, none⟩ (.int .i64 t345))).cell? _ = some _ from hx349_0))
               (try have hy349_1 := fun (n_ : Nat) => (show (((((((w23.drewN n_).setCell ⟨gb348, 0, none⟩ (.int .i64 t341)).setCell ⟨gb348, 1, none⟩ (.int .i64 t342)).setCell ⟨gb348, 2, none⟩ (.int .i64 t343)).setCell ⟨gb348, 3, none⟩ (.int .i64 t344)).setCell ⟨gb348, 4, none⟩ (.int .i64 t345))).cell? _ = some _ from hx349_1))
               (try have hy349_2 := fun (n_ : Nat) => (show (((((((w23.drewN n_).setCell ⟨gb348, 0, none⟩ (.int .i64 t341)).setCell ⟨gb348, 1, none⟩ (.int .i64 t342)).setCell ⟨gb348, 2, none⟩ (.int .i64 t343)).setCell ⟨gb348, 3, none⟩ (.int .i64 t344)).setCell ⟨gb348, 4, none⟩ (.int .i64 t345))).cell? _ = some _ from hx349_2))
               (try have hy349_3 := fun (n_ : Nat) => (show (((((((w23.drewN n_).setCell ⟨gb348, 0, none⟩ (.int .i64 t341)).setCell ⟨gb348, 1, none⟩ (.int .i64 t342)).setCell ⟨gb348, 2, none⟩ (.int .i64 t343)).setCell ⟨gb348, 3, none⟩ (.int .i64 t344)).setCell ⟨gb348, 4, none⟩ (.int .i64 t345))).cell? _ = some _ from hx349_3))
               (try have hy349_4 := fun (n_ : Nat) => (show (((((((w23.drewN n_).setCell ⟨gb348, 0, none⟩ (.int .i64 t341)).setCell ⟨gb348, 1, none⟩ (.int .i64 t342)).setCell ⟨gb348, 2, none⟩ (.int .i64 t343)).setCell ⟨gb348, 3, none⟩ (.int .i64 t344)).setCell ⟨gb348, 4, none⟩ (.int .i64 t345))).cell? _ = some _ from hx349_4))
               clear hn349_0
               clear hn349_1
               clear hn349_2
               clear hn349_3
               clear hn349_4
               replace p349 := eq_true p349
               replace q349 := eq_true q349
               go_wp2
               repeat (go_quiet (fail); try go_wp2)
               go_meet
               case rel => exact ⟨_, (decide (t341 < ((rd_T30 x9_2 (ji26)).f0))), (by first | rfl | (simp; done) | (simp only [← hji26] <;> (first | rfl | simp)) | (simp [*]; done)), H', ⟨by have := HJ3.out; have := HK2.out; first | omega | exact Nat.le_refl _⟩, ⟨by (with_reducible repeat (first | apply Kd.R_alloc | apply Kd.R_drewN | apply Kd.R_drew)); exact Kd.R_mono (Kd.R_far (p := ⟨gb348, 4, none⟩) (Kd.R_far (p := ⟨gb348, 3, none⟩) (Kd.R_far (p := ⟨gb348, 2, none⟩) (Kd.R_far (p := ⟨gb348, 1, none⟩) (Kd.R_far (p := ⟨gb348, 0, none⟩) (Kd.R_types HO_5.out BK348.out (by decide)) (fun _ hk => hk.2) (.int .i64 t341)) (fun _ hk => hk.2) (.int .i64 t342)) (fun _ hk => hk.2) (.int .i64 t343)) (fun _ hk => hk.2) (.int .i64 t344)) (fun _ hk => hk.2) (.int .i64 t345)) (fun _ hk => trivial)⟩, ⟨by (with_reducible repeat (first | apply Kd.R_alloc | apply Kd.R_drewN | apply Kd.R_drew)); exact Kd.R_mono (Kd.R_far (p := ⟨gb348, 4, none⟩) (Kd.R_far (p := ⟨gb348, 3, none⟩) (Kd.R_far (p := ⟨gb348, 2, none⟩) (Kd.R_far (p := ⟨gb348, 1, none⟩) (Kd.R_far (p := ⟨gb348, 0, none⟩) (Kd.R_mono HO_9.out (fun k_ hk => (⟨hk, hk.2⟩ : _ ∧ k_ ≠ gb348))) (fun _ hk => hk.2) (.int .i64 t341)) (fun _ hk => hk.2) (.int .i64 t342)) (fun _ hk => hk.2) (.int .i64 t343)) (fun _ hk => hk.2) (.int .i64 t344)) (fun _ hk => hk.2) (.int .i64 t345)) (fun _ hk => hk.1.2)⟩, ⟨by (with_reducible repeat (first | refine blk_drewN ?_ _ | refine blk_drew ?_ | refine blk_alloc ?_ _)); refine blk_put (cs := #[.int .i64 t341, .int .i64 t342, .int .i64 t343, .int .i64 t344, .int .i64 0]) ?_ 4 _ rfl; (with_reducible repeat (first | refine blk_drewN ?_ _ | refine blk_drew ?_ | refine blk_alloc ?_ _)); refine blk_put (cs := #[.int .i64 t341, .int .i64 t342, .int .i64 t343, .int .i64 0, .int .i64 0]) ?_ 3 _ rfl; (with_reducible repeat (first | refine blk_drewN ?_ _ | refine blk_drew ?_ | refine blk_alloc ?_ _)); refine blk_put (cs := #[.int .i64 t341, .int .i64 t342, .int .i64 0, .int .i64 0, .int .i64 0]) ?_ 2 _ rfl; (with_reducible repeat (first | refine blk_drewN ?_ _ | refine blk_drew ?_ | refine blk_alloc ?_ _)); refine blk_put (cs := #[.int .i64 t341, .int .i64 0, .int .i64 0, .int .i64 0, .int .i64 0]) ?_ 1 _ rfl; (with_reducible repeat (first | refine blk_drewN ?_ _ | refine blk_drew ?_ | refine blk_alloc ?_ _)); refine blk_put (cs := #[.int .i64 0, .int .i64 0, .int .i64 0, .int .i64 0, .int .i64 0]) ?_ 0 _ rfl; (with_reducible repeat (first | refine blk_drewN ?_ _ | refine blk_drew ?_ | refine blk_alloc ?_ _)); exact BK348.out⟩, ⟨by repeat (first | (with_reducible first | exact HB.out | apply below_alloc | apply pw_below_drewN | apply below_drew1 | refine below_set ?_ GE348.out) | exact HB.out)⟩⟩
              ·rw [if_neg c28] at H
               exact absurd H (by simp)
             ·rw [if_neg c27] at H
              exact absurd H (by simp)
            ·rw [if_neg c25] at H
             have c25b0 : decide (0 < (x9_2.length : Int)) = false := decide_eq_false c25
             have c25b1 : decide (0 < x9_2.length) = false := decide_eq_false (by omega)
             clear c25
             (first | rw [c25b0] | (simp only [i64_w, i32_w]; rw [c25b0]) | skip)
             have H' := Aside0.mk H
             clear H
             obtain ⟨Ao31, co31, eo31⟩ := Kd.R_slice HO_9.out
             subst eo31
             go_wp2
             repeat (go_quiet (fail); try go_wp2)
             go_meet
             case rel => exact ⟨_, (false), (by first | rfl | (simp; done) | (simp [*]; done)), H', ⟨by have := HJ3.out; have := HK2.out; first | omega | exact Nat.le_refl _⟩, ⟨by (with_reducible repeat (first | apply Kd.R_alloc | apply Kd.R_drewN | apply Kd.R_drew)); exact Kd.R_mono (Kd.R_far (p := ⟨gb348, 4, none⟩) (Kd.R_far (p := ⟨gb348, 3, none⟩) (Kd.R_far (p := ⟨gb348, 2, none⟩) (Kd.R_far (p := ⟨gb348, 1, none⟩) (Kd.R_far (p := ⟨gb348, 0, none⟩) (Kd.R_types HO_5.out BK348.out (by decide)) (fun _ hk => hk.2) (.int .i64 t341)) (fun _ hk => hk.2) (.int .i64 t342)) (fun _ hk => hk.2) (.int .i64 t343)) (fun _ hk => hk.2) (.int .i64 t344)) (fun _ hk => hk.2) (.int .i64 t345)) (fun _ hk => trivial)⟩, ⟨by (with_reducible repeat (first | apply Kd.R_alloc | apply Kd.R_drewN | apply Kd.R_drew)); exact Kd.R_mono (Kd.R_far (p := ⟨gb348, 4, none⟩) (Kd.R_far (p := ⟨gb348, 3, none⟩) (Kd.R_far (p := ⟨gb348, 2, none⟩) (Kd.R_far (p := ⟨gb348, 1, none⟩) (Kd.R_far (p := ⟨gb348, 0, none⟩) (Kd.R_mono HO_9.out (fun k_ hk => (⟨hk, hk.2⟩ : _ ∧ k_ ≠ gb348))) (fun _ hk => hk.2) (.int .i64 t341)) (fun _ hk => hk.2) (.int .i64 t342)) (fun _ hk => hk.2) (.int .i64 t343)) (fun _ hk => hk.2) (.int .i64 t344)) (fun _ hk => hk.2) (.int .i64 t345)) (fun _ hk => hk.1.2)⟩, ⟨by (with_reducible repeat (first | refine blk_drewN ?_ _ | refine blk_drew ?_ | refine blk_alloc ?_ _)); refine blk_put (cs := #[.int .i64 t341, .int .i64 t342, .int .i64 t343, .int .i64 t344, .int .i64 0]) ?_ 4 _ rfl; (with_reducible repeat (first | refine blk_drewN ?_ _ | refine blk_drew ?_ | refine blk_alloc ?_ _)); refine blk_put (cs := #[.int .i64 t341, .int .i64 t342, .int .i64 t343, .int .i64 0, .int .i64 0]) ?_ 3 _ rfl; (with_reducible repeat (first | refine blk_drewN ?_ _ | refine blk_drew ?_ | refine blk_alloc ?_ _)); refine blk_put (cs := #[.int .i64 t341, .int .i64 t342, .int .i64 0, .int .i64 0, .int .i64 0]) ?_ 2 _ rfl; (with_reducible repeat (first | refine blk_drewN ?_ _ | refine blk_drew ?_ | refine blk_alloc ?_ _)); refine blk_put (cs := #[.int .i64 t341, .int .i64 0, .int .i64 0, .int .i64 0, .int .i64 0]) ?_ 1 _ rfl; (with_reducible repeat (first | refine blk_drewN ?_ _ | refine blk_drew ?_ | refine blk_alloc ?_ _)); refine blk_put (cs := #[.int .i64 0, .int .i64 0, .int .i64 0, .int .i64 0, .int .i64 0]) ?_ 0 _ rfl; (with_reducible repeat (first | refine blk_drewN ?_ _ | refine blk_drew ?_ | refine blk_alloc ?_ _)); exact BK348.out⟩, ⟨by repeat (first | (with_reducible first | exact HB.out | apply below_alloc | apply pw_below_drewN | apply below_drew1 | refine below_set ?_ GE348.out) | exact HB.out)⟩⟩
           case rest =>
            clear HC21
            try clear c1
            try clear q1
            try clear hcv1
            try clear c2
            try clear p2
            try clear c3
            try clear c3b0
            try clear c3b1
            try clear p3
            try clear q3
            try clear hx3
            try clear c6
            try clear c6b0
            try clear c6b1
            try clear p6
            try clear c8
            try clear c8b0
            try clear c8b1
            try clear q10
            try clear hcv11
            try clear c12
            try clear c14
            try clear c14b0
            try clear c14b1
            try clear c15
            try clear c15b0
            try clear c18
            try clear c18b0
            try clear c20
            try clear c20b0
            try clear c20b1
            try clear c25
            try clear c25b0
            try clear c25b1
            try clear c27
            try clear c27b0
            try clear c28
            try clear c28b0
            try clear hcz24_0
            try clear hcz24_1
            try clear hcz24_2
            try clear hcz24_3
            try clear hcz24_4
            try clear hcz30_0
            try clear hcz30_1
            try clear hcz30_2
            try clear hcz30_3
            try clear hcz30_4
            try clear hfz24_0
            try clear hfz24_1
            try clear hfz24_2
            try clear hfz24_3
            try clear hfz24_4
            try clear hfz30_0
            try clear hfz30_1
            try clear hfz30_2
            try clear hfz30_3
            try clear hfz30_4
            try clear hx349_0
            try clear hx349_1
            try clear hx349_2
            try clear hx349_3
            try clear hx349_4
            try clear p2
            try clear p349
            try clear q1
            try clear q10
            try clear q349
            obtain ⟨kq, x69_20, rfl, HA, HJ20, HO_5, HO_9, BK348, HB⟩ := hcut
            cases kq with
            | zero => exact absurd HA.out (by simp [palletref19_Decode.j2])
            | succ kj20 =>
             have H := HA.out
             clear HA
             simp only [palletref19_Decode.j2] at H
             by_cases c32 : x69_20 = true
             ·subst c32
              have H1 : (some (([] : List (S30)), x8_2, 4)) = some (r1, r2, r3) := by rw [if_pos rfl] at H; exact H
              clear H
              have H := H1
              clear H1
              simp only [Option.some.injEq, Prod.mk.injEq] at H
              obtain ⟨rfl, rfl, rfl⟩ := H
              go_wp2
              repeat (go_quiet (fail); try go_wp2)
              go_ret3
              exact ⟨_, by first | rfl | (simp [errW_none, errW_some] <;> rfl) | (simp [*, errW_none, errW_some] <;> rfl), by first | exact Kd.R_nil _ _ _ _ _ | exact Kd.N_nil _ _ _ _ _ | exact Kd.V_nil _ _ _ _ _ | exact Kd.Q_nil _ _ _ _ _ | exact Kd.S_nil _ _ _ _ _, by repeat (first | (with_reducible first | exact HB.out | apply below_alloc | apply pw_below_drewN | apply below_drew1 | refine below_set ?_ GE348.out) | exact HB.out)⟩
             ·replace c32 := Bool.eq_false_iff.mpr c32
              subst c32
              have H1 : (if x9_2.length < 3518437208883 then (palletref19_Decode.l0 kj20 t330 t346 (x9_2 ++ [(⟨t341, t342, t343, t344, t345⟩ : S30)]) t338 (IntKind.u64.wrap (x42_2 + 1))) else (none)) = some (r1, r2, r3) := by rw [if_neg (show ¬ (false = true) by decide)] at H; exact H
              clear H
              have H := H1
              clear H1
              by_cases c33 : x9_2.length < 3518437208883
              ·rw [if_pos c33] at H
               have LMc33 := Aside0.mk c33
               clear c33
               obtain ⟨y350, hy350⟩ : ∃ y_ : List (S30), y_ = (x9_2 ++ [(⟨t341, t342, t343, t344, t345⟩ : S30)]) := ⟨_, rfl⟩
               replace H : (palletref19_Decode.l0 kj20 t330 t346 y350 t338 (IntKind.u64.wrap (x42_2 + 1))) = some (r1, r2, r3) := by first | (rw [hy350]; with_reducible exact H) | (have H2_ := (Option.bind_some _ _).symm.trans H; rw [hy350]; with_reducible exact H2_) | (have H2_ := (Option.bind_some _ _).symm.trans H; with_reducible exact H2_) | with_reducible exact H | (rw [hy350]; exact H) | exact H
               have Ny350 := Aside0.mk hy350
               clear hy350
               have H' := Aside0.mk H
               clear H
               have hcz34_0 : wc.cell? ⟨gb348, 0, none⟩ = some (.int .i64 t341) := (blk_cell BK348.out 0).trans rfl
               have hcz34_1 : wc.cell? ⟨gb348, 1, none⟩ = some (.int .i64 t342) := (blk_cell BK348.out 1).trans rfl
               have hcz34_2 : wc.cell? ⟨gb348, 2, none⟩ = some (.int .i64 t343) := (blk_cell BK348.out 2).trans rfl
               have hcz34_3 : wc.cell? ⟨gb348, 3, none⟩ = some (.int .i64 t344) := (blk_cell BK348.out 3).trans rfl
               have hcz34_4 : wc.cell? ⟨gb348, 4, none⟩ = some (.int .i64 t345) := (blk_cell BK348.out 4).trans rfl
               have hfz34_0 := blk_frozen BK348.out 0
               have hfz34_1 := blk_frozen BK348.out 1
               have hfz34_2 := blk_frozen BK348.out 2
               have hfz34_3 := blk_frozen BK348.out 3
               have hfz34_4 := blk_frozen BK348.out 4
               go_wp2_with (first | ((with_reducible refine gate_builtin (b := .append) (xs := #[.tmp 71, .tmp 73]) rfl ?_); (try (refine gate_guard (by rfl) ?_; dsimp only)); at_builtin; refine Kd.R_append k30 (w0 := w) w.heap.size rfl (.tmp 71) (.tmp 73) 22 30 (.agg #[(.int .i64 0), (.int .i64 0), (.int .i64 0), (.int .i64 0), (.int .i64 0)]) 40 rfl Tryd.underlying22 info30 rfl (by decide) (by omega) u9 x9_2 (⟨t341, t342, t343, t344, t345⟩ : S30) [.int .i64 t341, .int .i64 t342, .int .i64 t343, .int .i64 t344, .int .i64 t345] (fun k_ => k_ ≠ gb348) (fun _ => False) rfl rfl ?aP (fun _ hk => hk.elim) ?aF ?aO ?aB ?aS ?aL ?_; (case aP => exact k30_mkM _ _ _ (⟨t341, t342, t343, t344, t345⟩ : S30)); (case aB => exact (by repeat (first | (with_reducible first | exact HB.out | apply below_alloc | apply pw_below_drewN | apply below_drew1 | refine below_set ?_ GE348.out) | exact HB.out))); (case aF => exact (fun k_ hk => Kd.freshB (g := gb348) (o := .cells #[.int .i64 t341, .int .i64 t342, .int .i64 t343, .int .i64 t344, .int .i64 t345] 30 (0, 0)) (by (with_reducible repeat (first | refine blk_drewN ?_ _ | refine blk_drew ?_ | refine blk_alloc ?_ _)); exact BK348.out) k_ hk)); (case aO => exact (by (with_reducible repeat (first | apply Kd.R_alloc | apply Kd.R_drewN | apply Kd.R_drew)); exact HO_9.out)); (case aS => exact (below_size (by repeat (first | (with_reducible first | exact HB.out | apply below_alloc | apply pw_below_drewN | apply below_drew1 | refine below_set ?_ GE348.out) | exact HB.out)))); (case aL => have := LMc33.out; omega); intro v351 w35 ho hb hg hat; rw [← Ny350.out] at ho; have n0_ := Aside0.mk (Kd.R_over' (by (with_reducible repeat (first | apply Kd.R_alloc | apply Kd.R_drewN | apply Kd.R_drew)); exact HO_5.out) (Kd.R_typed (by (with_reducible repeat (first | apply Kd.R_alloc | apply Kd.R_drewN | apply Kd.R_drew)); exact HO_9.out)) (by decide) hg); have n1_ := Aside0.mk (blk_grown (g := gb348) (o := .cells #[.int .i64 t341, .int .i64 t342, .int .i64 t343, .int .i64 t344, .int .i64 t345] 30 (0, 0)) (by (with_reducible repeat (first | refine blk_drewN ?_ _ | refine blk_drew ?_ | refine blk_alloc ?_ _)); exact BK348.out) hg (Kd.R_away HO_9.out (fun _ hk => hk))); have n2_ := Aside0.mk (hb); have n3_ := Aside0.mk (ho); clear HO_5; clear BK348; clear HB; clear HO_9; have HO_5 := n0_; have BK348 := n1_; have HB := n2_; have HO352 := n3_; clear n0_ n1_ n2_ n3_; clear ho hb hg hat))
               repeat (go_quiet (first | ((with_reducible refine gate_builtin (b := .append) (xs := #[.tmp 71, .tmp 73]) rfl ?_); (try (refine gate_guard (by rfl) ?_; dsimp only)); at_builtin; refine Kd.R_append k30 (w0 := w) w.heap.size rfl (.tmp 71) (.tmp 73) 22 30 (.agg #[(.int .i64 0), (.int .i64 0), (.int .i64 0), (.int .i64 0), (.int .i64 0)]) 40 rfl Tryd.underlying22 info30 rfl (by decide) (by omega) u9 x9_2 (⟨t341, t342, t343, t344, t345⟩ : S30) [.int .i64 t341, .int .i64 t342, .int .i64 t343, .int .i64 t344, .int .i64 t345] (fun k_ => k_ ≠ gb348) (fun _ => False) rfl rfl ?aP (fun _ hk => hk.elim) ?aF ?aO ?aB ?aS ?aL ?_; (case aP => exact k30_mkM _ _ _ (⟨t341, t342, t343, t344, t345⟩ : S30)); (case aB => exact (by repeat (first | (with_reducible first | exact HB.out | apply below_alloc | apply pw_below_drewN | apply below_drew1 | refine below_set ?_ GE348.out) | exact HB.out))); (case aF => exact (fun k_ hk => Kd.freshB (g := gb348) (o := .cells #[.int .i64 t341, .int .i64 t342, .int .i64 t343, .int .i64 t344, .int .i64 t345] 30 (0, 0)) (by (with_reducible repeat (first | refine blk_drewN ?_ _ | refine blk_drew ?_ | refine blk_alloc ?_ _)); exact BK348.out) k_ hk)); (case aO => exact (by (with_reducible repeat (first | apply Kd.R_alloc | apply Kd.R_drewN | apply Kd.R_drew)); exact HO_9.out)); (case aS => exact (below_size (by repeat (first | (with_reducible first | exact HB.out | apply below_alloc | apply pw_below_drewN | apply below_drew1 | refine below_set ?_ GE348.out) | exact HB.out)))); (case aL => have := LMc33.out; omega); intro v351 w35 ho hb hg hat; rw [← Ny350.out] at ho; have n0_ := Aside0.mk (Kd.R_over' (by (with_reducible repeat (first | apply Kd.R_alloc | apply Kd.R_drewN | apply Kd.R_drew)); exact HO_5.out) (Kd.R_typed (by (with_reducible repeat (first | apply Kd.R_alloc | apply Kd.R_drewN | apply Kd.R_drew)); exact HO_9.out)) (by decide) hg); have n1_ := Aside0.mk (blk_grown (g := gb348) (o := .cells #[.int .i64 t341, .int .i64 t342, .int .i64 t343, .int .i64 t344, .int .i64 t345] 30 (0, 0)) (by (with_reducible repeat (first | refine blk_drewN ?_ _ | refine blk_drew ?_ | refine blk_alloc ?_ _)); exact BK348.out) hg (Kd.R_away HO_9.out (fun _ hk => hk))); have n2_ := Aside0.mk (hb); have n3_ := Aside0.mk (ho); clear HO_5; clear BK348; clear HB; clear HO_9; have HO_5 := n0_; have BK348 := n1_; have HB := n2_; have HO352 := n3_; clear n0_ n1_ n2_ n3_; clear ho hb hg hat)); try go_wp2_with (first | ((with_reducible refine gate_builtin (b := .append) (xs := #[.tmp 71, .tmp 73]) rfl ?_); (try (refine gate_guard (by rfl) ?_; dsimp only)); at_builtin; refine Kd.R_append k30 (w0 := w) w.heap.size rfl (.tmp 71) (.tmp 73) 22 30 (.agg #[(.int .i64 0), (.int .i64 0), (.int .i64 0), (.int .i64 0), (.int .i64 0)]) 40 rfl Tryd.underlying22 info30 rfl (by decide) (by omega) u9 x9_2 (⟨t341, t342, t343, t344, t345⟩ : S30) [.int .i64 t341, .int .i64 t342, .int .i64 t343, .int .i64 t344, .int .i64 t345] (fun k_ => k_ ≠ gb348) (fun _ => False) rfl rfl ?aP (fun _ hk => hk.elim) ?aF ?aO ?aB ?aS ?aL ?_; (case aP => exact k30_mkM _ _ _ (⟨t341, t342, t343, t344, t345⟩ : S30)); (case aB => exact (by repeat (first | (with_reducible first | exact HB.out | apply below_alloc | apply pw_below_drewN | apply below_drew1 | refine below_set ?_ GE348.out) | exact HB.out))); (case aF => exact (fun k_ hk => Kd.freshB (g := gb348) (o := .cells #[.int .i64 t341, .int .i64 t342, .int .i64 t343, .int .i64 t344, .int .i64 t345] 30 (0, 0)) (by (with_reducible repeat (first | refine blk_drewN ?_ _ | refine blk_drew ?_ | refine blk_alloc ?_ _)); exact BK348.out) k_ hk)); (case aO => exact (by (with_reducible repeat (first | apply Kd.R_alloc | apply Kd.R_drewN | apply Kd.R_drew)); exact HO_9.out)); (case aS => exact (below_size (by repeat (first | (with_reducible first | exact HB.out | apply below_alloc | apply pw_below_drewN | apply below_drew1 | refine below_set ?_ GE348.out) | exact HB.out)))); (case aL => have := LMc33.out; omega); intro v351 w35 ho hb hg hat; rw [← Ny350.out] at ho; have n0_ := Aside0.mk (Kd.R_over' (by (with_reducible repeat (first | apply Kd.R_alloc | apply Kd.R_drewN | apply Kd.R_drew)); exact HO_5.out) (Kd.R_typed (by (with_reducible repeat (first | apply Kd.R_alloc | apply Kd.R_drewN | apply Kd.R_drew)); exact HO_9.out)) (by decide) hg); have n1_ := Aside0.mk (blk_grown (g := gb348) (o := .cells #[.int .i64 t341, .int .i64 t342, .int .i64 t343, .int .i64 t344, .int .i64 t345] 30 (0, 0)) (by (with_reducible repeat (first | refine blk_drewN ?_ _ | refine blk_drew ?_ | refine blk_alloc ?_ _)); exact BK348.out) hg (Kd.R_away HO_9.out (fun _ hk => hk))); have n2_ := Aside0.mk (hb); have n3_ := Aside0.mk (ho); clear HO_5; clear BK348; clear HB; clear HO_9; have HO_5 := n0_; have BK348 := n1_; have HB := n2_; have HO352 := n3_; clear n0_ n1_ n2_ n3_; clear ho hb hg hat)))
               go_roundg kj20
               case measure => have := HJ3.out; have := HK2.out; have := HJ20.out; omega
               case rel => exact ⟨(t346), (y350), (IntKind.u64.wrap (x42_2 + 1)), (by first | rfl | (simp; done) | (simp [*]; done)), (by first | rfl | (simp; done) | (simp [*]; done)), H', ⟨by have := HJ3.out; have := HK2.out; have := HJ20.out; omega⟩, ⟨by (with_reducible repeat (first | apply Kd.R_alloc | apply Kd.R_drewN | apply Kd.R_drew)); exact HO_5.out⟩, ⟨by (with_reducible repeat (first | apply Kd.R_alloc | apply Kd.R_drewN | apply Kd.R_drew)); exact Kd.R_mono HO352.out (fun _ hk => trivial)⟩, ⟨by repeat (first | (with_reducible first | exact HB.out | apply below_alloc | apply pw_below_drewN | apply below_drew1 | refine below_set ?_ GE348.out) | exact HB.out)⟩⟩
              ·rw [if_neg c33] at H
               exact absurd H (by simp)
          ·rw [if_neg c20] at H
           have c20b0 : (t347 == 0) = false := beq_eq_false_iff_ne.mpr c20
           have c20b1 : (t347 != 0) = true := bne_iff_ne.mpr c20
           simp only [Option.some.injEq, Prod.mk.injEq] at H
           obtain ⟨rfl, rfl, rfl⟩ := H
           go_wp2_with (first | (go_at_call 22; (with_reducible refine (palletref19_Read.calls k2 _ _ t330 x8_2 t341 t342 t343 t344 t345 t346 t347 _ ?side1 ?side2 A19.out).mono ?_); (case side1 => repeat (first | exact (Kd.R_reads' HO_5.out).2.2 | (with_reducible refine Kd.C_alloc ?_ _) | (with_reducible refine Kd.C_drewN ?_ _) | (with_reducible refine Kd.C_drew ?_))); (case side2 => exact (Kd.R_reads' HO_5.out).2.1); rintro e w36 ⟨rfl, hb⟩; have n0_ := Aside0.mk (Kd.R_below (by (with_reducible repeat (first | apply Kd.R_alloc | apply Kd.R_drewN | apply Kd.R_drew)); exact HO_5.out) hb); have n1_ := Aside0.mk (Kd.R_below (by (with_reducible repeat (first | apply Kd.R_alloc | apply Kd.R_drewN | apply Kd.R_drew)); exact HO_9.out) hb); have n2_ := Aside0.mk (below_step (by repeat (first | (with_reducible first | exact HB.out | apply below_alloc | apply pw_below_drewN | apply below_drew1) | exact HB.out)) hb); clear HO_5; clear HO_9; clear HB; have HO_5 := n0_; have HO_9 := n1_; have HB := n2_; clear n0_ n1_ n2_; (try clear hb); (try clear hb2); (try clear hk); (try clear hi)) | ((with_reducible refine gate_dst (N := 10) rfl ?_); (try (refine gate_guard (by rfl) ?_; dsimp only)); refine box_event ?hg (N := 10) ?hd (cs := #[.int .i64 0, .int .i64 0, .int .i64 0, .int .i64 0, .int .i64 0]) (t := 30) ?hr ?_; (case hd => rfl); (case hg => rfl); (case hr => first | (go_simp; done) | (go_simp; rfl)); intro gb348 hg w37 hbox hb; have n0_ := Aside0.mk (Kd.R_below (by (with_reducible repeat (first | apply Kd.R_alloc | apply Kd.R_drewN | apply Kd.R_drew)); exact HO_5.out) hb); have n1_ := Aside0.mk (Kd.R_below (Kd.R_elderB (by (with_reducible repeat (first | apply Kd.R_alloc | apply Kd.R_drewN | apply Kd.R_drew)); exact HO_9.out) gb348 (Nat.le_of_eq hg.symm)) hb); have n2_ := Aside0.mk (below_step (by repeat (first | (with_reducible first | exact HB.out | apply below_alloc | apply pw_below_drewN | apply below_drew1) | exact HB.out)) hb); have n3_ := Aside0.mk (hbox); have n4_ := Aside0.mk ((by rw [hg]; exact (below_size (by repeat (first | (with_reducible first | exact HB.out | apply below_alloc | apply pw_below_drewN | apply below_drew1) | exact HB.out))) : w.heap.size ≤ gb348)); have n5_ := Aside0.mk ((by rw [hg]; exact (below_size (by repeat (first | (with_reducible first | exact HB.out | apply below_alloc | apply pw_below_drewN | apply below_drew1) | exact HB.out))) : w.heap.size ≤ gb348)); clear HO_5; clear HO_9; clear HB; have HO_5 := n0_; have HO_9 := n1_; have HB := n2_; have BK348 := n3_; have GW348 := n4_; have GE348 := n5_; clear n0_ n1_ n2_ n3_ n4_ n5_; clear hb hbox hg; have hcz38_0 : w37.cell? ⟨gb348, 0, none⟩ = some (.int .i64 0) := (blk_cell BK348.out 0).trans rfl; have hcz38_1 : w37.cell? ⟨gb348, 1, none⟩ = some (.int .i64 0) := (blk_cell BK348.out 1).trans rfl; have hcz38_2 : w37.cell? ⟨gb348, 2, none⟩ = some (.int .i64 0) := (blk_cell BK348.out 2).trans rfl; have hcz38_3 : w37.cell? ⟨gb348, 3, none⟩ = some (.int .i64 0) := (blk_cell BK348.out 3).trans rfl; have hcz38_4 : w37.cell? ⟨gb348, 4, none⟩ = some (.int .i64 0) := (blk_cell BK348.out 4).trans rfl; have hfz38_0 := blk_frozen BK348.out 0; have hfz38_1 := blk_frozen BK348.out 1; have hfz38_2 := blk_frozen BK348.out 2; have hfz38_3 := blk_frozen BK348.out 3; have hfz38_4 := blk_frozen BK348.out 4))
           repeat (go_quiet (first | (go_at_call 22; (with_reducible refine (palletref19_Read.calls k2 _ _ t330 x8_2 t341 t342 t343 t344 t345 t346 t347 _ ?side1 ?side2 A19.out).mono ?_); (case side1 => repeat (first | exact (Kd.R_reads' HO_5.out).2.2 | (with_reducible refine Kd.C_alloc ?_ _) | (with_reducible refine Kd.C_drewN ?_ _) | (with_reducible refine Kd.C_drew ?_))); (case side2 => exact (Kd.R_reads' HO_5.out).2.1); rintro e w36 ⟨rfl, hb⟩; have n0_ := Aside0.mk (Kd.R_below (by (with_reducible repeat (first | apply Kd.R_alloc | apply Kd.R_drewN | apply Kd.R_drew)); exact HO_5.out) hb); have n1_ := Aside0.mk (Kd.R_below (by (with_reducible repeat (first | apply Kd.R_alloc | apply Kd.R_drewN | apply Kd.R_drew)); exact HO_9.out) hb); have n2_ := Aside0.mk (below_step (by repeat (first | (with_reducible first | exact HB.out | apply below_alloc | apply pw_below_drewN | apply below_drew1) | exact HB.out)) hb); clear HO_5; clear HO_9; clear HB; have HO_5 := n0_; have HO_9 := n1_; have HB := n2_; clear n0_ n1_ n2_; (try clear hb); (try clear hb2); (try clear hk); (try clear hi)) | ((with_reducible refine gate_dst (N := 10) rfl ?_); (try (refine gate_guard (by rfl) ?_; dsimp only)); refine box_event ?hg (N := 10) ?hd (cs := #[.int .i64 0, .int .i64 0, .int .i64 0, .int .i64 0, .int .i64 0]) (t := 30) ?hr ?_; (case hd => rfl); (case hg => rfl); (case hr => first | (go_simp; done) | (go_simp; rfl)); intro gb348 hg w37 hbox hb; have n0_ := Aside0.mk (Kd.R_below (by (with_reducible repeat (first | apply Kd.R_alloc | apply Kd.R_drewN | apply Kd.R_drew)); exact HO_5.out) hb); have n1_ := Aside0.mk (Kd.R_below (Kd.R_elderB (by (with_reducible repeat (first | apply Kd.R_alloc | apply Kd.R_drewN | apply Kd.R_drew)); exact HO_9.out) gb348 (Nat.le_of_eq hg.symm)) hb); have n2_ := Aside0.mk (below_step (by repeat (first | (with_reducible first | exact HB.out | apply below_alloc | apply pw_below_drewN | apply below_drew1) | exact HB.out)) hb); have n3_ := Aside0.mk (hbox); have n4_ := Aside0.mk ((by rw [hg]; exact (below_size (by repeat (first | (with_reducible first | exact HB.out | apply below_alloc | apply pw_below_drewN | apply below_drew1) | exact HB.out))) : w.heap.size ≤ gb348)); have n5_ := Aside0.mk ((by rw [hg]; exact (below_size (by repeat (first | (with_reducible first | exact HB.out | apply below_alloc | apply pw_below_drewN | apply below_drew1) | exact HB.out))) : w.heap.size ≤ gb348)); clear HO_5; clear HO_9; clear HB; have HO_5 := n0_; have HO_9 := n1_; have HB := n2_; have BK348 := n3_; have GW348 := n4_; have GE348 := n5_; clear n0_ n1_ n2_ n3_ n4_ n5_; clear hb hbox hg; have hcz38_0 : w37.cell? ⟨gb348, 0, none⟩ = some (.int .i64 0) := (blk_cell BK348.out 0).trans rfl; have hcz38_1 : w37.cell? ⟨gb348, 1, none⟩ = some (.int .i64 0) := (blk_cell BK348.out 1).trans rfl; have hcz38_2 : w37.cell? ⟨gb348, 2, none⟩ = some (.int .i64 0) := (blk_cell BK348.out 2).trans rfl; have hcz38_3 : w37.cell? ⟨gb348, 3, none⟩ = some (.int .i64 0) := (blk_cell BK348.out 3).trans rfl; have hcz38_4 : w37.cell? ⟨gb348, 4, none⟩ = some (.int .i64 0) := (blk_cell BK348.out 4).trans rfl; have hfz38_0 := blk_frozen BK348.out 0; have hfz38_1 := blk_frozen BK348.out 1; have hfz38_2 := blk_frozen BK348.out 2; have hfz38_3 := blk_frozen BK348.out 3; have hfz38_4 := blk_frozen BK348.out 4)); try go_wp2_with (first | (go_at_call 22; (with_reducible refine (palletref19_Read.calls k2 _ _ t330 x8_2 t341 t342 t343 t344 t345 t346 t347 _ ?side1 ?side2 A19.out).mono ?_); (case side1 => repeat (first | exact (Kd.R_reads' HO_5.out).2.2 | (with_reducible refine Kd.C_alloc ?_ _) | (with_reducible refine Kd.C_drewN ?_ _) | (with_reducible refine Kd.C_drew ?_))); (case side2 => exact (Kd.R_reads' HO_5.out).2.1); rintro e w36 ⟨rfl, hb⟩; have n0_ := Aside0.mk (Kd.R_below (by (with_reducible repeat (first | apply Kd.R_alloc | apply Kd.R_drewN | apply Kd.R_drew)); exact HO_5.out) hb); have n1_ := Aside0.mk (Kd.R_below (by (with_reducible repeat (first | apply Kd.R_alloc | apply Kd.R_drewN | apply Kd.R_drew)); exact HO_9.out) hb); have n2_ := Aside0.mk (below_step (by repeat (first | (with_reducible first | exact HB.out | apply below_alloc | apply pw_below_drewN | apply below_drew1) | exact HB.out)) hb); clear HO_5; clear HO_9; clear HB; have HO_5 := n0_; have HO_9 := n1_; have HB := n2_; clear n0_ n1_ n2_; (try clear hb); (try clear hb2); (try clear hk); (try clear hi)) | ((with_reducible refine gate_dst (N := 10) rfl ?_); (try (refine gate_guard (by rfl) ?_; dsimp only)); refine box_event ?hg (N := 10) ?hd (cs := #[.int .i64 0, .int .i64 0, .int .i64 0, .int .i64 0, .int .i64 0]) (t := 30) ?hr ?_; (case hd => rfl); (case hg => rfl); (case hr => first | (go_simp; done) | (go_simp; rfl)); intro gb348 hg w37 hbox hb; have n0_ := Aside0.mk (Kd.R_below (by (with_reducible repeat (first | apply Kd.R_alloc | apply Kd.R_drewN | apply Kd.R_drew)); exact HO_5.out) hb); have n1_ := Aside0.mk (Kd.R_below (Kd.R_elderB (by (with_reducible repeat (first | apply Kd.R_alloc | apply Kd.R_drewN | apply Kd.R_drew)); exact HO_9.out) gb348 (Nat.le_of_eq hg.symm)) hb); have n2_ := Aside0.mk (below_step (by repeat (first | (with_reducible first | exact HB.out | apply below_alloc | apply pw_below_drewN | apply below_drew1) | exact HB.out)) hb); have n3_ := Aside0.mk (hbox); have n4_ := Aside0.mk ((by rw [hg]; exact (below_size (by repeat (first | (with_reducible first | exact HB.out | apply below_alloc | apply pw_below_drewN | apply below_drew1) | exact HB.out))) : w.heap.size ≤ gb348)); have n5_ := Aside0.mk ((by rw [hg]; exact (below_size (by repeat (first | (with_reducible first | exact HB.out | apply below_alloc | apply pw_below_drewN | apply below_drew1) | exact HB.out))) : w.heap.size ≤ gb348)); clear HO_5; clear HO_9; clear HB; have HO_5 := n0_; have HO_9 := n1_; have HB := n2_; have BK348 := n3_; have GW348 := n4_; have GE348 := n5_; clear n0_ n1_ n2_ n3_ n4_ n5_; clear hb hbox hg; have hcz38_0 : w37.cell? ⟨gb348, 0, none⟩ = some (.int .i64 0) := (blk_cell BK348.out 0).trans rfl; have hcz38_1 : w37.cell? ⟨gb348, 1, none⟩ = some (.int .i64 0) := (blk_cell BK348.out 1).trans rfl; have hcz38_2 : w37.cell? ⟨gb348, 2, none⟩ = some (.int .i64 0) := (blk_cell BK348.out 2).trans rfl; have hcz38_3 : w37.cell? ⟨gb348, 3, none⟩ = some (.int .i64 0) := (blk_cell BK348.out 3).trans rfl; have hcz38_4 : w37.cell? ⟨gb348, 4, none⟩ = some (.int .i64 0) := (blk_cell BK348.out 4).trans rfl; have hfz38_0 := blk_frozen BK348.out 0; have hfz38_1 := blk_frozen BK348.out 1; have hfz38_2 := blk_frozen BK348.out 2; have hfz38_3 := blk_frozen BK348.out 3; have hfz38_4 := blk_frozen BK348.out 4)))
           go_ret3
           exact ⟨_, by first | rfl | (simp [errW_none, errW_some] <;> rfl) | (simp [*, errW_none, errW_some] <;> rfl), by first | exact Kd.R_nil _ _ _ _ _ | exact Kd.N_nil _ _ _ _ _ | exact Kd.V_nil _ _ _ _ _ | exact Kd.Q_nil _ _ _ _ _ | exact Kd.S_nil _ _ _ _ _, by repeat (first | (with_reducible first | exact HB.out | apply below_alloc | apply pw_below_drewN | apply below_drew1 | refine below_set ?_ GE348.out) | exact HB.out)⟩
         ·rw [if_neg c18] at H
          have c18b0 : decide (x42_2 < t338) = false := decide_eq_false c18
          clear c18
          by_cases c39 : x8_2 = (t330.length : Int)
          ·rw [if_pos c39] at H
           have c39b0 : (x8_2 == (t330.length : Int)) = true := beq_iff_eq.mpr c39
           have c39b1 : (x8_2 != (t330.length : Int)) = false := bne_eq_false_iff_eq.mpr c39
           clear c39
           simp only [Option.some.injEq, Prod.mk.injEq] at H
           obtain ⟨rfl, rfl, rfl⟩ := H
           go_wp2
           repeat (go_quiet (fail); try go_wp2)
           go_ret3
           exact ⟨_, by first | rfl | (simp [errW_none, errW_some] <;> rfl) | (simp [*, errW_none, errW_some] <;> rfl), by (with_reducible repeat (first | apply Kd.R_alloc | apply Kd.R_drewN | apply Kd.R_drew)); exact HO_9.out, by repeat (first | (with_reducible first | exact HB.out | apply below_alloc | apply pw_below_drewN | apply below_drew1) | exact HB.out)⟩
          ·rw [if_neg c39] at H
           have c39b0 : (x8_2 == (t330.length : Int)) = false := beq_eq_false_iff_ne.mpr c39
           have c39b1 : (x8_2 != (t330.length : Int)) = true := bne_iff_ne.mpr c39
           simp only [Option.some.injEq, Prod.mk.injEq] at H
           obtain ⟨rfl, rfl, rfl⟩ := H
           go_wp2
           repeat (go_quiet (fail); try go_wp2)
           go_ret3
           exact ⟨_, by first | rfl | (simp [errW_none, errW_some] <;> rfl) | (simp [*, errW_none, errW_some] <;> rfl), by first | exact Kd.R_nil _ _ _ _ _ | exact Kd.N_nil _ _ _ _ _ | exact Kd.V_nil _ _ _ _ _ | exact Kd.Q_nil _ _ _ _ _ | exact Kd.S_nil _ _ _ _ _, by repeat (first | (with_reducible first | exact HB.out | apply below_alloc | apply pw_below_drewN | apply below_drew1) | exact HB.out)⟩
     ·rw [if_neg c14] at H
      have c14b0 : (t340 == 0) = false := beq_eq_false_iff_ne.mpr c14
      have c14b1 : (t340 != 0) = true := bne_iff_ne.mpr c14
      simp only [Option.some.injEq, Prod.mk.injEq] at H
      obtain ⟨rfl, rfl, rfl⟩ := H
      obtain ⟨Ao40, co40, eo40⟩ := Kd.R_slice HO_5.out
      subst eo40
      go_wp2_with (first | (go_at_call 49; (with_reducible refine (palletref02_TakeVary.calls kj3 _ _ t330 5 t338 t339 t340 _ ?side1 ?side2 A13.out).mono ?_); (case side1 => repeat (first | exact (Kd.R_reads' HO_5.out).2.2 | (with_reducible refine Kd.C_alloc ?_ _) | (with_reducible refine Kd.C_drewN ?_ _) | (with_reducible refine Kd.C_drew ?_))); (case side2 => exact (Kd.R_reads' HO_5.out).2.1); rintro e w' ⟨rfl, ⟨nd, rfl⟩⟩; (try first | exact ⟨rfl, _, World.drewN_drewN _ _ _⟩ | exact ⟨rfl, _, Eq.trans (World.drewN_drewN _ _ _) (congrArg (World.drewN _) (Nat.add_assoc _ _ _))⟩)))
      repeat (go_quiet (first | (go_at_call 49; (with_reducible refine (palletref02_TakeVary.calls kj3 _ _ t330 5 t338 t339 t340 _ ?side1 ?side2 A13.out).mono ?_); (case side1 => repeat (first | exact (Kd.R_reads' HO_5.out).2.2 | (with_reducible refine Kd.C_alloc ?_ _) | (with_reducible refine Kd.C_drewN ?_ _) | (with_reducible refine Kd.C_drew ?_))); (case side2 => exact (Kd.R_reads' HO_5.out).2.1); rintro e w' ⟨rfl, ⟨nd, rfl⟩⟩; (try first | exact ⟨rfl, _, World.drewN_drewN _ _ _⟩ | exact ⟨rfl, _, Eq.trans (World.drewN_drewN _ _ _) (congrArg (World.drewN _) (Nat.add_assoc _ _ _))⟩))); try go_wp2_with (first | (go_at_call 49; (with_reducible refine (palletref02_TakeVary.calls kj3 _ _ t330 5 t338 t339 t340 _ ?side1 ?side2 A13.out).mono ?_); (case side1 => repeat (first | exact (Kd.R_reads' HO_5.out).2.2 | (with_reducible refine Kd.C_alloc ?_ _) | (with_reducible refine Kd.C_drewN ?_ _) | (with_reducible refine Kd.C_drew ?_))); (case side2 => exact (Kd.R_reads' HO_5.out).2.1); rintro e w' ⟨rfl, ⟨nd, rfl⟩⟩; (try first | exact ⟨rfl, _, World.drewN_drewN _ _ _⟩ | exact ⟨rfl, _, Eq.trans (World.drewN_drewN _ _ _) (congrArg (World.drewN _) (Nat.add_assoc _ _ _))⟩))))
      go_ret3
      exact ⟨_, by first | rfl | (simp [errW_none, errW_some] <;> rfl) | (simp [*, errW_none, errW_some] <;> rfl), by first | exact Kd.R_nil _ _ _ _ _ | exact Kd.N_nil _ _ _ _ _ | exact Kd.V_nil _ _ _ _ _ | exact Kd.Q_nil _ _ _ _ _ | exact Kd.S_nil _ _ _ _ _, by repeat (first | (with_reducible first | exact HB.out | apply below_alloc | apply pw_below_drewN | apply below_drew1) | exact HB.out)⟩
 ·rw [if_neg c3] at H
  have c3b0 : (t331 == 0) = false := beq_eq_false_iff_ne.mpr c3
  have c3b1 : (t331 != 0) = true := bne_iff_ne.mpr c3
  simp only [Option.some.injEq, Prod.mk.injEq] at H
  obtain ⟨rfl, rfl, rfl⟩ := H
  go_enter Tryd.func25, Tryd.ntmps25
  go_wp2_with (first | (go_at_call 54; (with_reducible refine (palletref03_Open32.calls k _ _ l0 t330 t331 _ ?side1 ?side2 A2.out).mono ?_); (case side1 => repeat (first | exact HR0.out | (with_reducible refine Kd.C_alloc ?_ _) | (with_reducible refine Kd.C_drewN ?_ _) | (with_reducible refine Kd.C_drew ?_))); (case side2 => exact HC0.out); rintro e w41 ⟨v332, rfl, ho0, hb⟩; have n0_ := Aside0.mk (Kd.R_lower ho0 (below_size (by repeat (first | (with_reducible first | exact HB.out | apply below_alloc | apply pw_below_drewN | apply below_drew1) | exact HB.out)))); have n1_ := Aside0.mk (below_step (by repeat (first | (with_reducible first | exact HB.out | apply below_alloc | apply pw_below_drewN | apply below_drew1) | exact HB.out)) hb); clear HB; have HO333 := n0_; have HB := n1_; clear n0_ n1_; (try clear hb); (try clear hb2); (try clear hk); (try clear hi); (try clear ho0)))
  repeat (go_quiet (first | (go_at_call 54; (with_reducible refine (palletref03_Open32.calls k _ _ l0 t330 t331 _ ?side1 ?side2 A2.out).mono ?_); (case side1 => repeat (first | exact HR0.out | (with_reducible refine Kd.C_alloc ?_ _) | (with_reducible refine Kd.C_drewN ?_ _) | (with_reducible refine Kd.C_drew ?_))); (case side2 => exact HC0.out); rintro e w41 ⟨v332, rfl, ho0, hb⟩; have n0_ := Aside0.mk (Kd.R_lower ho0 (below_size (by repeat (first | (with_reducible first | exact HB.out | apply below_alloc | apply pw_below_drewN | apply below_drew1) | exact HB.out)))); have n1_ := Aside0.mk (below_step (by repeat (first | (with_reducible first | exact HB.out | apply below_alloc | apply pw_below_drewN | apply below_drew1) | exact HB.out)) hb); clear HB; have HO333 := n0_; have HB := n1_; clear n0_ n1_; (try clear hb); (try clear hb2); (try clear hk); (try clear hi); (try clear ho0))); try go_wp2_with (first | (go_at_call 54; (with_reducible refine (palletref03_Open32.calls k _ _ l0 t330 t331 _ ?side1 ?side2 A2.out).mono ?_); (case side1 => repeat (first | exact HR0.out | (with_reducible refine Kd.C_alloc ?_ _) | (with_reducible refine Kd.C_drewN ?_ _) | (with_reducible refine Kd.C_drew ?_))); (case side2 => exact HC0.out); rintro e w41 ⟨v332, rfl, ho0, hb⟩; have n0_ := Aside0.mk (Kd.R_lower ho0 (below_size (by repeat (first | (with_reducible first | exact HB.out | apply below_alloc | apply pw_below_drewN | apply below_drew1) | exact HB.out)))); have n1_ := Aside0.mk (below_step (by repeat (first | (with_reducible first | exact HB.out | apply below_alloc | apply pw_below_drewN | apply below_drew1) | exact HB.out)) hb); clear HB; have HO333 := n0_; have HB := n1_; clear n0_ n1_; (try clear hb); (try clear hb2); (try clear hk); (try clear hi); (try clear ho0))))
  go_ret3
  exact ⟨_, by first | rfl | (simp [errW_none, errW_some] <;> rfl) | (simp [*, errW_none, errW_some] <;> rfl), by first | exact Kd.R_nil _ _ _ _ _ | exact Kd.N_nil _ _ _ _ _ | exact Kd.V_nil _ _ _ _ _ | exact Kd.Q_nil _ _ _ _ _ | exact Kd.S_nil _ _ _ _ _, by repeat (first | (with_reducible first | exact HB.out | apply below_alloc | apply pw_below_drewN | apply below_drew1) | exact HB.out)⟩

end Go.Proofs.YtcbjbgleflbpmaaDoor.Print
