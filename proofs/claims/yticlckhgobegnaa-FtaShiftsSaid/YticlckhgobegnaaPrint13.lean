-- PRINTED by print.py (a twelfth state) out of the translation. Not trusted: Lean checks it.
import Derived.Test.YticlckhgobegnaaPrint0
import Derived.Test.YticlckhgobegnaaPrint9
import Derived.Test.YticlckhgobegnaaPrint11
namespace Go.Proofs.Yticlckhgobegnaa.Print
open Go.RowKit Go.Proofs.YticlckhgobegnaaW.PrintWords Go.Proofs.YticlckhgobegnaaW.PrintLast Go.Proofs.YticlckhgobegnaaW.PrintMore Go.Proofs.YticlckhgobegnaaX
attribute [local go_sem] str_lss str_geq max2_int min2_int max_two min_two max_three min_three max_four min_four   -- for this text's walks alone
set_option linter.unusedVariables false
set_option linter.unusedSimpArgs false

/-! ### palletlaw09_FtaShifts: function 5 -/
def palletlaw09_FtaShifts.l0 : Nat → List Int → Int → Bool → List Int → List Int → List Int → Int → Int → Option (Bool)
 | 0, _, _, _, _, _, _, _, _ => none
 | k + 1, x0, x1, x5, x6, x7, x27, x28, x29 => if x29 < x28 then (if 0 ≤ x29 then (if x29 < (x27.length : Int) then (if (rd x27 x29) > 1152921504606846976 then (some x5) else (if (rd x27 x29) < (-1152921504606846976) then (some x5) else (if x6.length < 17592186044416 then (if 0 ≤ (wrap64 ((wrap64 ((x0.length : Int) - 1)) - x29)) then (if (wrap64 ((wrap64 ((x0.length : Int) - 1)) - x29)) < (x0.length : Int) then (if x7.length < 17592186044416 then (palletlaw09_FtaShifts.l0 k x0 x1 x5 (x6 ++ [wrap64 ((rd x27 x29) + (wrap64 (x1)))]) (x7 ++ [rd x0 (wrap64 ((wrap64 ((x0.length : Int) - 1)) - x29))]) x27 x28 (wrap64 (x29 + 1))) else (none)) else (none)) else (none)) else (none)))) else (none)) else (none)) else ((fta_Average.f x0).bind fun bt330 => ((fta_Average.f x6).bind fun bt332 => ((fta_Average.f x7).bind fun bt334 => ((fta_Spread.f x0).bind fun bt336 => ((fta_Spread.f x6).bind fun bt338 => (if bt330.2 = 0 then (if x5 = true then (if bt332.2 = 0 then (if bt334.2 = 0 then (if bt332.1 = (wrap64 (bt330.1 + (wrap64 (x1)))) then (if bt334.1 = bt330.1 then (if bt336.1 = bt338.1 then (some (bt336.2 == bt338.2)) else (none)) else (none)) else (none)) else (none)) else (none)) else (none)) else (if x5 = true then (if bt332.2 = bt330.2 then (if bt334.2 = bt330.2 then (some (bt336.2 == bt338.2)) else (none)) else (none)) else (none))))))))
def palletlaw09_FtaShifts.f (k : Nat) (l0 : List Int) (a1 : Int) : Option (Bool) := (palletlaw09_live.f).bind fun t321 => (if t321 = true then (if (l0.length : Int) > 200 then (some t321) else (palletlaw09_FtaShifts.l0 k l0 a1 t321 ([] : List Int) ([] : List Int) l0 (l0.length : Int) 0)) else (none))
theorem palletlaw09_FtaShifts.mono_l : ∀ k, (∀ y0 y1 y2 y3 y4 y5 y6 y7, LeO (palletlaw09_FtaShifts.l0 k y0 y1 y2 y3 y4 y5 y6 y7) (palletlaw09_FtaShifts.l0 (k + 1) y0 y1 y2 y3 y4 y5 y6 y7))
 | 0 => fun _ _ _ _ _ _ _ _ r h => by simp [palletlaw09_FtaShifts.l0] at h
 | k + 1 => by
  have ih0 := palletlaw09_FtaShifts.mono_l k
  ·intro y0 y1 y2 y3 y4 y5 y6 y7
   unfold palletlaw09_FtaShifts.l0
   repeat' first
   | (with_reducible exact ih0 _ _ _ _ _ _ _ _)
   | (with_reducible exact LeO.refl _)
   | (with_reducible exact LeO.none _)
   | (with_reducible refine LeO.ite ?_ ?_)
   | (with_reducible refine LeO.bind ?_ (fun _ => ?_))
   | exact ih0 _ _ _ _ _ _ _ _
   | exact LeO.none _
   | refine LeO.ite ?_ ?_
   | refine LeO.bind ?_ (fun _ => ?_)
theorem palletlaw09_FtaShifts.mono : ∀ a0 a1 k, LeO (palletlaw09_FtaShifts.f k a0 a1) (palletlaw09_FtaShifts.f (k + 1) a0 a1) := by
 intro a0 a1 k
 have ih0 := palletlaw09_FtaShifts.mono_l k
 unfold palletlaw09_FtaShifts.f
 repeat' first
   | (with_reducible exact ih0 _ _ _ _ _ _ _ _)
   | (with_reducible exact LeO.refl _)
   | (with_reducible exact LeO.none _)
   | (with_reducible refine LeO.ite ?_ ?_)
   | (with_reducible refine LeO.bind ?_ (fun _ => ?_))
   | exact ih0 _ _ _ _ _ _ _ _
   | exact LeO.none _
   | refine LeO.ite ?_ ?_
   | refine LeO.bind ?_ (fun _ => ?_)
set_option maxHeartbeats 8000000 in
set_option maxRecDepth 100000 in
theorem palletlaw09_FtaShifts.calls (k : Nat) (A0 : Option Addr) (c0 : Nat) (l0 : List Int) (a1 : Int) (r : Bool) (w : World) (hr0 : Kd.C (Kd.int .i64) w A0 l0.length l0) (hc0 : l0.length ≤ c0) (hr_ : Aside0 (r = true)) (h : palletlaw09_FtaShifts.f k l0 a1 = some r) :
  Calls Try.prog 5 #[.slice A0 l0.length c0, .int .i32 a1] w fun e w' => e = .returned (.bool r) ∧ Below w.heap.size w w' := by
 have HR0 := Aside0.mk hr0
 have HC0 := Aside0.mk hc0
 clear hr0 hc0
 have HB := Aside0.mk (Below.refl w.heap.size w)
 have H : ((palletlaw09_live.f).bind fun t321 => (if t321 = true then (if (l0.length : Int) > 200 then (some t321) else (palletlaw09_FtaShifts.l0 k l0 a1 t321 ([] : List Int) ([] : List Int) l0 (l0.length : Int) 0)) else (none))) = some r := h
 clear h
 replace H := Option.bind_eq_some_iff.mp H
 obtain ⟨t321, A30, H⟩ := H
 replace H : (if t321 = true then (if (l0.length : Int) > 200 then (some t321) else (palletlaw09_FtaShifts.l0 k l0 a1 t321 ([] : List Int) ([] : List Int) l0 (l0.length : Int) 0)) else (none)) = some r := H
 have A3 := Aside0.mk A30
 clear A30
 by_cases c4 : t321 = true
 ·subst c4
  have H1 : (if (l0.length : Int) > 200 then (some true) else (palletlaw09_FtaShifts.l0 k l0 a1 true ([] : List Int) ([] : List Int) l0 (l0.length : Int) 0)) = some r := by rw [if_pos rfl] at H; exact H
  clear H
  have H := H1
  clear H1
  by_cases c5 : (l0.length : Int) > 200
  ·rw [if_pos c5] at H
   have c5b0 : decide (200 < (l0.length : Int)) = true := decide_eq_true c5
   have c5b1 : decide (200 < l0.length) = true := decide_eq_true (by omega)
   clear c5
   obtain rfl := Option.some.inj H
   go_enter Try.func5, Try.ntmps5
   go_wp2_with (first | ((with_reducible refine gate_callee (f := 6) rfl ?_); refine goesL_ (some 20) rfl rfl Try.func6 (by kernel_rfl) rfl #[] rfl (by (try simp only [List.map_toArray, List.map_cons, List.map_nil]); first | done | rfl | (simp only [List.length_drop, List.length_take]; first | rfl | (rw [Nat.min_eq_left (Int.toNat_le.2 (of_decide_eq_true (by assumption)))]; rfl))) ?_; (with_reducible refine (palletlaw09_live.calls  true _ A3.out).mono ?_); rintro e w6 ⟨rfl, hb⟩; refine ⟨_, rfl, ?_⟩; have n0_ := Aside0.mk (below_step (by repeat (first | (with_reducible first | exact HB.out | apply below_alloc | apply pw_below_drewN | apply below_drew1) | exact HB.out)) hb); clear HB; have HB := n0_; clear n0_; (try clear hb); (try clear hb2); (try clear hk); (try clear hi)))
   go_ret
   exact ⟨by first | rfl | (simp [errW_none, errW_some] <;> rfl) | (simp [*, errW_none, errW_some] <;> rfl), by repeat (first | (with_reducible first | exact HB.out | apply below_alloc | apply pw_below_drewN | apply below_drew1) | exact HB.out)⟩
  ·rw [if_neg c5] at H
   have c5b0 : decide (200 < (l0.length : Int)) = false := decide_eq_false c5
   have c5b1 : decide (200 < l0.length) = false := decide_eq_false (by omega)
   clear c5
   have H' := Aside0.mk H
   clear H
   go_enter Try.func5, Try.ntmps5
   go_wp2_with (first | ((with_reducible refine gate_callee (f := 6) rfl ?_); refine goesL_ (some 20) rfl rfl Try.func6 (by kernel_rfl) rfl #[] rfl (by (try simp only [List.map_toArray, List.map_cons, List.map_nil]); first | done | rfl | (simp only [List.length_drop, List.length_take]; first | rfl | (rw [Nat.min_eq_left (Int.toNat_le.2 (of_decide_eq_true (by assumption)))]; rfl))) ?_; (with_reducible refine (palletlaw09_live.calls  true _ A3.out).mono ?_); rintro e w7 ⟨rfl, hb⟩; refine ⟨_, rfl, ?_⟩; have n0_ := Aside0.mk (below_step (by repeat (first | (with_reducible first | exact HB.out | apply below_alloc | apply pw_below_drewN | apply below_drew1) | exact HB.out)) hb); clear HB; have HB := n0_; clear n0_; (try clear hb); (try clear hb2); (try clear hk); (try clear hi)))
   go_loopg [6, 7, 29] k (fun kq v6 v7 v29 w' => ∃ (x6_1 : List Int) (x7_1 : List Int) (x29_1 : Int), v29 = .int .i64 x29_1 ∧ Aside0 (palletlaw09_FtaShifts.l0 kq l0 a1 true x6_1 x7_1 l0 (l0.length : Int) x29_1 = some r) ∧ Aside0 (kq ≤ k) ∧ Aside0 (Kd.R (Kd.int .i64) 2 w' w.heap.size (fun k_ => some k_ ≠ (v7 : Value).ownBlock) v6 x6_1) ∧ Aside0 (Kd.R (Kd.int .i64) 2 w' w.heap.size (fun k_ => some k_ ≠ (v6 : Value).ownBlock) v7 x7_1) ∧ Aside0 (Below w.heap.size w w'))
   case atStart => exact ⟨(([] : List Int)), (([] : List Int)), (0), (by first | rfl | (simp; done) | (simp [*]; done)), H', ⟨Nat.le_refl _⟩, ⟨by first | exact Kd.R_nil _ _ _ _ _ | exact Kd.N_nil _ _ _ _ _ | exact Kd.V_nil _ _ _ _ _ | exact Kd.Q_nil _ _ _ _ _ | exact Kd.S_nil _ _ _ _ _⟩, ⟨by first | exact Kd.R_nil _ _ _ _ _ | exact Kd.N_nil _ _ _ _ _ | exact Kd.V_nil _ _ _ _ _ | exact Kd.Q_nil _ _ _ _ _ | exact Kd.S_nil _ _ _ _ _⟩, ⟨by repeat (first | (with_reducible first | exact HB.out | apply below_alloc | apply pw_below_drewN | apply below_drew1) | exact HB.out)⟩⟩
   case round =>
    clear H'
    try clear p2
    try clear c4
    try clear c5
    try clear c5b0
    try clear c5b1
    try clear c6
    obtain ⟨x6_1, x7_1, x29_1, rfl, HA, HK1, HO_6, HO_7, HB⟩ := hrel
    cases gk with
    | zero => exact absurd HA.out (by simp [palletlaw09_FtaShifts.l0])
    | succ k1 =>
     have H := HA.out
     clear HA
     simp only [palletlaw09_FtaShifts.l0] at H
     by_cases c8 : x29_1 < (l0.length : Int)
     ·rw [if_pos c8] at H
      have c8b0 : decide (x29_1 < (l0.length : Int)) = true := decide_eq_true c8
      clear c8
      by_cases c9 : 0 ≤ x29_1
      ·rw [if_pos c9] at H
       have c9b0 : decide (0 ≤ x29_1) = true := decide_eq_true c9
       clear c9
       by_cases c10 : x29_1 < (l0.length : Int)
       ·rw [if_pos c10] at H
        have c10b0 : decide (x29_1 < (l0.length : Int)) = true := decide_eq_true c10
        clear c10
        by_cases c11 : (rd l0 x29_1) > 1152921504606846976
        ·rw [if_pos c11] at H
         have c11b0 : decide (1152921504606846976 < (rd l0 x29_1)) = true := decide_eq_true c11
         clear c11
         obtain rfl := Option.some.inj H
         have p322 : 0 ≤ (x29_1 : Int) := of_decide_eq_true (by first | (with_reducible assumption) | assumption)
         have q322 : x29_1 < (l0.length : Int) := of_decide_eq_true (by first | (with_reducible assumption) | assumption)
         obtain ⟨ad322, e322, hx322_0⟩ := Kd.at_int HR0.out x29_1 p322 q322
         cases e322
         replace hx322_0 := (HB.out.cell (World.block_lt_of_cell? w _ hx322_0)).trans hx322_0
         replace p322 := eq_true p322
         replace q322 := eq_true q322
         go_wp2
         go_ret
         exact ⟨by first | rfl | (simp [errW_none, errW_some] <;> rfl) | (simp [*, errW_none, errW_some] <;> rfl), by repeat (first | (with_reducible first | exact HB.out | apply below_alloc | apply pw_below_drewN | apply below_drew1) | exact HB.out)⟩
        ·rw [if_neg c11] at H
         have c11b0 : decide (1152921504606846976 < (rd l0 x29_1)) = false := decide_eq_false c11
         clear c11
         by_cases c12 : (rd l0 x29_1) < (-1152921504606846976)
         ·rw [if_pos c12] at H
          have c12b0 : decide ((rd l0 x29_1) < (-1152921504606846976)) = true := decide_eq_true c12
          clear c12
          obtain rfl := Option.some.inj H
          have p322 : 0 ≤ (x29_1 : Int) := of_decide_eq_true (by first | (with_reducible assumption) | assumption)
          have q322 : x29_1 < (l0.length : Int) := of_decide_eq_true (by first | (with_reducible assumption) | assumption)
          obtain ⟨ad322, e322, hx322_0⟩ := Kd.at_int HR0.out x29_1 p322 q322
          cases e322
          replace hx322_0 := (HB.out.cell (World.block_lt_of_cell? w _ hx322_0)).trans hx322_0
          replace p322 := eq_true p322
          replace q322 := eq_true q322
          go_wp2
          go_ret
          exact ⟨by first | rfl | (simp [errW_none, errW_some] <;> rfl) | (simp [*, errW_none, errW_some] <;> rfl), by repeat (first | (with_reducible first | exact HB.out | apply below_alloc | apply pw_below_drewN | apply below_drew1) | exact HB.out)⟩
         ·rw [if_neg c12] at H
          have c12b0 : decide ((rd l0 x29_1) < (-1152921504606846976)) = false := decide_eq_false c12
          clear c12
          by_cases c13 : x6_1.length < 17592186044416
          ·rw [if_pos c13] at H
           have LMc13 := Aside0.mk c13
           clear c13
           obtain ⟨y323, hy323⟩ : ∃ y_ : List Int, y_ = (x6_1 ++ [wrap64 ((rd l0 x29_1) + (wrap64 (a1)))]) := ⟨_, rfl⟩
           replace H : (if 0 ≤ (wrap64 ((wrap64 ((l0.length : Int) - 1)) - x29_1)) then (if (wrap64 ((wrap64 ((l0.length : Int) - 1)) - x29_1)) < (l0.length : Int) then (if x7_1.length < 17592186044416 then (palletlaw09_FtaShifts.l0 k1 l0 a1 true y323 (x7_1 ++ [rd l0 (wrap64 ((wrap64 ((l0.length : Int) - 1)) - x29_1))]) l0 (l0.length : Int) (wrap64 (x29_1 + 1))) else (none)) else (none)) else (none)) = some r := by first | (rw [hy323]; with_reducible exact H) | (have H2_ := (Option.bind_some _ _).symm.trans H; rw [hy323]; with_reducible exact H2_) | (have H2_ := (Option.bind_some _ _).symm.trans H; with_reducible exact H2_) | with_reducible exact H | (rw [hy323]; exact H) | exact H
           have Ny323 := Aside0.mk hy323
           clear hy323
           obtain ⟨ji14, hji14⟩ : ∃ j_ : Int, (wrap64 ((wrap64 ((l0.length : Int) - 1)) - x29_1)) = j_ := ⟨_, rfl⟩
           replace H : (if 0 ≤ (ji14) then (if (ji14) < (l0.length : Int) then (if x7_1.length < 17592186044416 then (palletlaw09_FtaShifts.l0 k1 l0 a1 true y323 (x7_1 ++ [rd l0 (ji14)]) l0 (l0.length : Int) (wrap64 (x29_1 + 1))) else (none)) else (none)) else (none)) = some r := by first | (rw [hji14] at H; exact H) | (simp only [hji14] at H ⊢; exact H)
           have hji14w : (IntKind.i64.wrap ((wrap64 ((l0.length : Int) - 1)) - x29_1)) = ji14 := (i64_w _).trans hji14
           by_cases c15 : 0 ≤ (ji14)
           ·rw [if_pos c15] at H
            have c15b0 : decide (0 ≤ (ji14)) = true := decide_eq_true c15
            clear c15
            by_cases c16 : (ji14) < (l0.length : Int)
            ·rw [if_pos c16] at H
             have c16b0 : decide ((ji14) < (l0.length : Int)) = true := decide_eq_true c16
             clear c16
             by_cases c17 : x7_1.length < 17592186044416
             ·rw [if_pos c17] at H
              have LMc17 := Aside0.mk c17
              clear c17
              obtain ⟨y327, hy327⟩ : ∃ y_ : List Int, y_ = (x7_1 ++ [rd l0 (ji14)]) := ⟨_, rfl⟩
              replace H : (palletlaw09_FtaShifts.l0 k1 l0 a1 true y323 y327 l0 (l0.length : Int) (wrap64 (x29_1 + 1))) = some r := by first | (rw [hy327]; with_reducible exact H) | (have H2_ := (Option.bind_some _ _).symm.trans H; rw [hy327]; with_reducible exact H2_) | (have H2_ := (Option.bind_some _ _).symm.trans H; with_reducible exact H2_) | with_reducible exact H | (rw [hy327]; exact H) | exact H
              have Ny327 := Aside0.mk hy327
              clear hy327
              have H' := Aside0.mk H
              clear H
              have p322 : 0 ≤ (x29_1 : Int) := of_decide_eq_true (by first | (with_reducible assumption) | assumption)
              have q322 : x29_1 < (l0.length : Int) := of_decide_eq_true (by first | (with_reducible assumption) | assumption)
              obtain ⟨ad322, e322, hx322_0⟩ := Kd.at_int HR0.out x29_1 p322 q322
              cases e322
              replace hx322_0 := (HB.out.cell (World.block_lt_of_cell? w _ hx322_0)).trans hx322_0
              replace p322 := eq_true p322
              replace q322 := eq_true q322
              go_wp2_with (first | ((with_reducible refine gate_builtin (b := .append) (xs := #[.tmp 41, .tmp 46]) rfl ?_); at_builtin; refine Kd.R_append (Kd.int .i64) (w0 := w) w.heap.size rfl (.tmp 41) (.tmp 46) 22 2 (.int .i64 0) 8 rfl Try.underlying22 info2 rfl (by decide) (by omega) u6 x6_1 (wrap64 ((rd l0 x29_1) + (wrap64 (a1)))) [.int .i64 (wrap64 ((rd l0 x29_1) + (wrap64 (a1))))] (fun k_ => some k_ ≠ (u7 : Value).ownBlock) (fun _ => False) rfl rfl ?aP (fun _ hk => hk.elim) ?aF ?aO ?aB ?aS ?aL ?_; (case aP => exact rfl); (case aB => exact (by repeat (first | (with_reducible first | exact HB.out | apply below_alloc | apply pw_below_drewN | apply below_drew1) | exact HB.out))); (case aF => exact (fun k_ hk => Kd.fresh' (Kd.R_lt (by (with_reducible repeat (first | apply Kd.R_alloc | apply Kd.R_drewN | apply Kd.R_drew)); exact HO_7.out)) k_ hk)); (case aO => exact (by (with_reducible repeat (first | apply Kd.R_alloc | apply Kd.R_drewN | apply Kd.R_drew)); exact HO_6.out)); (case aS => exact (below_size (by repeat (first | (with_reducible first | exact HB.out | apply below_alloc | apply pw_below_drewN | apply below_drew1) | exact HB.out)))); (case aL => have := LMc13.out; omega); intro v324 w18 ho hb hg hat; rw [← Ny323.out] at ho; have n0_ := Aside0.mk (Kd.R_after (ok := (fun _ => True)) (by (with_reducible repeat (first | apply Kd.R_alloc | apply Kd.R_drewN | apply Kd.R_drew)); exact Kd.R_mono HO_7.out (fun _ hk => ⟨trivial, hk⟩)) hg hat); have n1_ := Aside0.mk (hb); have n2_ := Aside0.mk (ho); clear HO_7; clear HB; clear HO_6; have HO_7 := n0_; have HB := n1_; have HO325 := n2_; clear n0_ n1_ n2_; clear ho hb hg hat; have p326 : 0 ≤ ((ji14) : Int) := of_decide_eq_true (by first | (with_reducible assumption) | assumption); have q326 : (ji14) < (l0.length : Int) := of_decide_eq_true (by first | (with_reducible assumption) | assumption); obtain ⟨ad326, e326, hx326_0⟩ := Kd.at_int HR0.out (ji14) p326 q326; obtain rfl : ad322 = ad326 := (by injection e326); replace hx326_0 := (HB.out.cell (World.block_lt_of_cell? w _ hx326_0)).trans hx326_0; replace p326 := eq_true p326; replace q326 := eq_true q326) | ((with_reducible refine gate_builtin (b := .append) (xs := #[.tmp 48, .tmp 57]) rfl ?_); at_builtin; refine Kd.R_append (Kd.int .i64) (w0 := w) w.heap.size rfl (.tmp 48) (.tmp 57) 22 2 (.int .i64 0) 8 rfl Try.underlying22 info2 rfl (by decide) (by omega) u7 x7_1 (rd l0 (ji14)) [.int .i64 (rd l0 (ji14))] (fun k_ => some k_ ≠ (v324 : Value).ownBlock) (fun _ => False) rfl rfl ?aP (fun _ hk => hk.elim) ?aF ?aO ?aB ?aS ?aL ?_; (case aP => exact rfl); (case aB => exact (by repeat (first | (with_reducible first | exact HB.out | apply below_alloc | apply pw_below_drewN | apply below_drew1) | exact HB.out))); (case aF => exact (fun k_ hk => Kd.fresh' (Kd.R_lt (by (with_reducible repeat (first | apply Kd.R_alloc | apply Kd.R_drewN | apply Kd.R_drew)); first | exact HO325.out | exact Kd.R_mono HO325.out (fun _ _ => trivial))) k_ hk)); (case aO => exact (by (with_reducible repeat (first | apply Kd.R_alloc | apply Kd.R_drewN | apply Kd.R_drew)); exact Kd.R_mono HO_7.out (fun _ hk => hk.2))); (case aS => exact (below_size (by repeat (first | (with_reducible first | exact HB.out | apply below_alloc | apply pw_below_drewN | apply below_drew1) | exact HB.out)))); (case aL => have := LMc17.out; omega); intro v328 w19 ho hb hg hat; rw [← Ny327.out] at ho; have n0_ := Aside0.mk (Kd.R_after (ok := (fun _ => True)) (by (with_reducible repeat (first | apply Kd.R_alloc | apply Kd.R_drewN | apply Kd.R_drew)); exact Kd.R_mono HO325.out (fun _ hk => ⟨trivial, hk⟩)) hg hat); have n1_ := Aside0.mk (hb); have n2_ := Aside0.mk (ho); clear HO325; clear HB; clear HO_7; have HO325 := n0_; have HB := n1_; have HO329 := n2_; clear n0_ n1_ n2_; clear ho hb hg hat))
              go_roundg k1
              case measure => have := HK1.out; omega
              case rel => exact ⟨(y323), (y327), (wrap64 (x29_1 + 1)), (by first | rfl | (simp; done) | (simp [*]; done)), H', ⟨by have := HK1.out; omega⟩, ⟨by (with_reducible repeat (first | apply Kd.R_alloc | apply Kd.R_drewN | apply Kd.R_drew)); exact Kd.R_mono HO325.out (fun _ hk => by first | exact hk.2 | trivial)⟩, ⟨by (with_reducible repeat (first | apply Kd.R_alloc | apply Kd.R_drewN | apply Kd.R_drew)); exact HO329.out⟩, ⟨by repeat (first | (with_reducible first | exact HB.out | apply below_alloc | apply pw_below_drewN | apply below_drew1) | exact HB.out)⟩⟩
             ·rw [if_neg c17] at H
              exact absurd H (by simp)
            ·rw [if_neg c16] at H
             exact absurd H (by simp)
           ·rw [if_neg c15] at H
            exact absurd H (by simp)
          ·rw [if_neg c13] at H
           exact absurd H (by simp)
       ·rw [if_neg c10] at H
        exact absurd H (by simp)
      ·rw [if_neg c9] at H
       exact absurd H (by simp)
     ·rw [if_neg c8] at H
      have c8b0 : decide (x29_1 < (l0.length : Int)) = false := decide_eq_false c8
      clear c8
      replace H := Option.bind_eq_some_iff.mp H
      obtain ⟨⟨t330, t331⟩, A200, H⟩ := H
      replace H : ((fta_Average.f x6_1).bind fun bt332 => ((fta_Average.f x7_1).bind fun bt334 => ((fta_Spread.f l0).bind fun bt336 => ((fta_Spread.f x6_1).bind fun bt338 => (if t331 = 0 then (if true = true then (if bt332.2 = 0 then (if bt334.2 = 0 then (if bt332.1 = (wrap64 (t330 + (wrap64 (a1)))) then (if bt334.1 = t330 then (if bt336.1 = bt338.1 then (some (bt336.2 == bt338.2)) else (none)) else (none)) else (none)) else (none)) else (none)) else (none)) else (if true = true then (if bt332.2 = t331 then (if bt334.2 = t331 then (some (bt336.2 == bt338.2)) else (none)) else (none)) else (none))))))) = some r := H
      have A20 := Aside0.mk A200
      clear A200
      replace H := Option.bind_eq_some_iff.mp H
      obtain ⟨⟨t332, t333⟩, A210, H⟩ := H
      replace H : ((fta_Average.f x7_1).bind fun bt334 => ((fta_Spread.f l0).bind fun bt336 => ((fta_Spread.f x6_1).bind fun bt338 => (if t331 = 0 then (if true = true then (if t333 = 0 then (if bt334.2 = 0 then (if t332 = (wrap64 (t330 + (wrap64 (a1)))) then (if bt334.1 = t330 then (if bt336.1 = bt338.1 then (some (bt336.2 == bt338.2)) else (none)) else (none)) else (none)) else (none)) else (none)) else (none)) else (if true = true then (if t333 = t331 then (if bt334.2 = t331 then (some (bt336.2 == bt338.2)) else (none)) else (none)) else (none)))))) = some r := H
      have A21 := Aside0.mk A210
      clear A210
      replace H := Option.bind_eq_some_iff.mp H
      obtain ⟨⟨t334, t335⟩, A220, H⟩ := H
      replace H : ((fta_Spread.f l0).bind fun bt336 => ((fta_Spread.f x6_1).bind fun bt338 => (if t331 = 0 then (if true = true then (if t333 = 0 then (if t335 = 0 then (if t332 = (wrap64 (t330 + (wrap64 (a1)))) then (if t334 = t330 then (if bt336.1 = bt338.1 then (some (bt336.2 == bt338.2)) else (none)) else (none)) else (none)) else (none)) else (none)) else (none)) else (if true = true then (if t333 = t331 then (if t335 = t331 then (some (bt336.2 == bt338.2)) else (none)) else (none)) else (none))))) = some r := H
      have A22 := Aside0.mk A220
      clear A220
      replace H := Option.bind_eq_some_iff.mp H
      obtain ⟨⟨t336, t337⟩, A230, H⟩ := H
      replace H : ((fta_Spread.f x6_1).bind fun bt338 => (if t331 = 0 then (if true = true then (if t333 = 0 then (if t335 = 0 then (if t332 = (wrap64 (t330 + (wrap64 (a1)))) then (if t334 = t330 then (if t336 = bt338.1 then (some (t337 == bt338.2)) else (none)) else (none)) else (none)) else (none)) else (none)) else (none)) else (if true = true then (if t333 = t331 then (if t335 = t331 then (some (t337 == bt338.2)) else (none)) else (none)) else (none)))) = some r := H
      have A23 := Aside0.mk A230
      clear A230
      replace H := Option.bind_eq_some_iff.mp H
      obtain ⟨⟨t338, t339⟩, A240, H⟩ := H
      replace H : (if t331 = 0 then (if true = true then (if t333 = 0 then (if t335 = 0 then (if t332 = (wrap64 (t330 + (wrap64 (a1)))) then (if t334 = t330 then (if t336 = t338 then (some (t337 == t339)) else (none)) else (none)) else (none)) else (none)) else (none)) else (none)) else (if true = true then (if t333 = t331 then (if t335 = t331 then (some (t337 == t339)) else (none)) else (none)) else (none))) = some r := H
      have A24 := Aside0.mk A240
      clear A240
      by_cases c25 : t331 = 0
      ·rw [if_pos c25] at H
       have c25b0 : (t331 == 0) = true := beq_iff_eq.mpr c25
       have c25b1 : (t331 != 0) = false := bne_eq_false_iff_eq.mpr c25
       clear c25
       have H1 : (if t333 = 0 then (if t335 = 0 then (if t332 = (wrap64 (t330 + (wrap64 (a1)))) then (if t334 = t330 then (if t336 = t338 then (some (t337 == t339)) else (none)) else (none)) else (none)) else (none)) else (none)) = some r := by first | (rw [if_pos rfl] at H; exact H) | exact H
       clear H
       have H := H1
       clear H1
       by_cases c26 : t333 = 0
       ·rw [if_pos c26] at H
        have c26b0 : (t333 == 0) = true := beq_iff_eq.mpr c26
        have c26b1 : (t333 != 0) = false := bne_eq_false_iff_eq.mpr c26
        clear c26
        by_cases c27 : t335 = 0
        ·rw [if_pos c27] at H
         have c27b0 : (t335 == 0) = true := beq_iff_eq.mpr c27
         have c27b1 : (t335 != 0) = false := bne_eq_false_iff_eq.mpr c27
         clear c27
         by_cases c28 : t332 = (wrap64 (t330 + (wrap64 (a1))))
         ·rw [if_pos c28] at H
          have c28b0 : (t332 == (wrap64 (t330 + (wrap64 (a1))))) = true := beq_iff_eq.mpr c28
          have c28b1 : (t332 != (wrap64 (t330 + (wrap64 (a1))))) = false := bne_eq_false_iff_eq.mpr c28
          clear c28
          by_cases c29 : t334 = t330
          ·rw [if_pos c29] at H
           have c29b0 : (t334 == t330) = true := beq_iff_eq.mpr c29
           have c29b1 : (t334 != t330) = false := bne_eq_false_iff_eq.mpr c29
           clear c29
           by_cases c30 : t336 = t338
           ·rw [if_pos c30] at H
            have c30b0 : (t336 == t338) = true := beq_iff_eq.mpr c30
            have c30b1 : (t336 != t338) = false := bne_eq_false_iff_eq.mpr c30
            clear c30
            obtain rfl := Option.some.inj H
            go_wp2_with (first | ((with_reducible refine gate_callee (f := 8) rfl ?_); refine goesL_ (some 62) rfl rfl Try.func8 (by kernel_rfl) rfl #[.slice A0 l0.length c0] rfl (by (try simp only [List.map_toArray, List.map_cons, List.map_nil]); first | done | rfl | (simp only [List.length_drop, List.length_take]; first | rfl | (rw [Nat.min_eq_left (Int.toNat_le.2 (of_decide_eq_true (by assumption)))]; rfl))) ?_; (with_reducible refine (fta_Average.calls _ _ l0 t330 t331 _ ?side1 ?side2 A20.out).mono ?_); (case side1 => repeat (first | exact (Kd.C_below HR0.out HB.out) | (with_reducible refine Kd.C_alloc ?_ _) | (with_reducible refine Kd.C_drewN ?_ _) | (with_reducible refine Kd.C_drew ?_))); (case side2 => exact HC0.out); rintro e w31 ⟨rfl, hb⟩; refine ⟨_, rfl, ?_⟩; have n0_ := Aside0.mk (Kd.R_below (by (with_reducible repeat (first | apply Kd.R_alloc | apply Kd.R_drewN | apply Kd.R_drew)); exact HO_6.out) hb); have n1_ := Aside0.mk (Kd.R_below (by (with_reducible repeat (first | apply Kd.R_alloc | apply Kd.R_drewN | apply Kd.R_drew)); exact HO_7.out) hb); have n2_ := Aside0.mk (below_step (by repeat (first | (with_reducible first | exact HB.out | apply below_alloc | apply pw_below_drewN | apply below_drew1) | exact HB.out)) hb); clear HO_6; clear HO_7; clear HB; have HO_6 := n0_; have HO_7 := n1_; have HB := n2_; clear n0_ n1_ n2_; (try clear hb); (try clear hb2); (try clear hk); (try clear hi); obtain ⟨Ao32, co32, eo32⟩ := Kd.R_slice HO_6.out; subst eo32) | ((with_reducible refine gate_callee (f := 8) rfl ?_); refine goesL_ (some 67) rfl rfl Try.func8 (by kernel_rfl) rfl #[.slice Ao32 x6_1.length co32] rfl (by (try simp only [List.map_toArray, List.map_cons, List.map_nil]); first | done | rfl | (simp only [List.length_drop, List.length_take]; first | rfl | (rw [Nat.min_eq_left (Int.toNat_le.2 (of_decide_eq_true (by assumption)))]; rfl))) ?_; (with_reducible refine (fta_Average.calls _ _ x6_1 t332 t333 _ ?side1 ?side2 A21.out).mono ?_); (case side1 => repeat (first | exact (Kd.R_reads' HO_6.out).2.2 | (with_reducible refine Kd.C_alloc ?_ _) | (with_reducible refine Kd.C_drewN ?_ _) | (with_reducible refine Kd.C_drew ?_))); (case side2 => exact (Kd.R_reads' HO_6.out).2.1); rintro e w33 ⟨rfl, hb⟩; refine ⟨_, rfl, ?_⟩; have n0_ := Aside0.mk (Kd.R_below (by (with_reducible repeat (first | apply Kd.R_alloc | apply Kd.R_drewN | apply Kd.R_drew)); exact HO_6.out) hb); have n1_ := Aside0.mk (Kd.R_below (by (with_reducible repeat (first | apply Kd.R_alloc | apply Kd.R_drewN | apply Kd.R_drew)); exact HO_7.out) hb); have n2_ := Aside0.mk (below_step (by repeat (first | (with_reducible first | exact HB.out | apply below_alloc | apply pw_below_drewN | apply below_drew1) | exact HB.out)) hb); clear HO_6; clear HO_7; clear HB; have HO_6 := n0_; have HO_7 := n1_; have HB := n2_; clear n0_ n1_ n2_; (try clear hb); (try clear hb2); (try clear hk); (try clear hi); obtain ⟨Ao34, co34, eo34⟩ := Kd.R_slice HO_7.out; subst eo34) | ((with_reducible refine gate_callee (f := 8) rfl ?_); refine goesL_ (some 72) rfl rfl Try.func8 (by kernel_rfl) rfl #[.slice Ao34 x7_1.length co34] rfl (by (try simp only [List.map_toArray, List.map_cons, List.map_nil]); first | done | rfl | (simp only [List.length_drop, List.length_take]; first | rfl | (rw [Nat.min_eq_left (Int.toNat_le.2 (of_decide_eq_true (by assumption)))]; rfl))) ?_; (with_reducible refine (fta_Average.calls _ _ x7_1 t334 t335 _ ?side1 ?side2 A22.out).mono ?_); (case side1 => repeat (first | exact (Kd.R_reads' HO_7.out).2.2 | (with_reducible refine Kd.C_alloc ?_ _) | (with_reducible refine Kd.C_drewN ?_ _) | (with_reducible refine Kd.C_drew ?_))); (case side2 => exact (Kd.R_reads' HO_7.out).2.1); rintro e w35 ⟨rfl, hb⟩; refine ⟨_, rfl, ?_⟩; have n0_ := Aside0.mk (Kd.R_below (by (with_reducible repeat (first | apply Kd.R_alloc | apply Kd.R_drewN | apply Kd.R_drew)); exact HO_6.out) hb); have n1_ := Aside0.mk (Kd.R_below (by (with_reducible repeat (first | apply Kd.R_alloc | apply Kd.R_drewN | apply Kd.R_drew)); exact HO_7.out) hb); have n2_ := Aside0.mk (below_step (by repeat (first | (with_reducible first | exact HB.out | apply below_alloc | apply pw_below_drewN | apply below_drew1) | exact HB.out)) hb); clear HO_6; clear HO_7; clear HB; have HO_6 := n0_; have HO_7 := n1_; have HB := n2_; clear n0_ n1_ n2_; (try clear hb); (try clear hb2); (try clear hk); (try clear hi)) | ((with_reducible refine gate_callee (f := 9) rfl ?_); refine goesL_ (some 77) rfl rfl Try.func9 (by kernel_rfl) rfl #[.slice A0 l0.length c0] rfl (by (try simp only [List.map_toArray, List.map_cons, List.map_nil]); first | done | rfl | (simp only [List.length_drop, List.length_take]; first | rfl | (rw [Nat.min_eq_left (Int.toNat_le.2 (of_decide_eq_true (by assumption)))]; rfl))) ?_; (with_reducible refine (fta_Spread.calls _ _ l0 t336 t337 _ ?side1 ?side2 A23.out).mono ?_); (case side1 => repeat (first | exact (Kd.C_below HR0.out HB.out) | (with_reducible refine Kd.C_alloc ?_ _) | (with_reducible refine Kd.C_drewN ?_ _) | (with_reducible refine Kd.C_drew ?_))); (case side2 => exact HC0.out); rintro e w' ⟨rfl, ⟨nd, rfl⟩⟩; refine ⟨_, rfl, ?_⟩) | ((with_reducible refine gate_callee (f := 9) rfl ?_); refine goesL_ (some 82) rfl rfl Try.func9 (by kernel_rfl) rfl #[.slice Ao32 x6_1.length co32] rfl (by (try simp only [List.map_toArray, List.map_cons, List.map_nil]); first | done | rfl | (simp only [List.length_drop, List.length_take]; first | rfl | (rw [Nat.min_eq_left (Int.toNat_le.2 (of_decide_eq_true (by assumption)))]; rfl))) ?_; (with_reducible refine (fta_Spread.calls _ _ x6_1 t338 t339 _ ?side1 ?side2 A24.out).mono ?_); (case side1 => repeat (first | exact (Kd.R_reads' HO_6.out).2.2 | (with_reducible refine Kd.C_alloc ?_ _) | (with_reducible refine Kd.C_drewN ?_ _) | (with_reducible refine Kd.C_drew ?_))); (case side2 => exact (Kd.R_reads' HO_6.out).2.1); rintro e w' ⟨rfl, ⟨nd, rfl⟩⟩; refine ⟨_, rfl, ?_⟩))
            go_ret
            exact ⟨by first | rfl | (simp [errW_none, errW_some] <;> rfl) | (simp [*, errW_none, errW_some] <;> rfl), by repeat (first | (with_reducible first | exact HB.out | apply below_alloc | apply pw_below_drewN | apply below_drew1) | exact HB.out)⟩
           ·rw [if_neg c30] at H
            exact absurd H (by simp)
          ·rw [if_neg c29] at H
           exact absurd H (by simp)
         ·rw [if_neg c28] at H
          exact absurd H (by simp)
        ·rw [if_neg c27] at H
         exact absurd H (by simp)
       ·rw [if_neg c26] at H
        exact absurd H (by simp)
      ·rw [if_neg c25] at H
       have c25b0 : (t331 == 0) = false := beq_eq_false_iff_ne.mpr c25
       have c25b1 : (t331 != 0) = true := bne_iff_ne.mpr c25
       have H1 : (if t333 = t331 then (if t335 = t331 then (some (t337 == t339)) else (none)) else (none)) = some r := by first | (rw [if_pos rfl] at H; exact H) | exact H
       clear H
       have H := H1
       clear H1
       by_cases c36 : t333 = t331
       ·rw [if_pos c36] at H
        have c36b0 : (t333 == t331) = true := beq_iff_eq.mpr c36
        have c36b1 : (t333 != t331) = false := bne_eq_false_iff_eq.mpr c36
        clear c36
        by_cases c37 : t335 = t331
        ·rw [if_pos c37] at H
         have c37b0 : (t335 == t331) = true := beq_iff_eq.mpr c37
         have c37b1 : (t335 != t331) = false := bne_eq_false_iff_eq.mpr c37
         clear c37
         obtain rfl := Option.some.inj H
         go_wp2_with (first | ((with_reducible refine gate_callee (f := 8) rfl ?_); refine goesL_ (some 62) rfl rfl Try.func8 (by kernel_rfl) rfl #[.slice A0 l0.length c0] rfl (by (try simp only [List.map_toArray, List.map_cons, List.map_nil]); first | done | rfl | (simp only [List.length_drop, List.length_take]; first | rfl | (rw [Nat.min_eq_left (Int.toNat_le.2 (of_decide_eq_true (by assumption)))]; rfl))) ?_; (with_reducible refine (fta_Average.calls _ _ l0 t330 t331 _ ?side1 ?side2 A20.out).mono ?_); (case side1 => repeat (first | exact (Kd.C_below HR0.out HB.out) | (with_reducible refine Kd.C_alloc ?_ _) | (with_reducible refine Kd.C_drewN ?_ _) | (with_reducible refine Kd.C_drew ?_))); (case side2 => exact HC0.out); rintro e w38 ⟨rfl, hb⟩; refine ⟨_, rfl, ?_⟩; have n0_ := Aside0.mk (Kd.R_below (by (with_reducible repeat (first | apply Kd.R_alloc | apply Kd.R_drewN | apply Kd.R_drew)); exact HO_6.out) hb); have n1_ := Aside0.mk (Kd.R_below (by (with_reducible repeat (first | apply Kd.R_alloc | apply Kd.R_drewN | apply Kd.R_drew)); exact HO_7.out) hb); have n2_ := Aside0.mk (below_step (by repeat (first | (with_reducible first | exact HB.out | apply below_alloc | apply pw_below_drewN | apply below_drew1) | exact HB.out)) hb); clear HO_6; clear HO_7; clear HB; have HO_6 := n0_; have HO_7 := n1_; have HB := n2_; clear n0_ n1_ n2_; (try clear hb); (try clear hb2); (try clear hk); (try clear hi); obtain ⟨Ao39, co39, eo39⟩ := Kd.R_slice HO_6.out; subst eo39) | ((with_reducible refine gate_callee (f := 8) rfl ?_); refine goesL_ (some 67) rfl rfl Try.func8 (by kernel_rfl) rfl #[.slice Ao39 x6_1.length co39] rfl (by (try simp only [List.map_toArray, List.map_cons, List.map_nil]); first | done | rfl | (simp only [List.length_drop, List.length_take]; first | rfl | (rw [Nat.min_eq_left (Int.toNat_le.2 (of_decide_eq_true (by assumption)))]; rfl))) ?_; (with_reducible refine (fta_Average.calls _ _ x6_1 t332 t333 _ ?side1 ?side2 A21.out).mono ?_); (case side1 => repeat (first | exact (Kd.R_reads' HO_6.out).2.2 | (with_reducible refine Kd.C_alloc ?_ _) | (with_reducible refine Kd.C_drewN ?_ _) | (with_reducible refine Kd.C_drew ?_))); (case side2 => exact (Kd.R_reads' HO_6.out).2.1); rintro e w40 ⟨rfl, hb⟩; refine ⟨_, rfl, ?_⟩; have n0_ := Aside0.mk (Kd.R_below (by (with_reducible repeat (first | apply Kd.R_alloc | apply Kd.R_drewN | apply Kd.R_drew)); exact HO_6.out) hb); have n1_ := Aside0.mk (Kd.R_below (by (with_reducible repeat (first | apply Kd.R_alloc | apply Kd.R_drewN | apply Kd.R_drew)); exact HO_7.out) hb); have n2_ := Aside0.mk (below_step (by repeat (first | (with_reducible first | exact HB.out | apply below_alloc | apply pw_below_drewN | apply below_drew1) | exact HB.out)) hb); clear HO_6; clear HO_7; clear HB; have HO_6 := n0_; have HO_7 := n1_; have HB := n2_; clear n0_ n1_ n2_; (try clear hb); (try clear hb2); (try clear hk); (try clear hi); obtain ⟨Ao41, co41, eo41⟩ := Kd.R_slice HO_7.out; subst eo41) | ((with_reducible refine gate_callee (f := 8) rfl ?_); refine goesL_ (some 72) rfl rfl Try.func8 (by kernel_rfl) rfl #[.slice Ao41 x7_1.length co41] rfl (by (try simp only [List.map_toArray, List.map_cons, List.map_nil]); first | done | rfl | (simp only [List.length_drop, List.length_take]; first | rfl | (rw [Nat.min_eq_left (Int.toNat_le.2 (of_decide_eq_true (by assumption)))]; rfl))) ?_; (with_reducible refine (fta_Average.calls _ _ x7_1 t334 t335 _ ?side1 ?side2 A22.out).mono ?_); (case side1 => repeat (first | exact (Kd.R_reads' HO_7.out).2.2 | (with_reducible refine Kd.C_alloc ?_ _) | (with_reducible refine Kd.C_drewN ?_ _) | (with_reducible refine Kd.C_drew ?_))); (case side2 => exact (Kd.R_reads' HO_7.out).2.1); rintro e w42 ⟨rfl, hb⟩; refine ⟨_, rfl, ?_⟩; have n0_ := Aside0.mk (Kd.R_below (by (with_reducible repeat (first | apply Kd.R_alloc | apply Kd.R_drewN | apply Kd.R_drew)); exact HO_6.out) hb); have n1_ := Aside0.mk (Kd.R_below (by (with_reducible repeat (first | apply Kd.R_alloc | apply Kd.R_drewN | apply Kd.R_drew)); exact HO_7.out) hb); have n2_ := Aside0.mk (below_step (by repeat (first | (with_reducible first | exact HB.out | apply below_alloc | apply pw_below_drewN | apply below_drew1) | exact HB.out)) hb); clear HO_6; clear HO_7; clear HB; have HO_6 := n0_; have HO_7 := n1_; have HB := n2_; clear n0_ n1_ n2_; (try clear hb); (try clear hb2); (try clear hk); (try clear hi)) | ((with_reducible refine gate_callee (f := 9) rfl ?_); refine goesL_ (some 77) rfl rfl Try.func9 (by kernel_rfl) rfl #[.slice A0 l0.length c0] rfl (by (try simp only [List.map_toArray, List.map_cons, List.map_nil]); first | done | rfl | (simp only [List.length_drop, List.length_take]; first | rfl | (rw [Nat.min_eq_left (Int.toNat_le.2 (of_decide_eq_true (by assumption)))]; rfl))) ?_; (with_reducible refine (fta_Spread.calls _ _ l0 t336 t337 _ ?side1 ?side2 A23.out).mono ?_); (case side1 => repeat (first | exact (Kd.C_below HR0.out HB.out) | (with_reducible refine Kd.C_alloc ?_ _) | (with_reducible refine Kd.C_drewN ?_ _) | (with_reducible refine Kd.C_drew ?_))); (case side2 => exact HC0.out); rintro e w' ⟨rfl, ⟨nd, rfl⟩⟩; refine ⟨_, rfl, ?_⟩) | ((with_reducible refine gate_callee (f := 9) rfl ?_); refine goesL_ (some 82) rfl rfl Try.func9 (by kernel_rfl) rfl #[.slice Ao39 x6_1.length co39] rfl (by (try simp only [List.map_toArray, List.map_cons, List.map_nil]); first | done | rfl | (simp only [List.length_drop, List.length_take]; first | rfl | (rw [Nat.min_eq_left (Int.toNat_le.2 (of_decide_eq_true (by assumption)))]; rfl))) ?_; (with_reducible refine (fta_Spread.calls _ _ x6_1 t338 t339 _ ?side1 ?side2 A24.out).mono ?_); (case side1 => repeat (first | exact (Kd.R_reads' HO_6.out).2.2 | (with_reducible refine Kd.C_alloc ?_ _) | (with_reducible refine Kd.C_drewN ?_ _) | (with_reducible refine Kd.C_drew ?_))); (case side2 => exact (Kd.R_reads' HO_6.out).2.1); rintro e w' ⟨rfl, ⟨nd, rfl⟩⟩; refine ⟨_, rfl, ?_⟩))
         go_ret
         exact ⟨by first | rfl | (simp [errW_none, errW_some] <;> rfl) | (simp [*, errW_none, errW_some] <;> rfl), by repeat (first | (with_reducible first | exact HB.out | apply below_alloc | apply pw_below_drewN | apply below_drew1) | exact HB.out)⟩
        ·rw [if_neg c37] at H
         exact absurd H (by simp)
       ·rw [if_neg c36] at H
        exact absurd H (by simp)
 ·replace c4 := Bool.eq_false_iff.mpr c4
  subst c4
  have H1 : (none) = some r := by rw [if_neg (show ¬ (false = true) by decide)] at H; exact H
  clear H
  have H := H1
  clear H1
  exact absurd H (by simp)

end Go.Proofs.Yticlckhgobegnaa.Print
