-- PRINTED by print.py (a twelfth state) out of the translation. Not trusted: Lean checks it.
import Derived.Test.YticlckhgobegnaaPrint0
import Derived.Test.YticlckhgobegnaaPrint9
import Derived.Test.YticlckhgobegnaaPrint11
namespace Go.Proofs.Yticlckhgobegnaa.Print
open Go.RowKit Go.Proofs.YticlckhgobegnaaW.PrintWords Go.Proofs.YticlckhgobegnaaW.PrintLast Go.Proofs.YticlckhgobegnaaW.PrintMore Go.Proofs.YticlckhgobegnaaX
attribute [local go_sem] str_lss str_geq max2_int min2_int max_two min_two max_three min_three max_four min_four   -- for this text's walks alone
set_option linter.unusedVariables false
set_option linter.unusedSimpArgs false

/-! ### palletlaw09_FtaLies: function 4 -/
mutual
def palletlaw09_FtaLies.j0 : Nat → List Int → List Int → List Int → Int → Int → Bool → Bool → Option (Bool)
 | 0, _, _, _, _, _, _, _ => none
 | k + 1, x0, x1, x2, x3, x4, x11, x37 => if x37 = true then (some x11) else (palletlaw09_FtaLies.l0 k x1 x2 (Int.tmod x3 1125899906842624) (Int.tmod x4 1125899906842624) x11 ([] : List Int) ([] : List Int) ([] : List Int) x0 (x0.length : Int) 0)
def palletlaw09_FtaLies.l0 : Nat → List Int → List Int → Int → Int → Bool → List Int → List Int → List Int → List Int → Int → Int → Option (Bool)
 | 0, _, _, _, _, _, _, _, _, _, _, _ => none
 | k + 1, x1, x2, x3, x4, x11, x12, x13, x14, x43, x44, x45 => if x45 < x44 then (if 0 ≤ x45 then (if x45 < (x43.length : Int) then (if x45 < (x1.length : Int) then (if x45 < (x2.length : Int) then (if x14.length < 17592186044416 then (if x12.length < 17592186044416 then (if x13.length < 17592186044416 then (palletlaw09_FtaLies.l0 k x1 x2 x3 x4 x11 (x12 ++ [wrap64 ((wrap64 (rd x43 x45)) + (wrap64 (rd x1 x45)))]) (x13 ++ [wrap64 ((wrap64 (rd x43 x45)) + (wrap64 (rd x2 x45)))]) (x14 ++ [wrap64 (rd x43 x45)]) x43 x44 (wrap64 (x45 + 1))) else (none)) else (none)) else (none)) else (if x14.length < 17592186044416 then (if x12.length < 17592186044416 then (if x13.length < 17592186044416 then (palletlaw09_FtaLies.l0 k x1 x2 x3 x4 x11 (x12 ++ [wrap64 ((wrap64 (rd x43 x45)) + (wrap64 (rd x1 x45)))]) (x13 ++ [wrap64 (wrap64 (rd x43 x45))]) (x14 ++ [wrap64 (rd x43 x45)]) x43 x44 (wrap64 (x45 + 1))) else (none)) else (none)) else (none))) else (if x45 < (x2.length : Int) then (if x14.length < 17592186044416 then (if x12.length < 17592186044416 then (if x13.length < 17592186044416 then (palletlaw09_FtaLies.l0 k x1 x2 x3 x4 x11 (x12 ++ [wrap64 (wrap64 (rd x43 x45))]) (x13 ++ [wrap64 ((wrap64 (rd x43 x45)) + (wrap64 (rd x2 x45)))]) (x14 ++ [wrap64 (rd x43 x45)]) x43 x44 (wrap64 (x45 + 1))) else (none)) else (none)) else (none)) else (if x14.length < 17592186044416 then (if x12.length < 17592186044416 then (if x13.length < 17592186044416 then (palletlaw09_FtaLies.l0 k x1 x2 x3 x4 x11 (x12 ++ [wrap64 (wrap64 (rd x43 x45))]) (x13 ++ [wrap64 (wrap64 (rd x43 x45))]) (x14 ++ [wrap64 (rd x43 x45)]) x43 x44 (wrap64 (x45 + 1))) else (none)) else (none)) else (none)))) else (none)) else (none)) else (if x12.length < 17592186044416 then ((fta_Average.f (x12 ++ [x3])).bind fun bt312 => (if x13.length < 17592186044416 then ((fta_Average.f (x13 ++ [x4])).bind fun bt317 => ((fta_Spread.f x14).bind fun bt319 => (if bt312.2 = 0 then (if bt317.2 = 0 then (if bt319.2 = 0 then (palletlaw09_FtaLies.j2 k x11 32768 bt312.1 bt317.1 bt319.1 (decide (bt319.1 > 8589934592))) else (palletlaw09_FtaLies.j2 k x11 32768 bt312.1 bt317.1 bt319.1 true)) else (palletlaw09_FtaLies.j2 k x11 32768 bt312.1 bt317.1 bt319.1 true)) else (palletlaw09_FtaLies.j2 k x11 32768 bt312.1 bt317.1 bt319.1 true)))) else (none))) else (none))
def palletlaw09_FtaLies.j2 : Nat → Bool → Int → Int → Int → Int → Bool → Option (Bool)
 | 0, _, _, _, _, _, _ => none
 | k + 1, x11, x19, x20, x22, x24, x122 => if x122 = true then (none) else (if (wrap64 (x20 - x22)) < 0 then (if x11 = true then (some (decide ((wrap64 (-(wrap64 (x20 - x22)))) ≤ (wrap64 ((wrap64 ((wrap64 (Int.tdiv (wrap64 (x24)) 2)) + (wrap64 (2 * x19)))) + 1))))) else (none)) else (if x11 = true then (some (decide ((wrap64 (x20 - x22)) ≤ (wrap64 ((wrap64 ((wrap64 (Int.tdiv (wrap64 (x24)) 2)) + (wrap64 (2 * x19)))) + 1))))) else (none)))
end
def palletlaw09_FtaLies.f (k : Nat) (l0 : List Int) (l1 : List Int) (l2 : List Int) (a3 : Int) (a4 : Int) : Option (Bool) := (palletlaw09_live.f).bind fun t268 => (if t268 = true then (if (l0.length : Int) < 3 then (palletlaw09_FtaLies.j0 k l0 l1 l2 a3 a4 t268 true) else (palletlaw09_FtaLies.j0 k l0 l1 l2 a3 a4 t268 (decide ((l0.length : Int) > 40)))) else (none))
theorem palletlaw09_FtaLies.mono_l : ∀ k, (∀ y0 y1 y2 y3 y4 y5 y6, LeO (palletlaw09_FtaLies.j0 k y0 y1 y2 y3 y4 y5 y6) (palletlaw09_FtaLies.j0 (k + 1) y0 y1 y2 y3 y4 y5 y6)) ∧ (∀ y0 y1 y2 y3 y4 y5 y6 y7 y8 y9 y10, LeO (palletlaw09_FtaLies.l0 k y0 y1 y2 y3 y4 y5 y6 y7 y8 y9 y10) (palletlaw09_FtaLies.l0 (k + 1) y0 y1 y2 y3 y4 y5 y6 y7 y8 y9 y10)) ∧ (∀ y0 y1 y2 y3 y4 y5, LeO (palletlaw09_FtaLies.j2 k y0 y1 y2 y3 y4 y5) (palletlaw09_FtaLies.j2 (k + 1) y0 y1 y2 y3 y4 y5))
 | 0 => ⟨fun _ _ _ _ _ _ _ r h => by simp [palletlaw09_FtaLies.j0] at h, fun _ _ _ _ _ _ _ _ _ _ _ r h => by simp [palletlaw09_FtaLies.l0] at h, fun _ _ _ _ _ _ r h => by simp [palletlaw09_FtaLies.j2] at h⟩
 | k + 1 => by
  obtain ⟨ih0, ih1, ih2⟩ := palletlaw09_FtaLies.mono_l k
  refine ⟨?_, ?_, ?_⟩
  ·intro y0 y1 y2 y3 y4 y5 y6
   unfold palletlaw09_FtaLies.j0
   repeat' first
   | (with_reducible exact ih0 _ _ _ _ _ _ _)
   | (with_reducible exact ih1 _ _ _ _ _ _ _ _ _ _ _)
   | (with_reducible exact ih2 _ _ _ _ _ _)
   | (with_reducible exact LeO.refl _)
   | (with_reducible exact LeO.none _)
   | (with_reducible refine LeO.ite ?_ ?_)
   | (with_reducible refine LeO.bind ?_ (fun _ => ?_))
   | exact ih0 _ _ _ _ _ _ _
   | exact ih1 _ _ _ _ _ _ _ _ _ _ _
   | exact ih2 _ _ _ _ _ _
   | exact LeO.none _
   | refine LeO.ite ?_ ?_
   | refine LeO.bind ?_ (fun _ => ?_)
  ·intro y0 y1 y2 y3 y4 y5 y6 y7 y8 y9 y10
   unfold palletlaw09_FtaLies.l0
   repeat' first
   | (with_reducible exact ih0 _ _ _ _ _ _ _)
   | (with_reducible exact ih1 _ _ _ _ _ _ _ _ _ _ _)
   | (with_reducible exact ih2 _ _ _ _ _ _)
   | (with_reducible exact LeO.refl _)
   | (with_reducible exact LeO.none _)
   | (with_reducible refine LeO.ite ?_ ?_)
   | (with_reducible refine LeO.bind ?_ (fun _ => ?_))
   | exact ih0 _ _ _ _ _ _ _
   | exact ih1 _ _ _ _ _ _ _ _ _ _ _
   | exact ih2 _ _ _ _ _ _
   | exact LeO.none _
   | refine LeO.ite ?_ ?_
   | refine LeO.bind ?_ (fun _ => ?_)
  ·intro y0 y1 y2 y3 y4 y5
   unfold palletlaw09_FtaLies.j2
   repeat' first
   | (with_reducible exact ih0 _ _ _ _ _ _ _)
   | (with_reducible exact ih1 _ _ _ _ _ _ _ _ _ _ _)
   | (with_reducible exact ih2 _ _ _ _ _ _)
   | (with_reducible exact LeO.refl _)
   | (with_reducible exact LeO.none _)
   | (with_reducible refine LeO.ite ?_ ?_)
   | (with_reducible refine LeO.bind ?_ (fun _ => ?_))
   | exact ih0 _ _ _ _ _ _ _
   | exact ih1 _ _ _ _ _ _ _ _ _ _ _
   | exact ih2 _ _ _ _ _ _
   | exact LeO.none _
   | refine LeO.ite ?_ ?_
   | refine LeO.bind ?_ (fun _ => ?_)
theorem palletlaw09_FtaLies.mono : ∀ a0 a1 a2 a3 a4 k, LeO (palletlaw09_FtaLies.f k a0 a1 a2 a3 a4) (palletlaw09_FtaLies.f (k + 1) a0 a1 a2 a3 a4) := by
 intro a0 a1 a2 a3 a4 k
 obtain ⟨ih0, ih1, ih2⟩ := palletlaw09_FtaLies.mono_l k
 unfold palletlaw09_FtaLies.f
 repeat' first
   | (with_reducible exact ih0 _ _ _ _ _ _ _)
   | (with_reducible exact ih1 _ _ _ _ _ _ _ _ _ _ _)
   | (with_reducible exact ih2 _ _ _ _ _ _)
   | (with_reducible exact LeO.refl _)
   | (with_reducible exact LeO.none _)
   | (with_reducible refine LeO.ite ?_ ?_)
   | (with_reducible refine LeO.bind ?_ (fun _ => ?_))
   | exact ih0 _ _ _ _ _ _ _
   | exact ih1 _ _ _ _ _ _ _ _ _ _ _
   | exact ih2 _ _ _ _ _ _
   | exact LeO.none _
   | refine LeO.ite ?_ ?_
   | refine LeO.bind ?_ (fun _ => ?_)
set_option maxHeartbeats 8000000 in
set_option maxRecDepth 100000 in
theorem palletlaw09_FtaLies.calls (k : Nat) (A0 : Option Addr) (c0 : Nat) (l0 : List Int) (A1 : Option Addr) (c1 : Nat) (l1 : List Int) (A2 : Option Addr) (c2 : Nat) (l2 : List Int) (a3 : Int) (a4 : Int) (r : Bool) (w : World) (hr0 : Kd.C (Kd.int .i32) w A0 l0.length l0) (hc0 : l0.length ≤ c0) (hr1 : Kd.C (Kd.int .i16) w A1 l1.length l1) (hc1 : l1.length ≤ c1) (hr2 : Kd.C (Kd.int .i16) w A2 l2.length l2) (hc2 : l2.length ≤ c2) (hr_ : Aside0 (r = true)) (h : palletlaw09_FtaLies.f k l0 l1 l2 a3 a4 = some r) :
  Calls Try.prog 4 #[.slice A0 l0.length c0, .slice A1 l1.length c1, .slice A2 l2.length c2, .int .i64 a3, .int .i64 a4] w fun e w' => e = .returned (.bool r) ∧ Below w.heap.size w w' := by
 have HR0 := Aside0.mk hr0
 have HC0 := Aside0.mk hc0
 clear hr0 hc0
 have HR1 := Aside0.mk hr1
 have HC1 := Aside0.mk hc1
 clear hr1 hc1
 have HR2 := Aside0.mk hr2
 have HC2 := Aside0.mk hc2
 clear hr2 hc2
 have HB := Aside0.mk (Below.refl w.heap.size w)
 have H : ((palletlaw09_live.f).bind fun t268 => (if t268 = true then (if (l0.length : Int) < 3 then (palletlaw09_FtaLies.j0 k l0 l1 l2 a3 a4 t268 true) else (palletlaw09_FtaLies.j0 k l0 l1 l2 a3 a4 t268 (decide ((l0.length : Int) > 40)))) else (none))) = some r := h
 clear h
 replace H := Option.bind_eq_some_iff.mp H
 obtain ⟨t268, A60, H⟩ := H
 replace H : (if t268 = true then (if (l0.length : Int) < 3 then (palletlaw09_FtaLies.j0 k l0 l1 l2 a3 a4 t268 true) else (palletlaw09_FtaLies.j0 k l0 l1 l2 a3 a4 t268 (decide ((l0.length : Int) > 40)))) else (none)) = some r := H
 have A6 := Aside0.mk A60
 clear A60
 by_cases c7 : t268 = true
 ·subst c7
  have H1 : (if (l0.length : Int) < 3 then (palletlaw09_FtaLies.j0 k l0 l1 l2 a3 a4 true true) else (palletlaw09_FtaLies.j0 k l0 l1 l2 a3 a4 true (decide ((l0.length : Int) > 40)))) = some r := by rw [if_pos rfl] at H; exact H
  clear H
  have H := H1
  clear H1
  have HC8 := Aside0.mk H
  clear H
  go_enter Try.func4, Try.ntmps4
  go_upto_region 4 with (first | ((with_reducible refine gate_callee (f := 6) rfl ?_); refine goesL_ (some 27) rfl rfl Try.func6 (by kernel_rfl) rfl #[] rfl (by (try simp only [List.map_toArray, List.map_cons, List.map_nil]); first | done | rfl | (simp only [List.length_drop, List.length_take]; first | rfl | (rw [Nat.min_eq_left (Int.toNat_le.2 (of_decide_eq_true (by assumption)))]; rfl))) ?_; (with_reducible refine (palletlaw09_live.calls  true _ A6.out).mono ?_); rintro e w9 ⟨rfl, hb⟩; refine ⟨_, rfl, ?_⟩; have n0_ := Aside0.mk (below_step (by repeat (first | (with_reducible first | exact HB.out | apply below_alloc | apply pw_below_drewN | apply below_drew1) | exact HB.out)) hb); clear HB; have HB := n0_; clear n0_; (try clear hb); (try clear hb2); (try clear hk); (try clear hi)))
  (try simp only [Act.put, List.setIfInBounds_toArray, List.set_cons_zero, List.set_cons_succ])
  go_cut [37] (fun v37 wc => ∃ (kq : Nat) (x37_7 : Bool), v37 = .bool x37_7 ∧ Aside0 (palletlaw09_FtaLies.j0 kq l0 l1 l2 a3 a4 true x37_7 = some r) ∧ Aside0 (kq ≤ k) ∧ Aside0 (Below w.heap.size w wc))
  case first =>
   have H := HC8.out
   clear HC8
   by_cases c10 : (l0.length : Int) < 3
   ·rw [if_pos c10] at H
    have c10b0 : decide ((l0.length : Int) < 3) = true := decide_eq_true c10
    have c10b1 : decide (l0.length < 3) = true := decide_eq_true (by omega)
    clear c10
    (first | rw [c10b0] | (simp only [i64_w, i32_w]; rw [c10b0]) | skip)
    have H' := Aside0.mk H
    clear H
    go_wp2
    go_meet
    case rel => exact ⟨_, (true), (by first | rfl | (simp; done) | (simp [*]; done)), H', ⟨by first | omega | exact Nat.le_refl _⟩, ⟨by repeat (first | (with_reducible first | exact HB.out | apply below_alloc | apply pw_below_drewN | apply below_drew1) | exact HB.out)⟩⟩
   ·rw [if_neg c10] at H
    have c10b0 : decide ((l0.length : Int) < 3) = false := decide_eq_false c10
    have c10b1 : decide (l0.length < 3) = false := decide_eq_false (by omega)
    clear c10
    (first | rw [c10b0] | (simp only [i64_w, i32_w]; rw [c10b0]) | skip)
    have H' := Aside0.mk H
    clear H
    go_wp2
    go_meet
    case rel => exact ⟨_, (decide ((l0.length : Int) > 40)), (by first | rfl | (simp; done) | (simp [*]; done)), H', ⟨by first | omega | exact Nat.le_refl _⟩, ⟨by repeat (first | (with_reducible first | exact HB.out | apply below_alloc | apply pw_below_drewN | apply below_drew1) | exact HB.out)⟩⟩
  case rest =>
   clear HC8
   try clear c1
   try clear c2
   try clear p2
   try clear c4
   try clear c6
   try clear c7
   try clear c10
   try clear c10b0
   try clear c10b1
   obtain ⟨kq, x37_7, rfl, HA, HJ7, HB⟩ := hcut
   cases kq with
   | zero => exact absurd HA.out (by simp [palletlaw09_FtaLies.j0])
   | succ kj7 =>
    have H := HA.out
    clear HA
    simp only [palletlaw09_FtaLies.j0] at H
    by_cases c11 : x37_7 = true
    ·subst c11
     have H1 : (some true) = some r := by rw [if_pos rfl] at H; exact H
     clear H
     have H := H1
     clear H1
     obtain rfl := Option.some.inj H
     go_wp2
     go_ret
     exact ⟨by first | rfl | (simp [errW_none, errW_some] <;> rfl) | (simp [*, errW_none, errW_some] <;> rfl) | (simp [*, errW_none, errW_some, show wrap64 65536 = 65536 from by unfold wrap64; decide]; done) | (simp [*, errW_none, errW_some, show wrap64 65536 = 65536 from by unfold wrap64; decide] <;> rfl), by repeat (first | (with_reducible first | exact HB.out | apply below_alloc | apply pw_below_drewN | apply below_drew1) | exact HB.out)⟩
    ·replace c11 := Bool.eq_false_iff.mpr c11
     subst c11
     have H1 : (palletlaw09_FtaLies.l0 kj7 l1 l2 (Int.tmod a3 1125899906842624) (Int.tmod a4 1125899906842624) true ([] : List Int) ([] : List Int) ([] : List Int) l0 (l0.length : Int) 0) = some r := by rw [if_neg (show ¬ (false = true) by decide)] at H; exact H
     clear H
     have H := H1
     clear H1
     have H' := Aside0.mk H
     clear H
     go_wp2
     go_loopg [12, 13, 14, 45] kj7 (fun kq v12 v13 v14 v45 w' => ∃ (x12_2 : List Int) (x13_2 : List Int) (x14_2 : List Int) (x45_2 : Int), v45 = .int .i64 x45_2 ∧ Aside0 (palletlaw09_FtaLies.l0 kq l1 l2 (Int.tmod a3 1125899906842624) (Int.tmod a4 1125899906842624) true x12_2 x13_2 x14_2 l0 (l0.length : Int) x45_2 = some r) ∧ Aside0 (kq ≤ kj7) ∧ Aside0 (Kd.R (Kd.int .i64) 2 w' w.heap.size (fun k_ => some k_ ≠ (v13 : Value).ownBlock ∧ some k_ ≠ (v14 : Value).ownBlock) v12 x12_2) ∧ Aside0 (Kd.R (Kd.int .i64) 2 w' w.heap.size (fun k_ => some k_ ≠ (v12 : Value).ownBlock ∧ some k_ ≠ (v14 : Value).ownBlock) v13 x13_2) ∧ Aside0 (Kd.R (Kd.int .i64) 2 w' w.heap.size (fun k_ => some k_ ≠ (v12 : Value).ownBlock ∧ some k_ ≠ (v13 : Value).ownBlock) v14 x14_2) ∧ Aside0 (Below w.heap.size w w'))
     case atStart => exact ⟨(([] : List Int)), (([] : List Int)), (([] : List Int)), (0), (by first | rfl | (simp; done) | (simp [*]; done)), H', ⟨Nat.le_refl _⟩, ⟨by first | exact Kd.R_nil _ _ _ _ _ | exact Kd.N_nil _ _ _ _ _ | exact Kd.V_nil _ _ _ _ _ | exact Kd.Q_nil _ _ _ _ _ | exact Kd.S_nil _ _ _ _ _⟩, ⟨by first | exact Kd.R_nil _ _ _ _ _ | exact Kd.N_nil _ _ _ _ _ | exact Kd.V_nil _ _ _ _ _ | exact Kd.Q_nil _ _ _ _ _ | exact Kd.S_nil _ _ _ _ _⟩, ⟨by first | exact Kd.R_nil _ _ _ _ _ | exact Kd.N_nil _ _ _ _ _ | exact Kd.V_nil _ _ _ _ _ | exact Kd.Q_nil _ _ _ _ _ | exact Kd.S_nil _ _ _ _ _⟩, ⟨by repeat (first | (with_reducible first | exact HB.out | apply below_alloc | apply pw_below_drewN | apply below_drew1) | exact HB.out)⟩⟩
     case round =>
      clear H'
      try clear c1
      try clear c2
      try clear p2
      try clear c4
      try clear c6
      try clear c7
      try clear c10
      try clear c10b0
      try clear c10b1
      try clear c11
      try clear p2
      obtain ⟨x12_2, x13_2, x14_2, x45_2, rfl, HA, HK2, HO_12, HO_13, HO_14, HB⟩ := hrel
      cases gk with
      | zero => exact absurd HA.out (by simp [palletlaw09_FtaLies.l0])
      | succ k2 =>
       have H := HA.out
       clear HA
       simp only [palletlaw09_FtaLies.l0] at H
       by_cases c12 : x45_2 < (l0.length : Int)
       ·rw [if_pos c12] at H
        have c12b0 : decide (x45_2 < (l0.length : Int)) = true := decide_eq_true c12
        clear c12
        by_cases c13 : 0 ≤ x45_2
        ·rw [if_pos c13] at H
         have c13b0 : decide (0 ≤ x45_2) = true := decide_eq_true c13
         clear c13
         by_cases c14 : x45_2 < (l0.length : Int)
         ·rw [if_pos c14] at H
          have c14b0 : decide (x45_2 < (l0.length : Int)) = true := decide_eq_true c14
          clear c14
          by_cases c15 : x45_2 < (l1.length : Int)
          ·rw [if_pos c15] at H
           have c15b0 : decide (x45_2 < (l1.length : Int)) = true := decide_eq_true c15
           clear c15
           by_cases c16 : x45_2 < (l2.length : Int)
           ·rw [if_pos c16] at H
            have c16b0 : decide (x45_2 < (l2.length : Int)) = true := decide_eq_true c16
            clear c16
            by_cases c17 : x14_2.length < 17592186044416
            ·rw [if_pos c17] at H
             have LMc17 := Aside0.mk c17
             clear c17
             obtain ⟨y272, hy272⟩ : ∃ y_ : List Int, y_ = (x14_2 ++ [wrap64 (rd l0 x45_2)]) := ⟨_, rfl⟩
             replace H : (if x12_2.length < 17592186044416 then (if x13_2.length < 17592186044416 then (palletlaw09_FtaLies.l0 k2 l1 l2 (Int.tmod a3 1125899906842624) (Int.tmod a4 1125899906842624) true (x12_2 ++ [wrap64 ((wrap64 (rd l0 x45_2)) + (wrap64 (rd l1 x45_2)))]) (x13_2 ++ [wrap64 ((wrap64 (rd l0 x45_2)) + (wrap64 (rd l2 x45_2)))]) y272 l0 (l0.length : Int) (wrap64 (x45_2 + 1))) else (none)) else (none)) = some r := by first | (rw [hy272]; with_reducible exact H) | (have H2_ := (Option.bind_some _ _).symm.trans H; rw [hy272]; with_reducible exact H2_) | (have H2_ := (Option.bind_some _ _).symm.trans H; with_reducible exact H2_) | with_reducible exact H | (rw [hy272]; exact H) | exact H
             have Ny272 := Aside0.mk hy272
             clear hy272
             by_cases c18 : x12_2.length < 17592186044416
             ·rw [if_pos c18] at H
              have LMc18 := Aside0.mk c18
              clear c18
              obtain ⟨y275, hy275⟩ : ∃ y_ : List Int, y_ = (x12_2 ++ [wrap64 ((wrap64 (rd l0 x45_2)) + (wrap64 (rd l1 x45_2)))]) := ⟨_, rfl⟩
              replace H : (if x13_2.length < 17592186044416 then (palletlaw09_FtaLies.l0 k2 l1 l2 (Int.tmod a3 1125899906842624) (Int.tmod a4 1125899906842624) true y275 (x13_2 ++ [wrap64 ((wrap64 (rd l0 x45_2)) + (wrap64 (rd l2 x45_2)))]) y272 l0 (l0.length : Int) (wrap64 (x45_2 + 1))) else (none)) = some r := by first | (rw [hy275]; with_reducible exact H) | (have H2_ := (Option.bind_some _ _).symm.trans H; rw [hy275]; with_reducible exact H2_) | (have H2_ := (Option.bind_some _ _).symm.trans H; with_reducible exact H2_) | with_reducible exact H | (rw [hy275]; exact H) | exact H
              have Ny275 := Aside0.mk hy275
              clear hy275
              by_cases c19 : x13_2.length < 17592186044416
              ·rw [if_pos c19] at H
               have LMc19 := Aside0.mk c19
               clear c19
               obtain ⟨y278, hy278⟩ : ∃ y_ : List Int, y_ = (x13_2 ++ [wrap64 ((wrap64 (rd l0 x45_2)) + (wrap64 (rd l2 x45_2)))]) := ⟨_, rfl⟩
               replace H : (palletlaw09_FtaLies.l0 k2 l1 l2 (Int.tmod a3 1125899906842624) (Int.tmod a4 1125899906842624) true y275 y278 y272 l0 (l0.length : Int) (wrap64 (x45_2 + 1))) = some r := by first | (rw [hy278]; with_reducible exact H) | (have H2_ := (Option.bind_some _ _).symm.trans H; rw [hy278]; with_reducible exact H2_) | (have H2_ := (Option.bind_some _ _).symm.trans H; with_reducible exact H2_) | with_reducible exact H | (rw [hy278]; exact H) | exact H
               have Ny278 := Aside0.mk hy278
               clear hy278
               have H' := Aside0.mk H
               clear H
               have p269 : 0 ≤ (x45_2 : Int) := of_decide_eq_true (by first | (with_reducible assumption) | assumption)
               have q269 : x45_2 < (l0.length : Int) := of_decide_eq_true (by first | (with_reducible assumption) | assumption)
               obtain ⟨ad269, e269, hx269_0⟩ := Kd.at_int HR0.out x45_2 p269 q269
               cases e269
               replace hx269_0 := (HB.out.cell (World.block_lt_of_cell? w _ hx269_0)).trans hx269_0
               replace p269 := eq_true p269
               replace q269 := eq_true q269
               have p270 : 0 ≤ (x45_2 : Int) := of_decide_eq_true (by first | (with_reducible assumption) | assumption)
               have q270 : x45_2 < (l1.length : Int) := of_decide_eq_true (by first | (with_reducible assumption) | assumption)
               obtain ⟨ad270, e270, hx270_0⟩ := Kd.at_int HR1.out x45_2 p270 q270
               cases e270
               replace hx270_0 := (HB.out.cell (World.block_lt_of_cell? w _ hx270_0)).trans hx270_0
               replace p270 := eq_true p270
               replace q270 := eq_true q270
               have p271 : 0 ≤ (x45_2 : Int) := of_decide_eq_true (by first | (with_reducible assumption) | assumption)
               have q271 : x45_2 < (l2.length : Int) := of_decide_eq_true (by first | (with_reducible assumption) | assumption)
               obtain ⟨ad271, e271, hx271_0⟩ := Kd.at_int HR2.out x45_2 p271 q271
               cases e271
               replace hx271_0 := (HB.out.cell (World.block_lt_of_cell? w _ hx271_0)).trans hx271_0
               replace p271 := eq_true p271
               replace q271 := eq_true q271
               go_wp2_with (first | ((with_reducible refine gate_builtin (b := .append) (xs := #[.tmp 68, .tmp 71]) rfl ?_); (try (refine gate_guard (by rfl) ?_; dsimp only)); at_builtin; refine Kd.R_append (Kd.int .i64) (w0 := w) w.heap.size rfl (.tmp 68) (.tmp 71) 22 2 (.int .i64 0) 8 rfl Try.underlying22 info2 rfl (by decide) (by omega) u14 x14_2 (wrap64 (rd l0 x45_2)) [.int .i64 (wrap64 (rd l0 x45_2))] (fun k_ => some k_ ≠ (u12 : Value).ownBlock ∧ some k_ ≠ (u13 : Value).ownBlock) (fun _ => False) rfl rfl ?aP (fun _ hk => hk.elim) ?aF ?aO ?aB ?aS ?aL ?_; (case aP => exact rfl); (case aB => exact (by repeat (first | (with_reducible first | exact HB.out | apply below_alloc | apply pw_below_drewN | apply below_drew1) | exact HB.out))); (case aF => exact (fun k_ hk => ⟨Kd.fresh' (Kd.R_lt (by (with_reducible repeat (first | apply Kd.R_alloc | apply Kd.R_drewN | apply Kd.R_drew)); exact HO_12.out)) k_ hk, Kd.fresh' (Kd.R_lt (by (with_reducible repeat (first | apply Kd.R_alloc | apply Kd.R_drewN | apply Kd.R_drew)); exact HO_13.out)) k_ hk⟩)); (case aO => exact (by (with_reducible repeat (first | apply Kd.R_alloc | apply Kd.R_drewN | apply Kd.R_drew)); exact HO_14.out)); (case aS => exact (below_size (by repeat (first | (with_reducible first | exact HB.out | apply below_alloc | apply pw_below_drewN | apply below_drew1) | exact HB.out)))); (case aL => have := LMc17.out; omega); intro v273 w20 ho hb hg hat; rw [← Ny272.out] at ho; have n0_ := Aside0.mk (Kd.R_after (ok := (fun k_ => some k_ ≠ (u13 : Value).ownBlock)) (by (with_reducible repeat (first | apply Kd.R_alloc | apply Kd.R_drewN | apply Kd.R_drew)); exact HO_12.out) hg hat); have n1_ := Aside0.mk (Kd.R_after (ok := (fun k_ => some k_ ≠ (u12 : Value).ownBlock)) (by (with_reducible repeat (first | apply Kd.R_alloc | apply Kd.R_drewN | apply Kd.R_drew)); exact HO_13.out) hg hat); have n2_ := Aside0.mk (hb); have n3_ := Aside0.mk (ho); clear HO_12; clear HO_13; clear HB; clear HO_14; have HO_12 := n0_; have HO_13 := n1_; have HB := n2_; have HO274 := n3_; clear n0_ n1_ n2_ n3_; clear ho hb hg hat) | ((with_reducible refine gate_builtin (b := .append) (xs := #[.tmp 73, .tmp 78]) rfl ?_); (try (refine gate_guard (by rfl) ?_; dsimp only)); at_builtin; refine Kd.R_append (Kd.int .i64) (w0 := w) w.heap.size rfl (.tmp 73) (.tmp 78) 22 2 (.int .i64 0) 8 rfl Try.underlying22 info2 rfl (by decide) (by omega) u12 x12_2 (wrap64 ((wrap64 (rd l0 x45_2)) + (wrap64 (rd l1 x45_2)))) [.int .i64 (wrap64 ((wrap64 (rd l0 x45_2)) + (wrap64 (rd l1 x45_2))))] (fun k_ => some k_ ≠ (u13 : Value).ownBlock ∧ some k_ ≠ (v273 : Value).ownBlock) (fun _ => False) rfl rfl ?aP (fun _ hk => hk.elim) ?aF ?aO ?aB ?aS ?aL ?_; (case aP => exact rfl); (case aB => exact (by repeat (first | (with_reducible first | exact HB.out | apply below_alloc | apply pw_below_drewN | apply below_drew1) | exact HB.out))); (case aF => exact (fun k_ hk => ⟨Kd.fresh' (Kd.R_lt (by (with_reducible repeat (first | apply Kd.R_alloc | apply Kd.R_drewN | apply Kd.R_drew)); exact HO_13.out)) k_ hk, Kd.fresh' (Kd.R_lt (by (with_reducible repeat (first | apply Kd.R_alloc | apply Kd.R_drewN | apply Kd.R_drew)); first | exact HO274.out | exact Kd.R_mono HO274.out (fun _ _ => trivial))) k_ hk⟩)); (case aO => exact (by (with_reducible repeat (first | apply Kd.R_alloc | apply Kd.R_drewN | apply Kd.R_drew)); exact HO_12.out)); (case aS => exact (below_size (by repeat (first | (with_reducible first | exact HB.out | apply below_alloc | apply pw_below_drewN | apply below_drew1) | exact HB.out)))); (case aL => have := LMc18.out; omega); intro v276 w21 ho hb hg hat; rw [← Ny275.out] at ho; have n0_ := Aside0.mk (Kd.R_after (ok := (fun k_ => some k_ ≠ (v273 : Value).ownBlock)) (by (with_reducible repeat (first | apply Kd.R_alloc | apply Kd.R_drewN | apply Kd.R_drew)); exact Kd.R_mono HO_13.out (fun _ hk => ⟨hk.2, hk.1⟩)) hg hat); have n1_ := Aside0.mk (Kd.R_after (ok := (fun k_ => some k_ ≠ (u13 : Value).ownBlock)) (by (with_reducible repeat (first | apply Kd.R_alloc | apply Kd.R_drewN | apply Kd.R_drew)); exact Kd.R_mono HO274.out (fun _ hk => ⟨hk.2, hk.1⟩)) hg hat); have n2_ := Aside0.mk (hb); have n3_ := Aside0.mk (ho); clear HO_13; clear HO274; clear HB; clear HO_12; have HO_13 := n0_; have HO274 := n1_; have HB := n2_; have HO277 := n3_; clear n0_ n1_ n2_ n3_; clear ho hb hg hat) | ((with_reducible refine gate_builtin (b := .append) (xs := #[.tmp 80, .tmp 85]) rfl ?_); (try (refine gate_guard (by rfl) ?_; dsimp only)); at_builtin; refine Kd.R_append (Kd.int .i64) (w0 := w) w.heap.size rfl (.tmp 80) (.tmp 85) 22 2 (.int .i64 0) 8 rfl Try.underlying22 info2 rfl (by decide) (by omega) u13 x13_2 (wrap64 ((wrap64 (rd l0 x45_2)) + (wrap64 (rd l2 x45_2)))) [.int .i64 (wrap64 ((wrap64 (rd l0 x45_2)) + (wrap64 (rd l2 x45_2))))] (fun k_ => some k_ ≠ (v273 : Value).ownBlock ∧ some k_ ≠ (v276 : Value).ownBlock) (fun _ => False) rfl rfl ?aP (fun _ hk => hk.elim) ?aF ?aO ?aB ?aS ?aL ?_; (case aP => exact rfl); (case aB => exact (by repeat (first | (with_reducible first | exact HB.out | apply below_alloc | apply pw_below_drewN | apply below_drew1) | exact HB.out))); (case aF => exact (fun k_ hk => ⟨Kd.fresh' (Kd.R_lt (by (with_reducible repeat (first | apply Kd.R_alloc | apply Kd.R_drewN | apply Kd.R_drew)); first | exact HO274.out | exact Kd.R_mono HO274.out (fun _ _ => trivial))) k_ hk, Kd.fresh' (Kd.R_lt (by (with_reducible repeat (first | apply Kd.R_alloc | apply Kd.R_drewN | apply Kd.R_drew)); first | exact HO277.out | exact Kd.R_mono HO277.out (fun _ _ => trivial))) k_ hk⟩)); (case aO => exact (by (with_reducible repeat (first | apply Kd.R_alloc | apply Kd.R_drewN | apply Kd.R_drew)); exact HO_13.out)); (case aS => exact (below_size (by repeat (first | (with_reducible first | exact HB.out | apply below_alloc | apply pw_below_drewN | apply below_drew1) | exact HB.out)))); (case aL => have := LMc19.out; omega); intro v279 w22 ho hb hg hat; rw [← Ny278.out] at ho; have n0_ := Aside0.mk (Kd.R_after (ok := (fun k_ => some k_ ≠ (v276 : Value).ownBlock)) (by (with_reducible repeat (first | apply Kd.R_alloc | apply Kd.R_drewN | apply Kd.R_drew)); exact Kd.R_mono HO274.out (fun _ hk => ⟨hk.2, hk.1⟩)) hg hat); have n1_ := Aside0.mk (Kd.R_after (ok := (fun k_ => some k_ ≠ (v273 : Value).ownBlock)) (by (with_reducible repeat (first | apply Kd.R_alloc | apply Kd.R_drewN | apply Kd.R_drew)); exact Kd.R_mono HO277.out (fun _ hk => ⟨hk.2, hk.1⟩)) hg hat); have n2_ := Aside0.mk (hb); have n3_ := Aside0.mk (ho); clear HO274; clear HO277; clear HB; clear HO_13; have HO274 := n0_; have HO277 := n1_; have HB := n2_; have HO280 := n3_; clear n0_ n1_ n2_ n3_; clear ho hb hg hat))
               go_roundg k2
               case measure => have := HJ7.out; have := HK2.out; omega
               case rel => exact ⟨(y275), (y278), (y272), (wrap64 (x45_2 + 1)), (by first | rfl | (simp; done) | (simp [*]; done)), H', ⟨by have := HJ7.out; have := HK2.out; omega⟩, ⟨by (with_reducible repeat (first | apply Kd.R_alloc | apply Kd.R_drewN | apply Kd.R_drew)); exact Kd.R_mono HO277.out (fun _ hk => ⟨hk.2, hk.1⟩)⟩, ⟨by (with_reducible repeat (first | apply Kd.R_alloc | apply Kd.R_drewN | apply Kd.R_drew)); exact Kd.R_mono HO280.out (fun _ hk => ⟨hk.2, hk.1⟩)⟩, ⟨by (with_reducible repeat (first | apply Kd.R_alloc | apply Kd.R_drewN | apply Kd.R_drew)); exact HO274.out⟩, ⟨by repeat (first | (with_reducible first | exact HB.out | apply below_alloc | apply pw_below_drewN | apply below_drew1) | exact HB.out)⟩⟩
              ·rw [if_neg c19] at H
               exact absurd H (by simp)
             ·rw [if_neg c18] at H
              exact absurd H (by simp)
            ·rw [if_neg c17] at H
             exact absurd H (by simp)
           ·rw [if_neg c16] at H
            have c16b0 : decide (x45_2 < (l2.length : Int)) = false := decide_eq_false c16
            clear c16
            by_cases c23 : x14_2.length < 17592186044416
            ·rw [if_pos c23] at H
             have LMc23 := Aside0.mk c23
             clear c23
             obtain ⟨y281, hy281⟩ : ∃ y_ : List Int, y_ = (x14_2 ++ [wrap64 (rd l0 x45_2)]) := ⟨_, rfl⟩
             replace H : (if x12_2.length < 17592186044416 then (if x13_2.length < 17592186044416 then (palletlaw09_FtaLies.l0 k2 l1 l2 (Int.tmod a3 1125899906842624) (Int.tmod a4 1125899906842624) true (x12_2 ++ [wrap64 ((wrap64 (rd l0 x45_2)) + (wrap64 (rd l1 x45_2)))]) (x13_2 ++ [wrap64 (wrap64 (rd l0 x45_2))]) y281 l0 (l0.length : Int) (wrap64 (x45_2 + 1))) else (none)) else (none)) = some r := by first | (rw [hy281]; with_reducible exact H) | (have H2_ := (Option.bind_some _ _).symm.trans H; rw [hy281]; with_reducible exact H2_) | (have H2_ := (Option.bind_some _ _).symm.trans H; with_reducible exact H2_) | with_reducible exact H | (rw [hy281]; exact H) | exact H
             have Ny281 := Aside0.mk hy281
             clear hy281
             by_cases c24 : x12_2.length < 17592186044416
             ·rw [if_pos c24] at H
              have LMc24 := Aside0.mk c24
              clear c24
              obtain ⟨y284, hy284⟩ : ∃ y_ : List Int, y_ = (x12_2 ++ [wrap64 ((wrap64 (rd l0 x45_2)) + (wrap64 (rd l1 x45_2)))]) := ⟨_, rfl⟩
              replace H : (if x13_2.length < 17592186044416 then (palletlaw09_FtaLies.l0 k2 l1 l2 (Int.tmod a3 1125899906842624) (Int.tmod a4 1125899906842624) true y284 (x13_2 ++ [wrap64 (wrap64 (rd l0 x45_2))]) y281 l0 (l0.length : Int) (wrap64 (x45_2 + 1))) else (none)) = some r := by first | (rw [hy284]; with_reducible exact H) | (have H2_ := (Option.bind_some _ _).symm.trans H; rw [hy284]; with_reducible exact H2_) | (have H2_ := (Option.bind_some _ _).symm.trans H; with_reducible exact H2_) | with_reducible exact H | (rw [hy284]; exact H) | exact H
              have Ny284 := Aside0.mk hy284
              clear hy284
              by_cases c25 : x13_2.length < 17592186044416
              ·rw [if_pos c25] at H
               have LMc25 := Aside0.mk c25
               clear c25
               obtain ⟨y287, hy287⟩ : ∃ y_ : List Int, y_ = (x13_2 ++ [wrap64 (wrap64 (rd l0 x45_2))]) := ⟨_, rfl⟩
               replace H : (palletlaw09_FtaLies.l0 k2 l1 l2 (Int.tmod a3 1125899906842624) (Int.tmod a4 1125899906842624) true y284 y287 y281 l0 (l0.length : Int) (wrap64 (x45_2 + 1))) = some r := by first | (rw [hy287]; with_reducible exact H) | (have H2_ := (Option.bind_some _ _).symm.trans H; rw [hy287]; with_reducible exact H2_) | (have H2_ := (Option.bind_some _ _).symm.trans H; with_reducible exact H2_) | with_reducible exact H | (rw [hy287]; exact H) | exact H
               have Ny287 := Aside0.mk hy287
               clear hy287
               have H' := Aside0.mk H
               clear H
               have p269 : 0 ≤ (x45_2 : Int) := of_decide_eq_true (by first | (with_reducible assumption) | assumption)
               have q269 : x45_2 < (l0.length : Int) := of_decide_eq_true (by first | (with_reducible assumption) | assumption)
               obtain ⟨ad269, e269, hx269_0⟩ := Kd.at_int HR0.out x45_2 p269 q269
               cases e269
               replace hx269_0 := (HB.out.cell (World.block_lt_of_cell? w _ hx269_0)).trans hx269_0
               replace p269 := eq_true p269
               replace q269 := eq_true q269
               have p270 : 0 ≤ (x45_2 : Int) := of_decide_eq_true (by first | (with_reducible assumption) | assumption)
               have q270 : x45_2 < (l1.length : Int) := of_decide_eq_true (by first | (with_reducible assumption) | assumption)
               obtain ⟨ad270, e270, hx270_0⟩ := Kd.at_int HR1.out x45_2 p270 q270
               cases e270
               replace hx270_0 := (HB.out.cell (World.block_lt_of_cell? w _ hx270_0)).trans hx270_0
               replace p270 := eq_true p270
               replace q270 := eq_true q270
               go_wp2_with (first | ((with_reducible refine gate_builtin (b := .append) (xs := #[.tmp 68, .tmp 71]) rfl ?_); (try (refine gate_guard (by rfl) ?_; dsimp only)); at_builtin; refine Kd.R_append (Kd.int .i64) (w0 := w) w.heap.size rfl (.tmp 68) (.tmp 71) 22 2 (.int .i64 0) 8 rfl Try.underlying22 info2 rfl (by decide) (by omega) u14 x14_2 (wrap64 (rd l0 x45_2)) [.int .i64 (wrap64 (rd l0 x45_2))] (fun k_ => some k_ ≠ (u12 : Value).ownBlock ∧ some k_ ≠ (u13 : Value).ownBlock) (fun _ => False) rfl rfl ?aP (fun _ hk => hk.elim) ?aF ?aO ?aB ?aS ?aL ?_; (case aP => exact rfl); (case aB => exact (by repeat (first | (with_reducible first | exact HB.out | apply below_alloc | apply pw_below_drewN | apply below_drew1) | exact HB.out))); (case aF => exact (fun k_ hk => ⟨Kd.fresh' (Kd.R_lt (by (with_reducible repeat (first | apply Kd.R_alloc | apply Kd.R_drewN | apply Kd.R_drew)); exact HO_12.out)) k_ hk, Kd.fresh' (Kd.R_lt (by (with_reducible repeat (first | apply Kd.R_alloc | apply Kd.R_drewN | apply Kd.R_drew)); exact HO_13.out)) k_ hk⟩)); (case aO => exact (by (with_reducible repeat (first | apply Kd.R_alloc | apply Kd.R_drewN | apply Kd.R_drew)); exact HO_14.out)); (case aS => exact (below_size (by repeat (first | (with_reducible first | exact HB.out | apply below_alloc | apply pw_below_drewN | apply below_drew1) | exact HB.out)))); (case aL => have := LMc23.out; omega); intro v282 w26 ho hb hg hat; rw [← Ny281.out] at ho; have n0_ := Aside0.mk (Kd.R_after (ok := (fun k_ => some k_ ≠ (u13 : Value).ownBlock)) (by (with_reducible repeat (first | apply Kd.R_alloc | apply Kd.R_drewN | apply Kd.R_drew)); exact HO_12.out) hg hat); have n1_ := Aside0.mk (Kd.R_after (ok := (fun k_ => some k_ ≠ (u12 : Value).ownBlock)) (by (with_reducible repeat (first | apply Kd.R_alloc | apply Kd.R_drewN | apply Kd.R_drew)); exact HO_13.out) hg hat); have n2_ := Aside0.mk (hb); have n3_ := Aside0.mk (ho); clear HO_12; clear HO_13; clear HB; clear HO_14; have HO_12 := n0_; have HO_13 := n1_; have HB := n2_; have HO283 := n3_; clear n0_ n1_ n2_ n3_; clear ho hb hg hat) | ((with_reducible refine gate_builtin (b := .append) (xs := #[.tmp 73, .tmp 78]) rfl ?_); (try (refine gate_guard (by rfl) ?_; dsimp only)); at_builtin; refine Kd.R_append (Kd.int .i64) (w0 := w) w.heap.size rfl (.tmp 73) (.tmp 78) 22 2 (.int .i64 0) 8 rfl Try.underlying22 info2 rfl (by decide) (by omega) u12 x12_2 (wrap64 ((wrap64 (rd l0 x45_2)) + (wrap64 (rd l1 x45_2)))) [.int .i64 (wrap64 ((wrap64 (rd l0 x45_2)) + (wrap64 (rd l1 x45_2))))] (fun k_ => some k_ ≠ (u13 : Value).ownBlock ∧ some k_ ≠ (v282 : Value).ownBlock) (fun _ => False) rfl rfl ?aP (fun _ hk => hk.elim) ?aF ?aO ?aB ?aS ?aL ?_; (case aP => exact rfl); (case aB => exact (by repeat (first | (with_reducible first | exact HB.out | apply below_alloc | apply pw_below_drewN | apply below_drew1) | exact HB.out))); (case aF => exact (fun k_ hk => ⟨Kd.fresh' (Kd.R_lt (by (with_reducible repeat (first | apply Kd.R_alloc | apply Kd.R_drewN | apply Kd.R_drew)); exact HO_13.out)) k_ hk, Kd.fresh' (Kd.R_lt (by (with_reducible repeat (first | apply Kd.R_alloc | apply Kd.R_drewN | apply Kd.R_drew)); first | exact HO283.out | exact Kd.R_mono HO283.out (fun _ _ => trivial))) k_ hk⟩)); (case aO => exact (by (with_reducible repeat (first | apply Kd.R_alloc | apply Kd.R_drewN | apply Kd.R_drew)); exact HO_12.out)); (case aS => exact (below_size (by repeat (first | (with_reducible first | exact HB.out | apply below_alloc | apply pw_below_drewN | apply below_drew1) | exact HB.out)))); (case aL => have := LMc24.out; omega); intro v285 w27 ho hb hg hat; rw [← Ny284.out] at ho; have n0_ := Aside0.mk (Kd.R_after (ok := (fun k_ => some k_ ≠ (v282 : Value).ownBlock)) (by (with_reducible repeat (first | apply Kd.R_alloc | apply Kd.R_drewN | apply Kd.R_drew)); exact Kd.R_mono HO_13.out (fun _ hk => ⟨hk.2, hk.1⟩)) hg hat); have n1_ := Aside0.mk (Kd.R_after (ok := (fun k_ => some k_ ≠ (u13 : Value).ownBlock)) (by (with_reducible repeat (first | apply Kd.R_alloc | apply Kd.R_drewN | apply Kd.R_drew)); exact Kd.R_mono HO283.out (fun _ hk => ⟨hk.2, hk.1⟩)) hg hat); have n2_ := Aside0.mk (hb); have n3_ := Aside0.mk (ho); clear HO_13; clear HO283; clear HB; clear HO_12; have HO_13 := n0_; have HO283 := n1_; have HB := n2_; have HO286 := n3_; clear n0_ n1_ n2_ n3_; clear ho hb hg hat) | ((with_reducible refine gate_builtin (b := .append) (xs := #[.tmp 80, .tmp 85]) rfl ?_); (try (refine gate_guard (by rfl) ?_; dsimp only)); at_builtin; refine Kd.R_append (Kd.int .i64) (w0 := w) w.heap.size rfl (.tmp 80) (.tmp 85) 22 2 (.int .i64 0) 8 rfl Try.underlying22 info2 rfl (by decide) (by omega) u13 x13_2 (wrap64 (wrap64 (rd l0 x45_2))) [.int .i64 (wrap64 (wrap64 (rd l0 x45_2)))] (fun k_ => some k_ ≠ (v282 : Value).ownBlock ∧ some k_ ≠ (v285 : Value).ownBlock) (fun _ => False) rfl rfl ?aP (fun _ hk => hk.elim) ?aF ?aO ?aB ?aS ?aL ?_; (case aP => exact rfl); (case aB => exact (by repeat (first | (with_reducible first | exact HB.out | apply below_alloc | apply pw_below_drewN | apply below_drew1) | exact HB.out))); (case aF => exact (fun k_ hk => ⟨Kd.fresh' (Kd.R_lt (by (with_reducible repeat (first | apply Kd.R_alloc | apply Kd.R_drewN | apply Kd.R_drew)); first | exact HO283.out | exact Kd.R_mono HO283.out (fun _ _ => trivial))) k_ hk, Kd.fresh' (Kd.R_lt (by (with_reducible repeat (first | apply Kd.R_alloc | apply Kd.R_drewN | apply Kd.R_drew)); first | exact HO286.out | exact Kd.R_mono HO286.out (fun _ _ => trivial))) k_ hk⟩)); (case aO => exact (by (with_reducible repeat (first | apply Kd.R_alloc | apply Kd.R_drewN | apply Kd.R_drew)); exact HO_13.out)); (case aS => exact (below_size (by repeat (first | (with_reducible first | exact HB.out | apply below_alloc | apply pw_below_drewN | apply below_drew1) | exact HB.out)))); (case aL => have := LMc25.out; omega); intro v288 w28 ho hb hg hat; rw [← Ny287.out] at ho; have n0_ := Aside0.mk (Kd.R_after (ok := (fun k_ => some k_ ≠ (v285 : Value).ownBlock)) (by (with_reducible repeat (first | apply Kd.R_alloc | apply Kd.R_drewN | apply Kd.R_drew)); exact Kd.R_mono HO283.out (fun _ hk => ⟨hk.2, hk.1⟩)) hg hat); have n1_ := Aside0.mk (Kd.R_after (ok := (fun k_ => some k_ ≠ (v282 : Value).ownBlock)) (by (with_reducible repeat (first | apply Kd.R_alloc | apply Kd.R_drewN | apply Kd.R_drew)); exact Kd.R_mono HO286.out (fun _ hk => ⟨hk.2, hk.1⟩)) hg hat); have n2_ := Aside0.mk (hb); have n3_ := Aside0.mk (ho); clear HO283; clear HO286; clear HB; clear HO_13; have HO283 := n0_; have HO286 := n1_; have HB := n2_; have HO289 := n3_; clear n0_ n1_ n2_ n3_; clear ho hb hg hat))
               go_roundg k2
               case measure => have := HJ7.out; have := HK2.out; omega
               case rel => exact ⟨(y284), (y287), (y281), (wrap64 (x45_2 + 1)), (by first | rfl | (simp; done) | (simp [*]; done)), H', ⟨by have := HJ7.out; have := HK2.out; omega⟩, ⟨by (with_reducible repeat (first | apply Kd.R_alloc | apply Kd.R_drewN | apply Kd.R_drew)); exact Kd.R_mono HO286.out (fun _ hk => ⟨hk.2, hk.1⟩)⟩, ⟨by (with_reducible repeat (first | apply Kd.R_alloc | apply Kd.R_drewN | apply Kd.R_drew)); exact Kd.R_mono HO289.out (fun _ hk => ⟨hk.2, hk.1⟩)⟩, ⟨by (with_reducible repeat (first | apply Kd.R_alloc | apply Kd.R_drewN | apply Kd.R_drew)); exact HO283.out⟩, ⟨by repeat (first | (with_reducible first | exact HB.out | apply below_alloc | apply pw_below_drewN | apply below_drew1) | exact HB.out)⟩⟩
              ·rw [if_neg c25] at H
               exact absurd H (by simp)
             ·rw [if_neg c24] at H
              exact absurd H (by simp)
            ·rw [if_neg c23] at H
             exact absurd H (by simp)
          ·rw [if_neg c15] at H
           have c15b0 : decide (x45_2 < (l1.length : Int)) = false := decide_eq_false c15
           clear c15
           by_cases c29 : x45_2 < (l2.length : Int)
           ·rw [if_pos c29] at H
            have c29b0 : decide (x45_2 < (l2.length : Int)) = true := decide_eq_true c29
            clear c29
            by_cases c30 : x14_2.length < 17592186044416
            ·rw [if_pos c30] at H
             have LMc30 := Aside0.mk c30
             clear c30
             obtain ⟨y291, hy291⟩ : ∃ y_ : List Int, y_ = (x14_2 ++ [wrap64 (rd l0 x45_2)]) := ⟨_, rfl⟩
             replace H : (if x12_2.length < 17592186044416 then (if x13_2.length < 17592186044416 then (palletlaw09_FtaLies.l0 k2 l1 l2 (Int.tmod a3 1125899906842624) (Int.tmod a4 1125899906842624) true (x12_2 ++ [wrap64 (wrap64 (rd l0 x45_2))]) (x13_2 ++ [wrap64 ((wrap64 (rd l0 x45_2)) + (wrap64 (rd l2 x45_2)))]) y291 l0 (l0.length : Int) (wrap64 (x45_2 + 1))) else (none)) else (none)) = some r := by first | (rw [hy291]; with_reducible exact H) | (have H2_ := (Option.bind_some _ _).symm.trans H; rw [hy291]; with_reducible exact H2_) | (have H2_ := (Option.bind_some _ _).symm.trans H; with_reducible exact H2_) | with_reducible exact H | (rw [hy291]; exact H) | exact H
             have Ny291 := Aside0.mk hy291
             clear hy291
             by_cases c31 : x12_2.length < 17592186044416
             ·rw [if_pos c31] at H
              have LMc31 := Aside0.mk c31
              clear c31
              obtain ⟨y294, hy294⟩ : ∃ y_ : List Int, y_ = (x12_2 ++ [wrap64 (wrap64 (rd l0 x45_2))]) := ⟨_, rfl⟩
              replace H : (if x13_2.length < 17592186044416 then (palletlaw09_FtaLies.l0 k2 l1 l2 (Int.tmod a3 1125899906842624) (Int.tmod a4 1125899906842624) true y294 (x13_2 ++ [wrap64 ((wrap64 (rd l0 x45_2)) + (wrap64 (rd l2 x45_2)))]) y291 l0 (l0.length : Int) (wrap64 (x45_2 + 1))) else (none)) = some r := by first | (rw [hy294]; with_reducible exact H) | (have H2_ := (Option.bind_some _ _).symm.trans H; rw [hy294]; with_reducible exact H2_) | (have H2_ := (Option.bind_some _ _).symm.trans H; with_reducible exact H2_) | with_reducible exact H | (rw [hy294]; exact H) | exact H
              have Ny294 := Aside0.mk hy294
              clear hy294
              by_cases c32 : x13_2.length < 17592186044416
              ·rw [if_pos c32] at H
               have LMc32 := Aside0.mk c32
               clear c32
               obtain ⟨y297, hy297⟩ : ∃ y_ : List Int, y_ = (x13_2 ++ [wrap64 ((wrap64 (rd l0 x45_2)) + (wrap64 (rd l2 x45_2)))]) := ⟨_, rfl⟩
               replace H : (palletlaw09_FtaLies.l0 k2 l1 l2 (Int.tmod a3 1125899906842624) (Int.tmod a4 1125899906842624) true y294 y297 y291 l0 (l0.length : Int) (wrap64 (x45_2 + 1))) = some r := by first | (rw [hy297]; with_reducible exact H) | (have H2_ := (Option.bind_some _ _).symm.trans H; rw [hy297]; with_reducible exact H2_) | (have H2_ := (Option.bind_some _ _).symm.trans H; with_reducible exact H2_) | with_reducible exact H | (rw [hy297]; exact H) | exact H
               have Ny297 := Aside0.mk hy297
               clear hy297
               have H' := Aside0.mk H
               clear H
               have p269 : 0 ≤ (x45_2 : Int) := of_decide_eq_true (by first | (with_reducible assumption) | assumption)
               have q269 : x45_2 < (l0.length : Int) := of_decide_eq_true (by first | (with_reducible assumption) | assumption)
               obtain ⟨ad269, e269, hx269_0⟩ := Kd.at_int HR0.out x45_2 p269 q269
               cases e269
               replace hx269_0 := (HB.out.cell (World.block_lt_of_cell? w _ hx269_0)).trans hx269_0
               replace p269 := eq_true p269
               replace q269 := eq_true q269
               have p290 : 0 ≤ (x45_2 : Int) := of_decide_eq_true (by first | (with_reducible assumption) | assumption)
               have q290 : x45_2 < (l2.length : Int) := of_decide_eq_true (by first | (with_reducible assumption) | assumption)
               obtain ⟨ad290, e290, hx290_0⟩ := Kd.at_int HR2.out x45_2 p290 q290
               cases e290
               replace hx290_0 := (HB.out.cell (World.block_lt_of_cell? w _ hx290_0)).trans hx290_0
               replace p290 := eq_true p290
               replace q290 := eq_true q290
               go_wp2_with (first | ((with_reducible refine gate_builtin (b := .append) (xs := #[.tmp 68, .tmp 71]) rfl ?_); (try (refine gate_guard (by rfl) ?_; dsimp only)); at_builtin; refine Kd.R_append (Kd.int .i64) (w0 := w) w.heap.size rfl (.tmp 68) (.tmp 71) 22 2 (.int .i64 0) 8 rfl Try.underlying22 info2 rfl (by decide) (by omega) u14 x14_2 (wrap64 (rd l0 x45_2)) [.int .i64 (wrap64 (rd l0 x45_2))] (fun k_ => some k_ ≠ (u12 : Value).ownBlock ∧ some k_ ≠ (u13 : Value).ownBlock) (fun _ => False) rfl rfl ?aP (fun _ hk => hk.elim) ?aF ?aO ?aB ?aS ?aL ?_; (case aP => exact rfl); (case aB => exact (by repeat (first | (with_reducible first | exact HB.out | apply below_alloc | apply pw_below_drewN | apply below_drew1) | exact HB.out))); (case aF => exact (fun k_ hk => ⟨Kd.fresh' (Kd.R_lt (by (with_reducible repeat (first | apply Kd.R_alloc | apply Kd.R_drewN | apply Kd.R_drew)); exact HO_12.out)) k_ hk, Kd.fresh' (Kd.R_lt (by (with_reducible repeat (first | apply Kd.R_alloc | apply Kd.R_drewN | apply Kd.R_drew)); exact HO_13.out)) k_ hk⟩)); (case aO => exact (by (with_reducible repeat (first | apply Kd.R_alloc | apply Kd.R_drewN | apply Kd.R_drew)); exact HO_14.out)); (case aS => exact (below_size (by repeat (first | (with_reducible first | exact HB.out | apply below_alloc | apply pw_below_drewN | apply below_drew1) | exact HB.out)))); (case aL => have := LMc30.out; omega); intro v292 w33 ho hb hg hat; rw [← Ny291.out] at ho; have n0_ := Aside0.mk (Kd.R_after (ok := (fun k_ => some k_ ≠ (u13 : Value).ownBlock)) (by (with_reducible repeat (first | apply Kd.R_alloc | apply Kd.R_drewN | apply Kd.R_drew)); exact HO_12.out) hg hat); have n1_ := Aside0.mk (Kd.R_after (ok := (fun k_ => some k_ ≠ (u12 : Value).ownBlock)) (by (with_reducible repeat (first | apply Kd.R_alloc | apply Kd.R_drewN | apply Kd.R_drew)); exact HO_13.out) hg hat); have n2_ := Aside0.mk (hb); have n3_ := Aside0.mk (ho); clear HO_12; clear HO_13; clear HB; clear HO_14; have HO_12 := n0_; have HO_13 := n1_; have HB := n2_; have HO293 := n3_; clear n0_ n1_ n2_ n3_; clear ho hb hg hat) | ((with_reducible refine gate_builtin (b := .append) (xs := #[.tmp 73, .tmp 78]) rfl ?_); (try (refine gate_guard (by rfl) ?_; dsimp only)); at_builtin; refine Kd.R_append (Kd.int .i64) (w0 := w) w.heap.size rfl (.tmp 73) (.tmp 78) 22 2 (.int .i64 0) 8 rfl Try.underlying22 info2 rfl (by decide) (by omega) u12 x12_2 (wrap64 (wrap64 (rd l0 x45_2))) [.int .i64 (wrap64 (wrap64 (rd l0 x45_2)))] (fun k_ => some k_ ≠ (u13 : Value).ownBlock ∧ some k_ ≠ (v292 : Value).ownBlock) (fun _ => False) rfl rfl ?aP (fun _ hk => hk.elim) ?aF ?aO ?aB ?aS ?aL ?_; (case aP => exact rfl); (case aB => exact (by repeat (first | (with_reducible first | exact HB.out | apply below_alloc | apply pw_below_drewN | apply below_drew1) | exact HB.out))); (case aF => exact (fun k_ hk => ⟨Kd.fresh' (Kd.R_lt (by (with_reducible repeat (first | apply Kd.R_alloc | apply Kd.R_drewN | apply Kd.R_drew)); exact HO_13.out)) k_ hk, Kd.fresh' (Kd.R_lt (by (with_reducible repeat (first | apply Kd.R_alloc | apply Kd.R_drewN | apply Kd.R_drew)); first | exact HO293.out | exact Kd.R_mono HO293.out (fun _ _ => trivial))) k_ hk⟩)); (case aO => exact (by (with_reducible repeat (first | apply Kd.R_alloc | apply Kd.R_drewN | apply Kd.R_drew)); exact HO_12.out)); (case aS => exact (below_size (by repeat (first | (with_reducible first | exact HB.out | apply below_alloc | apply pw_below_drewN | apply below_drew1) | exact HB.out)))); (case aL => have := LMc31.out; omega); intro v295 w34 ho hb hg hat; rw [← Ny294.out] at ho; have n0_ := Aside0.mk (Kd.R_after (ok := (fun k_ => some k_ ≠ (v292 : Value).ownBlock)) (by (with_reducible repeat (first | apply Kd.R_alloc | apply Kd.R_drewN | apply Kd.R_drew)); exact Kd.R_mono HO_13.out (fun _ hk => ⟨hk.2, hk.1⟩)) hg hat); have n1_ := Aside0.mk (Kd.R_after (ok := (fun k_ => some k_ ≠ (u13 : Value).ownBlock)) (by (with_reducible repeat (first | apply Kd.R_alloc | apply Kd.R_drewN | apply Kd.R_drew)); exact Kd.R_mono HO293.out (fun _ hk => ⟨hk.2, hk.1⟩)) hg hat); have n2_ := Aside0.mk (hb); have n3_ := Aside0.mk (ho); clear HO_13; clear HO293; clear HB; clear HO_12; have HO_13 := n0_; have HO293 := n1_; have HB := n2_; have HO296 := n3_; clear n0_ n1_ n2_ n3_; clear ho hb hg hat) | ((with_reducible refine gate_builtin (b := .append) (xs := #[.tmp 80, .tmp 85]) rfl ?_); (try (refine gate_guard (by rfl) ?_; dsimp only)); at_builtin; refine Kd.R_append (Kd.int .i64) (w0 := w) w.heap.size rfl (.tmp 80) (.tmp 85) 22 2 (.int .i64 0) 8 rfl Try.underlying22 info2 rfl (by decide) (by omega) u13 x13_2 (wrap64 ((wrap64 (rd l0 x45_2)) + (wrap64 (rd l2 x45_2)))) [.int .i64 (wrap64 ((wrap64 (rd l0 x45_2)) + (wrap64 (rd l2 x45_2))))] (fun k_ => some k_ ≠ (v292 : Value).ownBlock ∧ some k_ ≠ (v295 : Value).ownBlock) (fun _ => False) rfl rfl ?aP (fun _ hk => hk.elim) ?aF ?aO ?aB ?aS ?aL ?_; (case aP => exact rfl); (case aB => exact (by repeat (first | (with_reducible first | exact HB.out | apply below_alloc | apply pw_below_drewN | apply below_drew1) | exact HB.out))); (case aF => exact (fun k_ hk => ⟨Kd.fresh' (Kd.R_lt (by (with_reducible repeat (first | apply Kd.R_alloc | apply Kd.R_drewN | apply Kd.R_drew)); first | exact HO293.out | exact Kd.R_mono HO293.out (fun _ _ => trivial))) k_ hk, Kd.fresh' (Kd.R_lt (by (with_reducible repeat (first | apply Kd.R_alloc | apply Kd.R_drewN | apply Kd.R_drew)); first | exact HO296.out | exact Kd.R_mono HO296.out (fun _ _ => trivial))) k_ hk⟩)); (case aO => exact (by (with_reducible repeat (first | apply Kd.R_alloc | apply Kd.R_drewN | apply Kd.R_drew)); exact HO_13.out)); (case aS => exact (below_size (by repeat (first | (with_reducible first | exact HB.out | apply below_alloc | apply pw_below_drewN | apply below_drew1) | exact HB.out)))); (case aL => have := LMc32.out; omega); intro v298 w35 ho hb hg hat; rw [← Ny297.out] at ho; have n0_ := Aside0.mk (Kd.R_after (ok := (fun k_ => some k_ ≠ (v295 : Value).ownBlock)) (by (with_reducible repeat (first | apply Kd.R_alloc | apply Kd.R_drewN | apply Kd.R_drew)); exact Kd.R_mono HO293.out (fun _ hk => ⟨hk.2, hk.1⟩)) hg hat); have n1_ := Aside0.mk (Kd.R_after (ok := (fun k_ => some k_ ≠ (v292 : Value).ownBlock)) (by (with_reducible repeat (first | apply Kd.R_alloc | apply Kd.R_drewN | apply Kd.R_drew)); exact Kd.R_mono HO296.out (fun _ hk => ⟨hk.2, hk.1⟩)) hg hat); have n2_ := Aside0.mk (hb); have n3_ := Aside0.mk (ho); clear HO293; clear HO296; clear HB; clear HO_13; have HO293 := n0_; have HO296 := n1_; have HB := n2_; have HO299 := n3_; clear n0_ n1_ n2_ n3_; clear ho hb hg hat))
               go_roundg k2
               case measure => have := HJ7.out; have := HK2.out; omega
               case rel => exact ⟨(y294), (y297), (y291), (wrap64 (x45_2 + 1)), (by first | rfl | (simp; done) | (simp [*]; done)), H', ⟨by have := HJ7.out; have := HK2.out; omega⟩, ⟨by (with_reducible repeat (first | apply Kd.R_alloc | apply Kd.R_drewN | apply Kd.R_drew)); exact Kd.R_mono HO296.out (fun _ hk => ⟨hk.2, hk.1⟩)⟩, ⟨by (with_reducible repeat (first | apply Kd.R_alloc | apply Kd.R_drewN | apply Kd.R_drew)); exact Kd.R_mono HO299.out (fun _ hk => ⟨hk.2, hk.1⟩)⟩, ⟨by (with_reducible repeat (first | apply Kd.R_alloc | apply Kd.R_drewN | apply Kd.R_drew)); exact HO293.out⟩, ⟨by repeat (first | (with_reducible first | exact HB.out | apply below_alloc | apply pw_below_drewN | apply below_drew1) | exact HB.out)⟩⟩
              ·rw [if_neg c32] at H
               exact absurd H (by simp)
             ·rw [if_neg c31] at H
              exact absurd H (by simp)
            ·rw [if_neg c30] at H
             exact absurd H (by simp)
           ·rw [if_neg c29] at H
            have c29b0 : decide (x45_2 < (l2.length : Int)) = false := decide_eq_false c29
            clear c29
            by_cases c36 : x14_2.length < 17592186044416
            ·rw [if_pos c36] at H
             have LMc36 := Aside0.mk c36
             clear c36
             obtain ⟨y300, hy300⟩ : ∃ y_ : List Int, y_ = (x14_2 ++ [wrap64 (rd l0 x45_2)]) := ⟨_, rfl⟩
             replace H : (if x12_2.length < 17592186044416 then (if x13_2.length < 17592186044416 then (palletlaw09_FtaLies.l0 k2 l1 l2 (Int.tmod a3 1125899906842624) (Int.tmod a4 1125899906842624) true (x12_2 ++ [wrap64 (wrap64 (rd l0 x45_2))]) (x13_2 ++ [wrap64 (wrap64 (rd l0 x45_2))]) y300 l0 (l0.length : Int) (wrap64 (x45_2 + 1))) else (none)) else (none)) = some r := by first | (rw [hy300]; with_reducible exact H) | (have H2_ := (Option.bind_some _ _).symm.trans H; rw [hy300]; with_reducible exact H2_) | (have H2_ := (Option.bind_some _ _).symm.trans H; with_reducible exact H2_) | with_reducible exact H | (rw [hy300]; exact H) | exact H
             have Ny300 := Aside0.mk hy300
             clear hy300
             by_cases c37 : x12_2.length < 17592186044416
             ·rw [if_pos c37] at H
              have LMc37 := Aside0.mk c37
              clear c37
              obtain ⟨y303, hy303⟩ : ∃ y_ : List Int, y_ = (x12_2 ++ [wrap64 (wrap64 (rd l0 x45_2))]) := ⟨_, rfl⟩
              replace H : (if x13_2.length < 17592186044416 then (palletlaw09_FtaLies.l0 k2 l1 l2 (Int.tmod a3 1125899906842624) (Int.tmod a4 1125899906842624) true y303 (x13_2 ++ [wrap64 (wrap64 (rd l0 x45_2))]) y300 l0 (l0.length : Int) (wrap64 (x45_2 + 1))) else (none)) = some r := by first | (rw [hy303]; with_reducible exact H) | (have H2_ := (Option.bind_some _ _).symm.trans H; rw [hy303]; with_reducible exact H2_) | (have H2_ := (Option.bind_some _ _).symm.trans H; with_reducible exact H2_) | with_reducible exact H | (rw [hy303]; exact H) | exact H
              have Ny303 := Aside0.mk hy303
              clear hy303
              by_cases c38 : x13_2.length < 17592186044416
              ·rw [if_pos c38] at H
               have LMc38 := Aside0.mk c38
               clear c38
               obtain ⟨y306, hy306⟩ : ∃ y_ : List Int, y_ = (x13_2 ++ [wrap64 (wrap64 (rd l0 x45_2))]) := ⟨_, rfl⟩
               replace H : (palletlaw09_FtaLies.l0 k2 l1 l2 (Int.tmod a3 1125899906842624) (Int.tmod a4 1125899906842624) true y303 y306 y300 l0 (l0.length : Int) (wrap64 (x45_2 + 1))) = some r := by first | (rw [hy306]; with_reducible exact H) | (have H2_ := (Option.bind_some _ _).symm.trans H; rw [hy306]; with_reducible exact H2_) | (have H2_ := (Option.bind_some _ _).symm.trans H; with_reducible exact H2_) | with_reducible exact H | (rw [hy306]; exact H) | exact H
               have Ny306 := Aside0.mk hy306
               clear hy306
               have H' := Aside0.mk H
               clear H
               have p269 : 0 ≤ (x45_2 : Int) := of_decide_eq_true (by first | (with_reducible assumption) | assumption)
               have q269 : x45_2 < (l0.length : Int) := of_decide_eq_true (by first | (with_reducible assumption) | assumption)
               obtain ⟨ad269, e269, hx269_0⟩ := Kd.at_int HR0.out x45_2 p269 q269
               cases e269
               replace hx269_0 := (HB.out.cell (World.block_lt_of_cell? w _ hx269_0)).trans hx269_0
               replace p269 := eq_true p269
               replace q269 := eq_true q269
               go_wp2_with (first | ((with_reducible refine gate_builtin (b := .append) (xs := #[.tmp 68, .tmp 71]) rfl ?_); (try (refine gate_guard (by rfl) ?_; dsimp only)); at_builtin; refine Kd.R_append (Kd.int .i64) (w0 := w) w.heap.size rfl (.tmp 68) (.tmp 71) 22 2 (.int .i64 0) 8 rfl Try.underlying22 info2 rfl (by decide) (by omega) u14 x14_2 (wrap64 (rd l0 x45_2)) [.int .i64 (wrap64 (rd l0 x45_2))] (fun k_ => some k_ ≠ (u12 : Value).ownBlock ∧ some k_ ≠ (u13 : Value).ownBlock) (fun _ => False) rfl rfl ?aP (fun _ hk => hk.elim) ?aF ?aO ?aB ?aS ?aL ?_; (case aP => exact rfl); (case aB => exact (by repeat (first | (with_reducible first | exact HB.out | apply below_alloc | apply pw_below_drewN | apply below_drew1) | exact HB.out))); (case aF => exact (fun k_ hk => ⟨Kd.fresh' (Kd.R_lt (by (with_reducible repeat (first | apply Kd.R_alloc | apply Kd.R_drewN | apply Kd.R_drew)); exact HO_12.out)) k_ hk, Kd.fresh' (Kd.R_lt (by (with_reducible repeat (first | apply Kd.R_alloc | apply Kd.R_drewN | apply Kd.R_drew)); exact HO_13.out)) k_ hk⟩)); (case aO => exact (by (with_reducible repeat (first | apply Kd.R_alloc | apply Kd.R_drewN | apply Kd.R_drew)); exact HO_14.out)); (case aS => exact (below_size (by repeat (first | (with_reducible first | exact HB.out | apply below_alloc | apply pw_below_drewN | apply below_drew1) | exact HB.out)))); (case aL => have := LMc36.out; omega); intro v301 w39 ho hb hg hat; rw [← Ny300.out] at ho; have n0_ := Aside0.mk (Kd.R_after (ok := (fun k_ => some k_ ≠ (u13 : Value).ownBlock)) (by (with_reducible repeat (first | apply Kd.R_alloc | apply Kd.R_drewN | apply Kd.R_drew)); exact HO_12.out) hg hat); have n1_ := Aside0.mk (Kd.R_after (ok := (fun k_ => some k_ ≠ (u12 : Value).ownBlock)) (by (with_reducible repeat (first | apply Kd.R_alloc | apply Kd.R_drewN | apply Kd.R_drew)); exact HO_13.out) hg hat); have n2_ := Aside0.mk (hb); have n3_ := Aside0.mk (ho); clear HO_12; clear HO_13; clear HB; clear HO_14; have HO_12 := n0_; have HO_13 := n1_; have HB := n2_; have HO302 := n3_; clear n0_ n1_ n2_ n3_; clear ho hb hg hat) | ((with_reducible refine gate_builtin (b := .append) (xs := #[.tmp 73, .tmp 78]) rfl ?_); (try (refine gate_guard (by rfl) ?_; dsimp only)); at_builtin; refine Kd.R_append (Kd.int .i64) (w0 := w) w.heap.size rfl (.tmp 73) (.tmp 78) 22 2 (.int .i64 0) 8 rfl Try.underlying22 info2 rfl (by decide) (by omega) u12 x12_2 (wrap64 (wrap64 (rd l0 x45_2))) [.int .i64 (wrap64 (wrap64 (rd l0 x45_2)))] (fun k_ => some k_ ≠ (u13 : Value).ownBlock ∧ some k_ ≠ (v301 : Value).ownBlock) (fun _ => False) rfl rfl ?aP (fun _ hk => hk.elim) ?aF ?aO ?aB ?aS ?aL ?_; (case aP => exact rfl); (case aB => exact (by repeat (first | (with_reducible first | exact HB.out | apply below_alloc | apply pw_below_drewN | apply below_drew1) | exact HB.out))); (case aF => exact (fun k_ hk => ⟨Kd.fresh' (Kd.R_lt (by (with_reducible repeat (first | apply Kd.R_alloc | apply Kd.R_drewN | apply Kd.R_drew)); exact HO_13.out)) k_ hk, Kd.fresh' (Kd.R_lt (by (with_reducible repeat (first | apply Kd.R_alloc | apply Kd.R_drewN | apply Kd.R_drew)); first | exact HO302.out | exact Kd.R_mono HO302.out (fun _ _ => trivial))) k_ hk⟩)); (case aO => exact (by (with_reducible repeat (first | apply Kd.R_alloc | apply Kd.R_drewN | apply Kd.R_drew)); exact HO_12.out)); (case aS => exact (below_size (by repeat (first | (with_reducible first | exact HB.out | apply below_alloc | apply pw_below_drewN | apply below_drew1) | exact HB.out)))); (case aL => have := LMc37.out; omega); intro v304 w40 ho hb hg hat; rw [← Ny303.out] at ho; have n0_ := Aside0.mk (Kd.R_after (ok := (fun k_ => some k_ ≠ (v301 : Value).ownBlock)) (by (with_reducible repeat (first | apply Kd.R_alloc | apply Kd.R_drewN | apply Kd.R_drew)); exact Kd.R_mono HO_13.out (fun _ hk => ⟨hk.2, hk.1⟩)) hg hat); have n1_ := Aside0.mk (Kd.R_after (ok := (fun k_ => some k_ ≠ (u13 : Value).ownBlock)) (by (with_reducible repeat (first | apply Kd.R_alloc | apply Kd.R_drewN | apply Kd.R_drew)); exact Kd.R_mono HO302.out (fun _ hk => ⟨hk.2, hk.1⟩)) hg hat); have n2_ := Aside0.mk (hb); have n3_ := Aside0.mk (ho); clear HO_13; clear HO302; clear HB; clear HO_12; have HO_13 := n0_; have HO302 := n1_; have HB := n2_; have HO305 := n3_; clear n0_ n1_ n2_ n3_; clear ho hb hg hat) | ((with_reducible refine gate_builtin (b := .append) (xs := #[.tmp 80, .tmp 85]) rfl ?_); (try (refine gate_guard (by rfl) ?_; dsimp only)); at_builtin; refine Kd.R_append (Kd.int .i64) (w0 := w) w.heap.size rfl (.tmp 80) (.tmp 85) 22 2 (.int .i64 0) 8 rfl Try.underlying22 info2 rfl (by decide) (by omega) u13 x13_2 (wrap64 (wrap64 (rd l0 x45_2))) [.int .i64 (wrap64 (wrap64 (rd l0 x45_2)))] (fun k_ => some k_ ≠ (v301 : Value).ownBlock ∧ some k_ ≠ (v304 : Value).ownBlock) (fun _ => False) rfl rfl ?aP (fun _ hk => hk.elim) ?aF ?aO ?aB ?aS ?aL ?_; (case aP => exact rfl); (case aB => exact (by repeat (first | (with_reducible first | exact HB.out | apply below_alloc | apply pw_below_drewN | apply below_drew1) | exact HB.out))); (case aF => exact (fun k_ hk => ⟨Kd.fresh' (Kd.R_lt (by (with_reducible repeat (first | apply Kd.R_alloc | apply Kd.R_drewN | apply Kd.R_drew)); first | exact HO302.out | exact Kd.R_mono HO302.out (fun _ _ => trivial))) k_ hk, Kd.fresh' (Kd.R_lt (by (with_reducible repeat (first | apply Kd.R_alloc | apply Kd.R_drewN | apply Kd.R_drew)); first | exact HO305.out | exact Kd.R_mono HO305.out (fun _ _ => trivial))) k_ hk⟩)); (case aO => exact (by (with_reducible repeat (first | apply Kd.R_alloc | apply Kd.R_drewN | apply Kd.R_drew)); exact HO_13.out)); (case aS => exact (below_size (by repeat (first | (with_reducible first | exact HB.out | apply below_alloc | apply pw_below_drewN | apply below_drew1) | exact HB.out)))); (case aL => have := LMc38.out; omega); intro v307 w41 ho hb hg hat; rw [← Ny306.out] at ho; have n0_ := Aside0.mk (Kd.R_after (ok := (fun k_ => some k_ ≠ (v304 : Value).ownBlock)) (by (with_reducible repeat (first | apply Kd.R_alloc | apply Kd.R_drewN | apply Kd.R_drew)); exact Kd.R_mono HO302.out (fun _ hk => ⟨hk.2, hk.1⟩)) hg hat); have n1_ := Aside0.mk (Kd.R_after (ok := (fun k_ => some k_ ≠ (v301 : Value).ownBlock)) (by (with_reducible repeat (first | apply Kd.R_alloc | apply Kd.R_drewN | apply Kd.R_drew)); exact Kd.R_mono HO305.out (fun _ hk => ⟨hk.2, hk.1⟩)) hg hat); have n2_ := Aside0.mk (hb); have n3_ := Aside0.mk (ho); clear HO302; clear HO305; clear HB; clear HO_13; have HO302 := n0_; have HO305 := n1_; have HB := n2_; have HO308 := n3_; clear n0_ n1_ n2_ n3_; clear ho hb hg hat))
               go_roundg k2
               case measure => have := HJ7.out; have := HK2.out; omega
               case rel => exact ⟨(y303), (y306), (y300), (wrap64 (x45_2 + 1)), (by first | rfl | (simp; done) | (simp [*]; done)), H', ⟨by have := HJ7.out; have := HK2.out; omega⟩, ⟨by (with_reducible repeat (first | apply Kd.R_alloc | apply Kd.R_drewN | apply Kd.R_drew)); exact Kd.R_mono HO305.out (fun _ hk => ⟨hk.2, hk.1⟩)⟩, ⟨by (with_reducible repeat (first | apply Kd.R_alloc | apply Kd.R_drewN | apply Kd.R_drew)); exact Kd.R_mono HO308.out (fun _ hk => ⟨hk.2, hk.1⟩)⟩, ⟨by (with_reducible repeat (first | apply Kd.R_alloc | apply Kd.R_drewN | apply Kd.R_drew)); exact HO302.out⟩, ⟨by repeat (first | (with_reducible first | exact HB.out | apply below_alloc | apply pw_below_drewN | apply below_drew1) | exact HB.out)⟩⟩
              ·rw [if_neg c38] at H
               exact absurd H (by simp)
             ·rw [if_neg c37] at H
              exact absurd H (by simp)
            ·rw [if_neg c36] at H
             exact absurd H (by simp)
         ·rw [if_neg c14] at H
          exact absurd H (by simp)
        ·rw [if_neg c13] at H
         exact absurd H (by simp)
       ·rw [if_neg c12] at H
        have c12b0 : decide (x45_2 < (l0.length : Int)) = false := decide_eq_false c12
        clear c12
        by_cases c42 : x12_2.length < 17592186044416
        ·rw [if_pos c42] at H
         have LMc42 := Aside0.mk c42
         clear c42
         obtain ⟨y309, hy309⟩ : ∃ y_ : List Int, y_ = (x12_2 ++ [(Int.tmod a3 1125899906842624)]) := ⟨_, rfl⟩
         replace H : ((fta_Average.f y309).bind fun bt312 => (if x13_2.length < 17592186044416 then ((fta_Average.f (x13_2 ++ [(Int.tmod a4 1125899906842624)])).bind fun bt317 => ((fta_Spread.f x14_2).bind fun bt319 => (if bt312.2 = 0 then (if bt317.2 = 0 then (if bt319.2 = 0 then (palletlaw09_FtaLies.j2 k2 true 32768 bt312.1 bt317.1 bt319.1 (decide (bt319.1 > 8589934592))) else (palletlaw09_FtaLies.j2 k2 true 32768 bt312.1 bt317.1 bt319.1 true)) else (palletlaw09_FtaLies.j2 k2 true 32768 bt312.1 bt317.1 bt319.1 true)) else (palletlaw09_FtaLies.j2 k2 true 32768 bt312.1 bt317.1 bt319.1 true)))) else (none))) = some r := by first | (rw [hy309]; with_reducible exact H) | (have H2_ := (Option.bind_some _ _).symm.trans H; rw [hy309]; with_reducible exact H2_) | (have H2_ := (Option.bind_some _ _).symm.trans H; with_reducible exact H2_) | with_reducible exact H | (rw [hy309]; exact H) | exact H
         have Ny309 := Aside0.mk hy309
         clear hy309
         replace H := Option.bind_eq_some_iff.mp H
         obtain ⟨⟨t312, t313⟩, A430, H⟩ := H
         replace H : (if x13_2.length < 17592186044416 then ((fta_Average.f (x13_2 ++ [(Int.tmod a4 1125899906842624)])).bind fun bt317 => ((fta_Spread.f x14_2).bind fun bt319 => (if t313 = 0 then (if bt317.2 = 0 then (if bt319.2 = 0 then (palletlaw09_FtaLies.j2 k2 true 32768 t312 bt317.1 bt319.1 (decide (bt319.1 > 8589934592))) else (palletlaw09_FtaLies.j2 k2 true 32768 t312 bt317.1 bt319.1 true)) else (palletlaw09_FtaLies.j2 k2 true 32768 t312 bt317.1 bt319.1 true)) else (palletlaw09_FtaLies.j2 k2 true 32768 t312 bt317.1 bt319.1 true)))) else (none)) = some r := H
         have A43 := Aside0.mk A430
         clear A430
         by_cases c44 : x13_2.length < 17592186044416
         ·rw [if_pos c44] at H
          have LMc44 := Aside0.mk c44
          clear c44
          obtain ⟨y314, hy314⟩ : ∃ y_ : List Int, y_ = (x13_2 ++ [(Int.tmod a4 1125899906842624)]) := ⟨_, rfl⟩
          replace H : ((fta_Average.f y314).bind fun bt317 => ((fta_Spread.f x14_2).bind fun bt319 => (if t313 = 0 then (if bt317.2 = 0 then (if bt319.2 = 0 then (palletlaw09_FtaLies.j2 k2 true 32768 t312 bt317.1 bt319.1 (decide (bt319.1 > 8589934592))) else (palletlaw09_FtaLies.j2 k2 true 32768 t312 bt317.1 bt319.1 true)) else (palletlaw09_FtaLies.j2 k2 true 32768 t312 bt317.1 bt319.1 true)) else (palletlaw09_FtaLies.j2 k2 true 32768 t312 bt317.1 bt319.1 true)))) = some r := by first | (rw [hy314]; with_reducible exact H) | (have H2_ := (Option.bind_some _ _).symm.trans H; rw [hy314]; with_reducible exact H2_) | (have H2_ := (Option.bind_some _ _).symm.trans H; with_reducible exact H2_) | with_reducible exact H | (rw [hy314]; exact H) | exact H
          have Ny314 := Aside0.mk hy314
          clear hy314
          replace H := Option.bind_eq_some_iff.mp H
          obtain ⟨⟨t317, t318⟩, A450, H⟩ := H
          replace H : ((fta_Spread.f x14_2).bind fun bt319 => (if t313 = 0 then (if t318 = 0 then (if bt319.2 = 0 then (palletlaw09_FtaLies.j2 k2 true 32768 t312 t317 bt319.1 (decide (bt319.1 > 8589934592))) else (palletlaw09_FtaLies.j2 k2 true 32768 t312 t317 bt319.1 true)) else (palletlaw09_FtaLies.j2 k2 true 32768 t312 t317 bt319.1 true)) else (palletlaw09_FtaLies.j2 k2 true 32768 t312 t317 bt319.1 true))) = some r := H
          have A45 := Aside0.mk A450
          clear A450
          replace H := Option.bind_eq_some_iff.mp H
          obtain ⟨⟨t319, t320⟩, A460, H⟩ := H
          replace H : (if t313 = 0 then (if t318 = 0 then (if t320 = 0 then (palletlaw09_FtaLies.j2 k2 true 32768 t312 t317 t319 (decide (t319 > 8589934592))) else (palletlaw09_FtaLies.j2 k2 true 32768 t312 t317 t319 true)) else (palletlaw09_FtaLies.j2 k2 true 32768 t312 t317 t319 true)) else (palletlaw09_FtaLies.j2 k2 true 32768 t312 t317 t319 true)) = some r := H
          have A46 := Aside0.mk A460
          clear A460
          have HC47 := Aside0.mk H
          clear H
          go_upto_region 26 with (first | ((with_reducible refine gate_builtin (b := .append) (xs := #[.tmp 89, .tmp 91]) rfl ?_); (try (refine gate_guard (by rfl) ?_; dsimp only)); at_builtin; refine Kd.R_append (Kd.int .i64) (w0 := w) w.heap.size rfl (.tmp 89) (.tmp 91) 22 2 (.int .i64 0) 8 rfl Try.underlying22 info2 rfl (by decide) (by omega) u12 x12_2 (Int.tmod a3 1125899906842624) [.int .i64 (Int.tmod a3 1125899906842624)] (fun k_ => some k_ ≠ (u13 : Value).ownBlock ∧ some k_ ≠ (u14 : Value).ownBlock) (fun _ => False) rfl rfl ?aP (fun _ hk => hk.elim) ?aF ?aO ?aB ?aS ?aL ?_; (case aP => exact rfl); (case aB => exact (by repeat (first | (with_reducible first | exact HB.out | apply below_alloc | apply pw_below_drewN | apply below_drew1) | exact HB.out))); (case aF => exact (fun k_ hk => ⟨Kd.fresh' (Kd.R_lt (by (with_reducible repeat (first | apply Kd.R_alloc | apply Kd.R_drewN | apply Kd.R_drew)); exact HO_13.out)) k_ hk, Kd.fresh' (Kd.R_lt (by (with_reducible repeat (first | apply Kd.R_alloc | apply Kd.R_drewN | apply Kd.R_drew)); exact HO_14.out)) k_ hk⟩)); (case aO => exact (by (with_reducible repeat (first | apply Kd.R_alloc | apply Kd.R_drewN | apply Kd.R_drew)); exact HO_12.out)); (case aS => exact (below_size (by repeat (first | (with_reducible first | exact HB.out | apply below_alloc | apply pw_below_drewN | apply below_drew1) | exact HB.out)))); (case aL => have := LMc42.out; omega); intro v310 w48 ho hb hg hat; rw [← Ny309.out] at ho; have n0_ := Aside0.mk (Kd.R_after (ok := (fun k_ => some k_ ≠ (u14 : Value).ownBlock)) (by (with_reducible repeat (first | apply Kd.R_alloc | apply Kd.R_drewN | apply Kd.R_drew)); exact Kd.R_mono HO_13.out (fun _ hk => ⟨hk.2, hk.1⟩)) hg hat); have n1_ := Aside0.mk (Kd.R_after (ok := (fun k_ => some k_ ≠ (u13 : Value).ownBlock)) (by (with_reducible repeat (first | apply Kd.R_alloc | apply Kd.R_drewN | apply Kd.R_drew)); exact Kd.R_mono HO_14.out (fun _ hk => ⟨hk.2, hk.1⟩)) hg hat); have n2_ := Aside0.mk (hb); have n3_ := Aside0.mk (ho); clear HO_13; clear HO_14; clear HB; clear HO_12; have HO_13 := n0_; have HO_14 := n1_; have HB := n2_; have HO311 := n3_; clear n0_ n1_ n2_ n3_; clear ho hb hg hat; obtain ⟨Ao49, co49, eo49⟩ := Kd.R_slice HO311.out; subst eo49) | ((with_reducible refine gate_callee (f := 8) rfl ?_); refine goesL_ (some 93) rfl rfl Try.func8 (by kernel_rfl) rfl #[.slice Ao49 y309.length co49] rfl (by (try simp only [List.map_toArray, List.map_cons, List.map_nil]); first | done | rfl | (simp only [List.length_drop, List.length_take]; first | rfl | (rw [Nat.min_eq_left (Int.toNat_le.2 (of_decide_eq_true (by assumption)))]; rfl))) ?_; (with_reducible refine (fta_Average.calls _ _ y309 t312 t313 _ ?side1 ?side2 A43.out).mono ?_); (case side1 => repeat (first | exact (Kd.R_reads' HO311.out).2.2 | (with_reducible refine Kd.C_alloc ?_ _) | (with_reducible refine Kd.C_drewN ?_ _) | (with_reducible refine Kd.C_drew ?_))); (case side2 => exact (Kd.R_reads' HO311.out).2.1); rintro e w50 ⟨rfl, hb⟩; refine ⟨_, rfl, ?_⟩; have n0_ := Aside0.mk (Kd.R_below (by (with_reducible repeat (first | apply Kd.R_alloc | apply Kd.R_drewN | apply Kd.R_drew)); exact HO_13.out) hb); have n1_ := Aside0.mk (Kd.R_below (by (with_reducible repeat (first | apply Kd.R_alloc | apply Kd.R_drewN | apply Kd.R_drew)); exact HO_14.out) hb); have n2_ := Aside0.mk (Kd.R_below (by (with_reducible repeat (first | apply Kd.R_alloc | apply Kd.R_drewN | apply Kd.R_drew)); first | exact HO311.out | exact Kd.R_mono HO311.out (fun _ _ => trivial)) hb); have n3_ := Aside0.mk (below_step (by repeat (first | (with_reducible first | exact HB.out | apply below_alloc | apply pw_below_drewN | apply below_drew1) | exact HB.out)) hb); clear HO_13; clear HO_14; clear HO311; clear HB; have HO_13 := n0_; have HO_14 := n1_; have HO311 := n2_; have HB := n3_; clear n0_ n1_ n2_ n3_; (try clear hb); (try clear hb2); (try clear hk); (try clear hi)) | ((with_reducible refine gate_builtin (b := .append) (xs := #[.tmp 97, .tmp 99]) rfl ?_); (try (refine gate_guard (by rfl) ?_; dsimp only)); at_builtin; refine Kd.R_append (Kd.int .i64) (w0 := w) w.heap.size rfl (.tmp 97) (.tmp 99) 22 2 (.int .i64 0) 8 rfl Try.underlying22 info2 rfl (by decide) (by omega) u13 x13_2 (Int.tmod a4 1125899906842624) [.int .i64 (Int.tmod a4 1125899906842624)] (fun k_ => some k_ ≠ (u14 : Value).ownBlock ∧ some k_ ≠ (.slice Ao49 y309.length co49 : Value).ownBlock) (fun _ => False) rfl rfl ?aP (fun _ hk => hk.elim) ?aF ?aO ?aB ?aS ?aL ?_; (case aP => exact rfl); (case aB => exact (by repeat (first | (with_reducible first | exact HB.out | apply below_alloc | apply pw_below_drewN | apply below_drew1) | exact HB.out))); (case aF => exact (fun k_ hk => ⟨Kd.fresh' (Kd.R_lt (by (with_reducible repeat (first | apply Kd.R_alloc | apply Kd.R_drewN | apply Kd.R_drew)); exact HO_14.out)) k_ hk, Kd.fresh' (Kd.R_lt (by (with_reducible repeat (first | apply Kd.R_alloc | apply Kd.R_drewN | apply Kd.R_drew)); first | exact HO311.out | exact Kd.R_mono HO311.out (fun _ _ => trivial))) k_ hk⟩)); (case aO => exact (by (with_reducible repeat (first | apply Kd.R_alloc | apply Kd.R_drewN | apply Kd.R_drew)); exact HO_13.out)); (case aS => exact (below_size (by repeat (first | (with_reducible first | exact HB.out | apply below_alloc | apply pw_below_drewN | apply below_drew1) | exact HB.out)))); (case aL => have := LMc44.out; omega); intro v315 w51 ho hb hg hat; rw [← Ny314.out] at ho; have n0_ := Aside0.mk (Kd.R_after (ok := (fun k_ => some k_ ≠ (.slice Ao49 y309.length co49 : Value).ownBlock)) (by (with_reducible repeat (first | apply Kd.R_alloc | apply Kd.R_drewN | apply Kd.R_drew)); exact Kd.R_mono HO_14.out (fun _ hk => ⟨hk.2, hk.1⟩)) hg hat); have n1_ := Aside0.mk (Kd.R_after (ok := (fun k_ => some k_ ≠ (u14 : Value).ownBlock)) (by (with_reducible repeat (first | apply Kd.R_alloc | apply Kd.R_drewN | apply Kd.R_drew)); exact Kd.R_mono HO311.out (fun _ hk => ⟨hk.2, hk.1⟩)) hg hat); have n2_ := Aside0.mk (hb); have n3_ := Aside0.mk (ho); clear HO_14; clear HO311; clear HB; clear HO_13; have HO_14 := n0_; have HO311 := n1_; have HB := n2_; have HO316 := n3_; clear n0_ n1_ n2_ n3_; clear ho hb hg hat; obtain ⟨Ao52, co52, eo52⟩ := Kd.R_slice HO316.out; subst eo52) | ((with_reducible refine gate_callee (f := 8) rfl ?_); refine goesL_ (some 101) rfl rfl Try.func8 (by kernel_rfl) rfl #[.slice Ao52 y314.length co52] rfl (by (try simp only [List.map_toArray, List.map_cons, List.map_nil]); first | done | rfl | (simp only [List.length_drop, List.length_take]; first | rfl | (rw [Nat.min_eq_left (Int.toNat_le.2 (of_decide_eq_true (by assumption)))]; rfl))) ?_; (with_reducible refine (fta_Average.calls _ _ y314 t317 t318 _ ?side1 ?side2 A45.out).mono ?_); (case side1 => repeat (first | exact (Kd.R_reads' HO316.out).2.2 | (with_reducible refine Kd.C_alloc ?_ _) | (with_reducible refine Kd.C_drewN ?_ _) | (with_reducible refine Kd.C_drew ?_))); (case side2 => exact (Kd.R_reads' HO316.out).2.1); rintro e w53 ⟨rfl, hb⟩; refine ⟨_, rfl, ?_⟩; have n0_ := Aside0.mk (Kd.R_below (by (with_reducible repeat (first | apply Kd.R_alloc | apply Kd.R_drewN | apply Kd.R_drew)); exact HO_14.out) hb); have n1_ := Aside0.mk (Kd.R_below (by (with_reducible repeat (first | apply Kd.R_alloc | apply Kd.R_drewN | apply Kd.R_drew)); first | exact HO311.out | exact Kd.R_mono HO311.out (fun _ _ => trivial)) hb); have n2_ := Aside0.mk (Kd.R_below (by (with_reducible repeat (first | apply Kd.R_alloc | apply Kd.R_drewN | apply Kd.R_drew)); first | exact HO316.out | exact Kd.R_mono HO316.out (fun _ _ => trivial)) hb); have n3_ := Aside0.mk (below_step (by repeat (first | (with_reducible first | exact HB.out | apply below_alloc | apply pw_below_drewN | apply below_drew1) | exact HB.out)) hb); clear HO_14; clear HO311; clear HO316; clear HB; have HO_14 := n0_; have HO311 := n1_; have HO316 := n2_; have HB := n3_; clear n0_ n1_ n2_ n3_; (try clear hb); (try clear hb2); (try clear hk); (try clear hi); obtain ⟨Ao54, co54, eo54⟩ := Kd.R_slice HO_14.out; subst eo54) | ((with_reducible refine gate_callee (f := 9) rfl ?_); refine goesL_ (some 106) rfl rfl Try.func9 (by kernel_rfl) rfl #[.slice Ao54 x14_2.length co54] rfl (by (try simp only [List.map_toArray, List.map_cons, List.map_nil]); first | done | rfl | (simp only [List.length_drop, List.length_take]; first | rfl | (rw [Nat.min_eq_left (Int.toNat_le.2 (of_decide_eq_true (by assumption)))]; rfl))) ?_; (with_reducible refine (fta_Spread.calls _ _ x14_2 t319 t320 _ ?side1 ?side2 A46.out).mono ?_); (case side1 => repeat (first | exact (Kd.R_reads' HO_14.out).2.2 | (with_reducible refine Kd.C_alloc ?_ _) | (with_reducible refine Kd.C_drewN ?_ _) | (with_reducible refine Kd.C_drew ?_))); (case side2 => exact (Kd.R_reads' HO_14.out).2.1); rintro e w' ⟨rfl, ⟨nd, rfl⟩⟩; refine ⟨_, rfl, ?_⟩))
          (try simp only [Act.put, List.setIfInBounds_toArray, List.set_cons_zero, List.set_cons_succ])
          go_cut [122] (fun v122 wc => ∃ (kq : Nat) (x122_46 : Bool), v122 = .bool x122_46 ∧ Aside0 (palletlaw09_FtaLies.j2 kq true 32768 t312 t317 t319 x122_46 = some r) ∧ Aside0 (kq ≤ k2) ∧ Aside0 (Below w.heap.size w wc))
          case first =>
           have H := HC47.out
           clear HC47
           by_cases c55 : t313 = 0
           ·rw [if_pos c55] at H
            have c55b0 : (t313 == 0) = true := beq_iff_eq.mpr c55
            have c55b1 : (t313 != 0) = false := bne_eq_false_iff_eq.mpr c55
            clear c55
            (first | rw [c55b0] | (simp only [i64_w, i32_w]; rw [c55b0]) | skip)
            by_cases c56 : t318 = 0
            ·rw [if_pos c56] at H
             have c56b0 : (t318 == 0) = true := beq_iff_eq.mpr c56
             have c56b1 : (t318 != 0) = false := bne_eq_false_iff_eq.mpr c56
             clear c56
             by_cases c57 : t320 = 0
             ·rw [if_pos c57] at H
              have c57b0 : (t320 == 0) = true := beq_iff_eq.mpr c57
              have c57b1 : (t320 != 0) = false := bne_eq_false_iff_eq.mpr c57
              clear c57
              have H' := Aside0.mk H
              clear H
              go_wp2
              go_meet
              case rel => exact ⟨_, (decide (t319 > 8589934592)), (by first | rfl | (simp; done) | (simp [*]; done)), H', ⟨by have := HJ7.out; have := HK2.out; first | omega | exact Nat.le_refl _⟩, ⟨by repeat (first | (with_reducible first | exact HB.out | apply below_alloc | apply pw_below_drewN | apply below_drew1) | exact HB.out)⟩⟩
             ·rw [if_neg c57] at H
              have c57b0 : (t320 == 0) = false := beq_eq_false_iff_ne.mpr c57
              have c57b1 : (t320 != 0) = true := bne_iff_ne.mpr c57
              have H' := Aside0.mk H
              clear H
              go_wp2
              go_meet
              case rel => exact ⟨_, (true), (by first | rfl | (simp; done) | (simp [*]; done)), H', ⟨by have := HJ7.out; have := HK2.out; first | omega | exact Nat.le_refl _⟩, ⟨by repeat (first | (with_reducible first | exact HB.out | apply below_alloc | apply pw_below_drewN | apply below_drew1) | exact HB.out)⟩⟩
            ·rw [if_neg c56] at H
             have c56b0 : (t318 == 0) = false := beq_eq_false_iff_ne.mpr c56
             have c56b1 : (t318 != 0) = true := bne_iff_ne.mpr c56
             have H' := Aside0.mk H
             clear H
             go_wp2
             go_meet
             case rel => exact ⟨_, (true), (by first | rfl | (simp; done) | (simp [*]; done)), H', ⟨by have := HJ7.out; have := HK2.out; first | omega | exact Nat.le_refl _⟩, ⟨by repeat (first | (with_reducible first | exact HB.out | apply below_alloc | apply pw_below_drewN | apply below_drew1) | exact HB.out)⟩⟩
           ·rw [if_neg c55] at H
            have c55b0 : (t313 == 0) = false := beq_eq_false_iff_ne.mpr c55
            have c55b1 : (t313 != 0) = true := bne_iff_ne.mpr c55
            (first | rw [c55b0] | (simp only [i64_w, i32_w]; rw [c55b0]) | skip)
            have H' := Aside0.mk H
            clear H
            go_wp2
            go_meet
            case rel => exact ⟨_, (true), (by first | rfl | (simp; done) | (simp [*]; done)), H', ⟨by have := HJ7.out; have := HK2.out; first | omega | exact Nat.le_refl _⟩, ⟨by repeat (first | (with_reducible first | exact HB.out | apply below_alloc | apply pw_below_drewN | apply below_drew1) | exact HB.out)⟩⟩
          case rest =>
           clear HC47
           try clear c1
           try clear c2
           try clear p2
           try clear q2
           try clear hx2
           try clear c3
           try clear c4
           try clear c5
           try clear c6
           try clear p6
           try clear c7
           try clear c8
           try clear c9
           try clear c10
           try clear c10b0
           try clear c10b1
           try clear c11
           try clear c12
           try clear c12b0
           try clear c13
           try clear c13b0
           try clear c14
           try clear c14b0
           try clear c15
           try clear c15b0
           try clear c16
           try clear c16b0
           try clear c17
           try clear c18
           try clear c19
           try clear c23
           try clear c24
           try clear c25
           try clear p26
           try clear q26
           try clear hx26
           try clear p27
           try clear q27
           try clear hx27
           try clear c29
           try clear c29b0
           try clear p29
           try clear q29
           try clear hx29
           try clear c30
           try clear c31
           try clear c32
           try clear c36
           try clear c37
           try clear c38
           try clear c42
           try clear c44
           try clear c55
           try clear c55b0
           try clear c55b1
           try clear c56
           try clear c56b0
           try clear c56b1
           try clear c57
           try clear c57b0
           try clear c57b1
           try clear hx269_0
           try clear hx270_0
           try clear hx271_0
           try clear hx290_0
           try clear p2
           try clear p269
           try clear p270
           try clear p271
           try clear p290
           try clear q269
           try clear q270
           try clear q271
           try clear q290
           obtain ⟨kq, x122_46, rfl, HA, HJ46, HB⟩ := hcut
           cases kq with
           | zero => exact absurd HA.out (by simp [palletlaw09_FtaLies.j2])
           | succ kj46 =>
            have H := HA.out
            clear HA
            simp only [palletlaw09_FtaLies.j2] at H
            by_cases c58 : x122_46 = true
            ·subst c58
             have H1 : (none) = some r := by rw [if_pos rfl] at H; exact H
             clear H
             have H := H1
             clear H1
             exact absurd H (by simp)
            ·replace c58 := Bool.eq_false_iff.mpr c58
             subst c58
             have H1 : (if (wrap64 (t312 - t317)) < 0 then (if true = true then (some (decide ((wrap64 (-(wrap64 (t312 - t317)))) ≤ (wrap64 ((wrap64 ((wrap64 (Int.tdiv (wrap64 (t319)) 2)) + (wrap64 (2 * 32768)))) + 1))))) else (none)) else (if true = true then (some (decide ((wrap64 (t312 - t317)) ≤ (wrap64 ((wrap64 ((wrap64 (Int.tdiv (wrap64 (t319)) 2)) + (wrap64 (2 * 32768)))) + 1))))) else (none))) = some r := by rw [if_neg (show ¬ (false = true) by decide)] at H; exact H
             clear H
             have H := H1
             clear H1
             by_cases c59 : (wrap64 (t312 - t317)) < 0
             ·rw [if_pos c59] at H
              have c59b0 : decide ((wrap64 (t312 - t317)) < 0) = true := decide_eq_true c59
              clear c59
              have H1 : (some (decide ((wrap64 (-(wrap64 (t312 - t317)))) ≤ (wrap64 ((wrap64 ((wrap64 (Int.tdiv (wrap64 (t319)) 2)) + (wrap64 (2 * 32768)))) + 1))))) = some r := by first | (rw [if_pos rfl] at H; exact H) | exact H
              clear H
              have H := H1
              clear H1
              obtain rfl := Option.some.inj H
              go_wp2
              go_ret
              exact ⟨by first | rfl | (simp [errW_none, errW_some] <;> rfl) | (simp [*, errW_none, errW_some] <;> rfl) | (simp [*, errW_none, errW_some, show wrap64 65536 = 65536 from by unfold wrap64; decide]; done) | (simp [*, errW_none, errW_some, show wrap64 65536 = 65536 from by unfold wrap64; decide] <;> rfl), by repeat (first | (with_reducible first | exact HB.out | apply below_alloc | apply pw_below_drewN | apply below_drew1) | exact HB.out)⟩
             ·rw [if_neg c59] at H
              have c59b0 : decide ((wrap64 (t312 - t317)) < 0) = false := decide_eq_false c59
              clear c59
              have H1 : (some (decide ((wrap64 (t312 - t317)) ≤ (wrap64 ((wrap64 ((wrap64 (Int.tdiv (wrap64 (t319)) 2)) + (wrap64 (2 * 32768)))) + 1))))) = some r := by first | (rw [if_pos rfl] at H; exact H) | exact H
              clear H
              have H := H1
              clear H1
              obtain rfl := Option.some.inj H
              go_wp2
              go_ret
              exact ⟨by first | rfl | (simp [errW_none, errW_some] <;> rfl) | (simp [*, errW_none, errW_some] <;> rfl) | (simp [*, errW_none, errW_some, show wrap64 65536 = 65536 from by unfold wrap64; decide]; done) | (simp [*, errW_none, errW_some, show wrap64 65536 = 65536 from by unfold wrap64; decide] <;> rfl), by repeat (first | (with_reducible first | exact HB.out | apply below_alloc | apply pw_below_drewN | apply below_drew1) | exact HB.out)⟩
         ·rw [if_neg c44] at H
          exact absurd H (by simp)
        ·rw [if_neg c42] at H
         exact absurd H (by simp)
 ·replace c7 := Bool.eq_false_iff.mpr c7
  subst c7
  have H1 : (none) = some r := by rw [if_neg (show ¬ (false = true) by decide)] at H; exact H
  clear H
  have H := H1
  clear H1
  exact absurd H (by simp)

end Go.Proofs.Yticlckhgobegnaa.Print
