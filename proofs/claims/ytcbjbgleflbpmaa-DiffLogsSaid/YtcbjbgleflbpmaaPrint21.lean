-- PRINTED by print.py (a twelfth state) out of the translation. Not trusted: Lean checks it.
import Derived.Test.YtcbjbgleflbpmaaPrint0
import Derived.Test.YtcbjbgleflbpmaaPrint1
namespace Go.Proofs.Ytcbjbgleflbpmaa.Print
open Go.RowKit Go.Proofs.YtcbjbgleflbpmaaW.PrintWords Go.Proofs.YtcbjbgleflbpmaaW.PrintLast Go.Proofs.YtcbjbgleflbpmaaW.PrintMore Go.Proofs.YtcbjbgleflbpmaaX
attribute [local go_sem] str_lss str_geq max2_int min2_int max_two min_two max_three min_three max_four min_four   -- for this text's walks alone
set_option linter.unusedVariables false
set_option linter.unusedSimpArgs false

attribute [local go_sem high] eqA25
/-! ### palletref19_Same: function 34 -/
def palletref19_Same.l0 : Nat → List (S25) → List (S25) → Int → Int → Option (Bool)
 | 0, _, _, _, _ => none
 | k + 1, x0, x1, x12, x13 => if x13 < x12 then (if 0 ≤ x13 then (if x13 < (x0.length : Int) then (if x13 < (x1.length : Int) then (if (!(((rd_T25 x0 x13).f0) == ((rd_T25 x1 x13).f0)) || (!(((rd_T25 x0 x13).f1) == ((rd_T25 x1 x13).f1)) || (!(((rd_T25 x0 x13).f2) == ((rd_T25 x1 x13).f2)) || (!(((rd_T25 x0 x13).f3) == ((rd_T25 x1 x13).f3)) || (!(((rd_T25 x0 x13).f4) == ((rd_T25 x1 x13).f4))))))) = true then (some false) else (palletref19_Same.l0 k x0 x1 x12 (wrap64 (x13 + 1)))) else (none)) else (none)) else (none)) else (some true)
def palletref19_Same.f (k : Nat) (l0 : List (S25)) (l1 : List (S25)) : Option (Bool) := if (l0.length : Int) = (l1.length : Int) then (palletref19_Same.l0 k l0 l1 (l0.length : Int) 0) else (some false)
theorem palletref19_Same.mono_l : ∀ k, (∀ y0 y1 y2 y3, LeO (palletref19_Same.l0 k y0 y1 y2 y3) (palletref19_Same.l0 (k + 1) y0 y1 y2 y3))
 | 0 => fun _ _ _ _ r h => by simp [palletref19_Same.l0] at h
 | k + 1 => by
  have ih0 := palletref19_Same.mono_l k
  ·intro y0 y1 y2 y3
   unfold palletref19_Same.l0
   repeat' first
   | (with_reducible exact ih0 _ _ _ _)
   | (with_reducible exact LeO.refl _)
   | (with_reducible exact LeO.none _)
   | (with_reducible refine LeO.ite ?_ ?_)
   | (with_reducible refine LeO.bind ?_ (fun _ => ?_))
   | exact ih0 _ _ _ _
   | exact LeO.none _
   | refine LeO.ite ?_ ?_
   | refine LeO.bind ?_ (fun _ => ?_)
theorem palletref19_Same.mono : ∀ a0 a1 k, LeO (palletref19_Same.f k a0 a1) (palletref19_Same.f (k + 1) a0 a1) := by
 intro a0 a1 k
 have ih0 := palletref19_Same.mono_l k
 unfold palletref19_Same.f
 repeat' first
   | (with_reducible exact ih0 _ _ _ _)
   | (with_reducible exact LeO.refl _)
   | (with_reducible exact LeO.none _)
   | (with_reducible refine LeO.ite ?_ ?_)
   | (with_reducible refine LeO.bind ?_ (fun _ => ?_))
   | exact ih0 _ _ _ _
   | exact LeO.none _
   | refine LeO.ite ?_ ?_
   | refine LeO.bind ?_ (fun _ => ?_)
set_option maxHeartbeats 8000000 in
set_option maxRecDepth 100000 in
theorem palletref19_Same.calls (k : Nat) (A0 : Option Addr) (c0 : Nat) (l0 : List (S25)) (A1 : Option Addr) (c1 : Nat) (l1 : List (S25)) (r : Bool) (w : World) (hr0 : Kd.C k25 w A0 l0.length l0) (hc0 : l0.length ≤ c0) (hr1 : Kd.C k25 w A1 l1.length l1) (hc1 : l1.length ≤ c1) (h : palletref19_Same.f k l0 l1 = some r) :
  Calls Try.prog 34 #[.slice A0 l0.length c0, .slice A1 l1.length c1] w fun e w' => e = .returned (.bool r) ∧ Drawn0 w w' := by
 have hu25 := Try.underlying25
 have HR0 := Aside0.mk hr0
 have HC0 := Aside0.mk hc0
 clear hr0 hc0
 have HR1 := Aside0.mk hr1
 have HC1 := Aside0.mk hc1
 clear hr1 hc1
 have H : (if (l0.length : Int) = (l1.length : Int) then (palletref19_Same.l0 k l0 l1 (l0.length : Int) 0) else (some false)) = some r := h
 clear h
 by_cases c3 : (l0.length : Int) = (l1.length : Int)
 ·rw [if_pos c3] at H
  have c3b0 : ((l0.length : Int) == (l1.length : Int)) = true := beq_iff_eq.mpr c3
  have c3b1 : ((l0.length : Int) != (l1.length : Int)) = false := bne_eq_false_iff_eq.mpr c3
  have c3b2 : (l0.length == l1.length) = true := by first | simpa using c3 | (simp at c3 ⊢; omega)
  clear c3
  have H' := Aside0.mk H
  clear H
  go_enter Try.func34, Try.ntmps34
  go_wp2
  repeat (go_quiet (fail); try go_wp2)
  go_loopg [13] k (fun kq v13 w' => ∃ (x13_1 : Int), v13 = .int .i64 x13_1 ∧ Aside0 (palletref19_Same.l0 kq l0 l1 (l0.length : Int) x13_1 = some r) ∧ Aside0 (kq ≤ k) ∧ Drawn0 w w')
  case atStart => exact ⟨(0), (by first | rfl | (simp; done) | (simp [*]; done)), H', ⟨Nat.le_refl _⟩, by repeat (first | exact Drawn0.refl _ | apply Drawn0.step)⟩
  case round =>
   clear H'
   try clear c1
   try clear p2
   try clear c3
   try clear c3b0
   try clear c3b1
   try clear c3b2
   obtain ⟨x13_1, rfl, HA, HK1, ⟨m1, rfl⟩⟩ := hrel
   cases gk with
   | zero => exact absurd HA.out (by simp [palletref19_Same.l0])
   | succ k1 =>
    have H := HA.out
    clear HA
    simp only [palletref19_Same.l0] at H
    by_cases c4 : x13_1 < (l0.length : Int)
    ·rw [if_pos c4] at H
     have c4b0 : decide (x13_1 < (l0.length : Int)) = true := decide_eq_true c4
     clear c4
     by_cases c5 : 0 ≤ x13_1
     ·rw [if_pos c5] at H
      have c5b0 : decide (0 ≤ x13_1) = true := decide_eq_true c5
      clear c5
      by_cases c6 : x13_1 < (l0.length : Int)
      ·rw [if_pos c6] at H
       have c6b0 : decide (x13_1 < (l0.length : Int)) = true := decide_eq_true c6
       clear c6
       by_cases c7 : x13_1 < (l1.length : Int)
       ·rw [if_pos c7] at H
        have c7b0 : decide (x13_1 < (l1.length : Int)) = true := decide_eq_true c7
        clear c7
        by_cases c8 : (!(((rd_T25 l0 x13_1).f0) == ((rd_T25 l1 x13_1).f0)) || (!(((rd_T25 l0 x13_1).f1) == ((rd_T25 l1 x13_1).f1)) || (!(((rd_T25 l0 x13_1).f2) == ((rd_T25 l1 x13_1).f2)) || (!(((rd_T25 l0 x13_1).f3) == ((rd_T25 l1 x13_1).f3)) || (!(((rd_T25 l0 x13_1).f4) == ((rd_T25 l1 x13_1).f4))))))) = true
        ·rw [if_pos c8] at H
         have c8b0 : (!(((rd_T25 l0 x13_1).f0) == ((rd_T25 l1 x13_1).f0)) || (!(((rd_T25 l0 x13_1).f1) == ((rd_T25 l1 x13_1).f1)) || (!(((rd_T25 l0 x13_1).f2) == ((rd_T25 l1 x13_1).f2)) || (!(((rd_T25 l0 x13_1).f3) == ((rd_T25 l1 x13_1).f3)) || (!(((rd_T25 l0 x13_1).f4) == ((rd_T25 l1 x13_1).f4))))))) = true := c8
         clear c8
         obtain rfl := Option.some.inj H
         have p327 : 0 ≤ (x13_1 : Int) := of_decide_eq_true (by first | (with_reducible assumption) | assumption)
         have q327 : x13_1 < (l0.length : Int) := of_decide_eq_true (by first | (with_reducible assumption) | assumption)
         obtain ⟨ad327, e327, hx327_0, hx327_1, hx327_2, hx327_3, hx327_4⟩ := at_T25 HR0.out x13_1 p327 q327
         cases e327
         replace p327 := eq_true p327
         replace q327 := eq_true q327
         have p328 : 0 ≤ (x13_1 : Int) := of_decide_eq_true (by first | (with_reducible assumption) | assumption)
         have q328 : x13_1 < (l1.length : Int) := of_decide_eq_true (by first | (with_reducible assumption) | assumption)
         obtain ⟨ad328, e328, hx328_0, hx328_1, hx328_2, hx328_3, hx328_4⟩ := at_T25 HR1.out x13_1 p328 q328
         cases e328
         replace p328 := eq_true p328
         replace q328 := eq_true q328
         go_wp2
         repeat (go_quiet (fail); try go_wp2)
         go_ret
         exact ⟨by first | rfl | (simp; done) | (simp [*]; done), by repeat (first | exact Drawn0.refl _ | apply Drawn0.step)⟩
        ·rw [if_neg c8] at H
         have c8b0 : (!(((rd_T25 l0 x13_1).f0) == ((rd_T25 l1 x13_1).f0)) || (!(((rd_T25 l0 x13_1).f1) == ((rd_T25 l1 x13_1).f1)) || (!(((rd_T25 l0 x13_1).f2) == ((rd_T25 l1 x13_1).f2)) || (!(((rd_T25 l0 x13_1).f3) == ((rd_T25 l1 x13_1).f3)) || (!(((rd_T25 l0 x13_1).f4) == ((rd_T25 l1 x13_1).f4))))))) = false := by simpa using c8
         clear c8
         have H' := Aside0.mk H
         clear H
         have p327 : 0 ≤ (x13_1 : Int) := of_decide_eq_true (by first | (with_reducible assumption) | assumption)
         have q327 : x13_1 < (l0.length : Int) := of_decide_eq_true (by first | (with_reducible assumption) | assumption)
         obtain ⟨ad327, e327, hx327_0, hx327_1, hx327_2, hx327_3, hx327_4⟩ := at_T25 HR0.out x13_1 p327 q327
         cases e327
         replace p327 := eq_true p327
         replace q327 := eq_true q327
         have p328 : 0 ≤ (x13_1 : Int) := of_decide_eq_true (by first | (with_reducible assumption) | assumption)
         have q328 : x13_1 < (l1.length : Int) := of_decide_eq_true (by first | (with_reducible assumption) | assumption)
         obtain ⟨ad328, e328, hx328_0, hx328_1, hx328_2, hx328_3, hx328_4⟩ := at_T25 HR1.out x13_1 p328 q328
         cases e328
         replace p328 := eq_true p328
         replace q328 := eq_true q328
         go_wp2
         repeat (go_quiet (fail); try go_wp2)
         go_roundg k1
         case measure => have := HK1.out; omega
         case rel => exact ⟨(wrap64 (x13_1 + 1)), (by first | rfl | (simp; done) | (simp [*]; done)), H', ⟨by have := HK1.out; omega⟩, by repeat (first | exact Drawn0.refl _ | apply Drawn0.step)⟩
       ·rw [if_neg c7] at H
        exact absurd H (by simp)
      ·rw [if_neg c6] at H
       exact absurd H (by simp)
     ·rw [if_neg c5] at H
      exact absurd H (by simp)
    ·rw [if_neg c4] at H
     have c4b0 : decide (x13_1 < (l0.length : Int)) = false := decide_eq_false c4
     clear c4
     obtain rfl := Option.some.inj H
     go_wp2
     repeat (go_quiet (fail); try go_wp2)
     go_ret
     exact ⟨by first | rfl | (simp; done) | (simp [*]; done), by repeat (first | exact Drawn0.refl _ | apply Drawn0.step)⟩
 ·rw [if_neg c3] at H
  have c3b0 : ((l0.length : Int) == (l1.length : Int)) = false := beq_eq_false_iff_ne.mpr c3
  have c3b1 : ((l0.length : Int) != (l1.length : Int)) = true := bne_iff_ne.mpr c3
  have c3b2 : (l0.length == l1.length) = false := by first | simpa using c3 | (simp at c3 ⊢; omega)
  obtain rfl := Option.some.inj H
  go_enter Try.func34, Try.ntmps34
  go_wp2
  repeat (go_quiet (fail); try go_wp2)
  go_ret
  exact ⟨by first | rfl | (simp; done) | (simp [*]; done), by repeat (first | exact Drawn0.refl _ | apply Drawn0.step)⟩

/-! ### palletref23_Prefix: function 20 -/
def palletref23_Prefix.l0 : Nat → List (S25) → List (S25) → Int → Int → Option (Int)
 | 0, _, _, _, _ => none
 | k + 1, x0, x1, x5, x6 => if x6 ≤ (mn (x0.length : Int) (x1.length : Int)) then (if 0 ≤ x6 then (if x6 ≤ (x0.length : Int) then (if x6 ≤ (x1.length : Int) then ((palletref19_Same.f k (x0.take (x6 : Int).toNat) (x1.take (x6 : Int).toNat)).bind fun t337 => (if t337 = true then (palletref23_Prefix.l0 k x0 x1 x6 (wrap64 (x6 + 1))) else (some x5))) else (none)) else (none)) else (none)) else (some x5)
def palletref23_Prefix.f (k : Nat) (l0 : List (S25)) (l1 : List (S25)) : Option (Int) := palletref23_Prefix.l0 k l0 l1 0 1
theorem palletref23_Prefix.mono_l : ∀ k, (∀ y0 y1 y2 y3, LeO (palletref23_Prefix.l0 k y0 y1 y2 y3) (palletref23_Prefix.l0 (k + 1) y0 y1 y2 y3))
 | 0 => fun _ _ _ _ r h => by simp [palletref23_Prefix.l0] at h
 | k + 1 => by
  have ih0 := palletref23_Prefix.mono_l k
  ·intro y0 y1 y2 y3
   unfold palletref23_Prefix.l0
   repeat' first
   | (with_reducible exact ih0 _ _ _ _)
   | (with_reducible exact palletref19_Same.mono _ _ _)
   | (with_reducible exact LeO.refl _)
   | (with_reducible exact LeO.none _)
   | (with_reducible refine LeO.ite ?_ ?_)
   | (with_reducible refine LeO.bind ?_ (fun _ => ?_))
   | exact ih0 _ _ _ _
   | exact palletref19_Same.mono _ _ _
   | exact LeO.none _
   | refine LeO.ite ?_ ?_
   | refine LeO.bind ?_ (fun _ => ?_)
theorem palletref23_Prefix.mono : ∀ a0 a1 k, LeO (palletref23_Prefix.f k a0 a1) (palletref23_Prefix.f (k + 1) a0 a1) := by
 intro a0 a1 k
 have ih0 := palletref23_Prefix.mono_l k
 unfold palletref23_Prefix.f
 repeat' first
   | (with_reducible exact ih0 _ _ _ _)
   | (with_reducible exact palletref19_Same.mono _ _ _)
   | (with_reducible exact LeO.refl _)
   | (with_reducible exact LeO.none _)
   | (with_reducible refine LeO.ite ?_ ?_)
   | (with_reducible refine LeO.bind ?_ (fun _ => ?_))
   | exact ih0 _ _ _ _
   | exact palletref19_Same.mono _ _ _
   | exact LeO.none _
   | refine LeO.ite ?_ ?_
   | refine LeO.bind ?_ (fun _ => ?_)
set_option maxHeartbeats 8000000 in
set_option maxRecDepth 100000 in
theorem palletref23_Prefix.calls (k : Nat) (A0 : Option Addr) (c0 : Nat) (l0 : List (S25)) (A1 : Option Addr) (c1 : Nat) (l1 : List (S25)) (r : Int) (w : World) (hr0 : Kd.C k25 w A0 l0.length l0) (hc0 : l0.length ≤ c0) (hr1 : Kd.C k25 w A1 l1.length l1) (hc1 : l1.length ≤ c1) (h : palletref23_Prefix.f k l0 l1 = some r) :
  Calls Try.prog 20 #[.slice A0 l0.length c0, .slice A1 l1.length c1] w fun e w' => e = .returned (.int .i64 r) ∧ Below w.heap.size w w' := by
 have HR0 := Aside0.mk hr0
 have HC0 := Aside0.mk hc0
 clear hr0 hc0
 have HR1 := Aside0.mk hr1
 have HC1 := Aside0.mk hc1
 clear hr1 hc1
 have HB := Aside0.mk (Below.refl w.heap.size w)
 have H : (palletref23_Prefix.l0 k l0 l1 0 1) = some r := h
 clear h
 have H' := Aside0.mk H
 clear H
 go_enter Try.func20, Try.ntmps20
 go_wp2
 repeat (go_quiet (fail); try go_wp2)
 go_loopg [5, 6] k (fun kq v5 v6 w' => ∃ (x5_1 : Int) (x6_1 : Int), v5 = .int .i64 x5_1 ∧ v6 = .int .i64 x6_1 ∧ Aside0 (palletref23_Prefix.l0 kq l0 l1 x5_1 x6_1 = some r) ∧ Aside0 (kq ≤ k) ∧ Aside0 (Below w.heap.size w w'))
 case atStart => exact ⟨(0), (1), (by first | rfl | (simp; done) | (simp [*]; done)), (by first | rfl | (simp; done) | (simp [*]; done)), H', ⟨Nat.le_refl _⟩, ⟨by repeat (first | (with_reducible first | exact HB.out | apply below_alloc | apply pw_below_drewN | apply below_drew1) | exact HB.out)⟩⟩
 case round =>
  clear H'
  try clear c1
  try clear c2
  try clear p2
  obtain ⟨x5_1, x6_1, rfl, rfl, HA, HK1, HB⟩ := hrel
  cases gk with
  | zero => exact absurd HA.out (by simp [palletref23_Prefix.l0])
  | succ k1 =>
   have H := HA.out
   clear HA
   simp only [palletref23_Prefix.l0] at H
   obtain ⟨ji3, hji3⟩ : ∃ j_ : Int, (mn (l0.length : Int) (l1.length : Int)) = j_ := ⟨_, rfl⟩
   replace H : (if x6_1 ≤ (ji3) then (if 0 ≤ x6_1 then (if x6_1 ≤ (l0.length : Int) then (if x6_1 ≤ (l1.length : Int) then ((palletref19_Same.f k1 (l0.take (x6_1 : Int).toNat) (l1.take (x6_1 : Int).toNat)).bind fun t337 => (if t337 = true then (palletref23_Prefix.l0 k1 l0 l1 x6_1 (wrap64 (x6_1 + 1))) else (some x5_1))) else (none)) else (none)) else (none)) else (some x5_1)) = some r := by first | (rw [hji3] at H; exact H) | (simp only [hji3] at H ⊢; exact H)
   have hji3_ : (if (l1.length : Int) < (l0.length : Int) then (l1.length : Int) else (l0.length : Int)) = ji3 := hji3
   have hji3n : (if l1.length < l0.length then (l1.length : Int) else (l0.length : Int)) = ji3 := (mn_nat _ _).symm.trans hji3
   by_cases c4 : x6_1 ≤ (ji3)
   ·rw [if_pos c4] at H
    have c4b0 : decide (x6_1 ≤ (ji3)) = true := decide_eq_true c4
    clear c4
    by_cases c5 : 0 ≤ x6_1
    ·rw [if_pos c5] at H
     have c5b0 := eq_true c5
     have c5b1 : decide (0 ≤ x6_1) = true := decide_eq_true c5
     clear c5
     by_cases c6 : x6_1 ≤ (l0.length : Int)
     ·rw [if_pos c6] at H
      have c6b0 := eq_true c6
      have c6b1 : decide (x6_1 ≤ (l0.length : Int)) = true := decide_eq_true c6
      clear c6
      obtain ⟨y329, hy329⟩ : ∃ y_ : List (S25), y_ = (l0.take (x6_1 : Int).toNat) := ⟨_, rfl⟩
      replace H : (if x6_1 ≤ (l1.length : Int) then ((palletref19_Same.f k1 y329 (l1.take (x6_1 : Int).toNat)).bind fun t337 => (if t337 = true then (palletref23_Prefix.l0 k1 l0 l1 x6_1 (wrap64 (x6_1 + 1))) else (some x5_1))) else (none)) = some r := by first | (rw [hy329]; with_reducible exact H) | (have H2_ := (Option.bind_some _ _).symm.trans H; rw [hy329]; with_reducible exact H2_) | (have H2_ := (Option.bind_some _ _).symm.trans H; with_reducible exact H2_) | with_reducible exact H | (rw [hy329]; exact H) | exact H
      have Ny329 := Aside0.mk hy329
      clear hy329
      have c7b0 := eq_true (of_decide_eq_true (by first | (with_reducible assumption) | assumption) : 0 ≤ x6_1)
      by_cases c8 : x6_1 ≤ (l1.length : Int)
      ·rw [if_pos c8] at H
       have c8b0 := eq_true c8
       have c8b1 : decide (x6_1 ≤ (l1.length : Int)) = true := decide_eq_true c8
       clear c8
       obtain ⟨y333, hy333⟩ : ∃ y_ : List (S25), y_ = (l1.take (x6_1 : Int).toNat) := ⟨_, rfl⟩
       replace H : ((palletref19_Same.f k1 y329 y333).bind fun t337 => (if t337 = true then (palletref23_Prefix.l0 k1 l0 l1 x6_1 (wrap64 (x6_1 + 1))) else (some x5_1))) = some r := by first | (rw [hy333]; with_reducible exact H) | (have H2_ := (Option.bind_some _ _).symm.trans H; rw [hy333]; with_reducible exact H2_) | (have H2_ := (Option.bind_some _ _).symm.trans H; with_reducible exact H2_) | with_reducible exact H | (rw [hy333]; exact H) | exact H
       have Ny333 := Aside0.mk hy333
       clear hy333
       replace H := Option.bind_eq_some_iff.mp H
       obtain ⟨t337, A90, H⟩ := H
       replace H : (if t337 = true then (palletref23_Prefix.l0 k1 l0 l1 x6_1 (wrap64 (x6_1 + 1))) else (some x5_1)) = some r := H
       have A9 := Aside0.mk A90
       clear A90
       by_cases c10 : t337 = true
       ·subst c10
        have H1 : (palletref23_Prefix.l0 k1 l0 l1 x6_1 (wrap64 (x6_1 + 1))) = some r := by rw [if_pos rfl] at H; exact H
        clear H
        have H := H1
        clear H1
        have H' := Aside0.mk H
        clear H
        have q11 : (x6_1 : Int) ≤ ((l0.length : Int) : Int) := of_decide_eq_true (by first | (with_reducible assumption) | assumption)
        obtain ⟨i011, hi011, _, hsz11, _⟩ := info_parts info25
        have hroom11 : l0.length ≤ c0 := HC0.out
        have hC11 : Kd.C k25 _ A0 l0.length l0 := HR0.out
        have hcut11 := cut_to (P := Try.prog) 32 25 .i64 Try.underlying32 hi011 A0 l0.length c0 x6_1 (of_decide_eq_true (by first | (with_reducible assumption) | assumption)) q11 hroom11
        have hr11 := Kd.C_take (m := (x6_1 : Int).toNat) hC11 (by omega)
        have hy11 : y329.length = (x6_1 : Int).toNat := (by rw [Ny329.out, List.length_take]; omega)
        rw [← Ny329.out] at hr11
        rw [← hy11] at hcut11
        have HR332 := Aside0.mk hr11
        have HC332 := Aside0.mk (show y329.length ≤ c0 from by omega)
        clear hr11 hC11 hroom11 hi011 hsz11
        have KY11 := Aside0.mk hy11
        clear hy11
        replace q11 := eq_true q11
        have q12 : (x6_1 : Int) ≤ ((l1.length : Int) : Int) := of_decide_eq_true (by first | (with_reducible assumption) | assumption)
        obtain ⟨i012, hi012, _, hsz12, _⟩ := info_parts info25
        have hroom12 : l1.length ≤ c1 := HC1.out
        have hC12 : Kd.C k25 _ A1 l1.length l1 := HR1.out
        have hcut12 := cut_to (P := Try.prog) 32 25 .i64 Try.underlying32 hi012 A1 l1.length c1 x6_1 (of_decide_eq_true (by first | (with_reducible assumption) | assumption)) q12 hroom12
        have hr12 := Kd.C_take (m := (x6_1 : Int).toNat) hC12 (by omega)
        have hy12 : y333.length = (x6_1 : Int).toNat := (by rw [Ny333.out, List.length_take]; omega)
        rw [← Ny333.out] at hr12
        rw [← hy12] at hcut12
        have HR336 := Aside0.mk hr12
        have HC336 := Aside0.mk (show y333.length ≤ c1 from by omega)
        clear hr12 hC12 hroom12 hi012 hsz12
        have KY12 := Aside0.mk hy12
        clear hy12
        replace q12 := eq_true q12
        go_wp2_with (first | (go_at_call 34; (with_reducible refine (palletref19_Same.calls k1 _ _ y329 _ _ y333 true _ ?side1 ?side2 ?side3 ?side4 A9.out).mono ?_); (case side1 => repeat (first | exact (Kd.C_below HR332.out HB.out) | (with_reducible refine Kd.C_alloc ?_ _) | (with_reducible refine Kd.C_drewN ?_ _) | (with_reducible refine Kd.C_drew ?_))); (case side2 => exact HC332.out); (case side3 => repeat (first | exact (Kd.C_below HR336.out HB.out) | (with_reducible refine Kd.C_alloc ?_ _) | (with_reducible refine Kd.C_drewN ?_ _) | (with_reducible refine Kd.C_drew ?_))); (case side4 => exact HC336.out); rintro e w' ⟨rfl, ⟨nd, rfl⟩⟩; (try first | exact ⟨rfl, _, World.drewN_drewN _ _ _⟩ | exact ⟨rfl, _, Eq.trans (World.drewN_drewN _ _ _) (congrArg (World.drewN _) (Nat.add_assoc _ _ _))⟩)))
        repeat (go_quiet (first | (go_at_call 34; (with_reducible refine (palletref19_Same.calls k1 _ _ y329 _ _ y333 true _ ?side1 ?side2 ?side3 ?side4 A9.out).mono ?_); (case side1 => repeat (first | exact (Kd.C_below HR332.out HB.out) | (with_reducible refine Kd.C_alloc ?_ _) | (with_reducible refine Kd.C_drewN ?_ _) | (with_reducible refine Kd.C_drew ?_))); (case side2 => exact HC332.out); (case side3 => repeat (first | exact (Kd.C_below HR336.out HB.out) | (with_reducible refine Kd.C_alloc ?_ _) | (with_reducible refine Kd.C_drewN ?_ _) | (with_reducible refine Kd.C_drew ?_))); (case side4 => exact HC336.out); rintro e w' ⟨rfl, ⟨nd, rfl⟩⟩; (try first | exact ⟨rfl, _, World.drewN_drewN _ _ _⟩ | exact ⟨rfl, _, Eq.trans (World.drewN_drewN _ _ _) (congrArg (World.drewN _) (Nat.add_assoc _ _ _))⟩))); try go_wp2_with (first | (go_at_call 34; (with_reducible refine (palletref19_Same.calls k1 _ _ y329 _ _ y333 true _ ?side1 ?side2 ?side3 ?side4 A9.out).mono ?_); (case side1 => repeat (first | exact (Kd.C_below HR332.out HB.out) | (with_reducible refine Kd.C_alloc ?_ _) | (with_reducible refine Kd.C_drewN ?_ _) | (with_reducible refine Kd.C_drew ?_))); (case side2 => exact HC332.out); (case side3 => repeat (first | exact (Kd.C_below HR336.out HB.out) | (with_reducible refine Kd.C_alloc ?_ _) | (with_reducible refine Kd.C_drewN ?_ _) | (with_reducible refine Kd.C_drew ?_))); (case side4 => exact HC336.out); rintro e w' ⟨rfl, ⟨nd, rfl⟩⟩; (try first | exact ⟨rfl, _, World.drewN_drewN _ _ _⟩ | exact ⟨rfl, _, Eq.trans (World.drewN_drewN _ _ _) (congrArg (World.drewN _) (Nat.add_assoc _ _ _))⟩))))
        go_roundg k1
        case measure => have := HK1.out; omega
        case rel => exact ⟨(x6_1), (wrap64 (x6_1 + 1)), (by first | rfl | (simp; done) | (simp [*]; done)), (by first | rfl | (simp; done) | (simp [*]; done)), H', ⟨by have := HK1.out; omega⟩, ⟨by repeat (first | (with_reducible first | exact HB.out | apply below_alloc | apply pw_below_drewN | apply below_drew1) | exact HB.out)⟩⟩
       ·replace c10 := Bool.eq_false_iff.mpr c10
        subst c10
        have H1 : (some x5_1) = some r := by rw [if_neg (show ¬ (false = true) by decide)] at H; exact H
        clear H
        have H := H1
        clear H1
        obtain rfl := Option.some.inj H
        have q13 : (x6_1 : Int) ≤ ((l0.length : Int) : Int) := of_decide_eq_true (by first | (with_reducible assumption) | assumption)
        obtain ⟨i013, hi013, _, hsz13, _⟩ := info_parts info25
        have hroom13 : l0.length ≤ c0 := HC0.out
        have hC13 : Kd.C k25 _ A0 l0.length l0 := HR0.out
        (try clear hcut11)
        have hcut13 := cut_to (P := Try.prog) 32 25 .i64 Try.underlying32 hi013 A0 l0.length c0 x6_1 (of_decide_eq_true (by first | (with_reducible assumption) | assumption)) q13 hroom13
        have hr13 := Kd.C_take (m := (x6_1 : Int).toNat) hC13 (by omega)
        have hy13 : y329.length = (x6_1 : Int).toNat := (by rw [Ny329.out, List.length_take]; omega)
        rw [← Ny329.out] at hr13
        rw [← hy13] at hcut13
        have HR332 := Aside0.mk hr13
        have HC332 := Aside0.mk (show y329.length ≤ c0 from by omega)
        clear hr13 hC13 hroom13 hi013 hsz13
        have KY13 := Aside0.mk hy13
        clear hy13
        replace q13 := eq_true q13
        have q14 : (x6_1 : Int) ≤ ((l1.length : Int) : Int) := of_decide_eq_true (by first | (with_reducible assumption) | assumption)
        obtain ⟨i014, hi014, _, hsz14, _⟩ := info_parts info25
        have hroom14 : l1.length ≤ c1 := HC1.out
        have hC14 : Kd.C k25 _ A1 l1.length l1 := HR1.out
        (try clear hcut12)
        have hcut14 := cut_to (P := Try.prog) 32 25 .i64 Try.underlying32 hi014 A1 l1.length c1 x6_1 (of_decide_eq_true (by first | (with_reducible assumption) | assumption)) q14 hroom14
        have hr14 := Kd.C_take (m := (x6_1 : Int).toNat) hC14 (by omega)
        have hy14 : y333.length = (x6_1 : Int).toNat := (by rw [Ny333.out, List.length_take]; omega)
        rw [← Ny333.out] at hr14
        rw [← hy14] at hcut14
        have HR336 := Aside0.mk hr14
        have HC336 := Aside0.mk (show y333.length ≤ c1 from by omega)
        clear hr14 hC14 hroom14 hi014 hsz14
        have KY14 := Aside0.mk hy14
        clear hy14
        replace q14 := eq_true q14
        go_wp2_with (first | (go_at_call 34; (with_reducible refine (palletref19_Same.calls k1 _ _ y329 _ _ y333 false _ ?side1 ?side2 ?side3 ?side4 A9.out).mono ?_); (case side1 => repeat (first | exact (Kd.C_below HR332.out HB.out) | (with_reducible refine Kd.C_alloc ?_ _) | (with_reducible refine Kd.C_drewN ?_ _) | (with_reducible refine Kd.C_drew ?_))); (case side2 => exact HC332.out); (case side3 => repeat (first | exact (Kd.C_below HR336.out HB.out) | (with_reducible refine Kd.C_alloc ?_ _) | (with_reducible refine Kd.C_drewN ?_ _) | (with_reducible refine Kd.C_drew ?_))); (case side4 => exact HC336.out); rintro e w' ⟨rfl, ⟨nd, rfl⟩⟩; (try first | exact ⟨rfl, _, World.drewN_drewN _ _ _⟩ | exact ⟨rfl, _, Eq.trans (World.drewN_drewN _ _ _) (congrArg (World.drewN _) (Nat.add_assoc _ _ _))⟩)))
        repeat (go_quiet (first | (go_at_call 34; (with_reducible refine (palletref19_Same.calls k1 _ _ y329 _ _ y333 false _ ?side1 ?side2 ?side3 ?side4 A9.out).mono ?_); (case side1 => repeat (first | exact (Kd.C_below HR332.out HB.out) | (with_reducible refine Kd.C_alloc ?_ _) | (with_reducible refine Kd.C_drewN ?_ _) | (with_reducible refine Kd.C_drew ?_))); (case side2 => exact HC332.out); (case side3 => repeat (first | exact (Kd.C_below HR336.out HB.out) | (with_reducible refine Kd.C_alloc ?_ _) | (with_reducible refine Kd.C_drewN ?_ _) | (with_reducible refine Kd.C_drew ?_))); (case side4 => exact HC336.out); rintro e w' ⟨rfl, ⟨nd, rfl⟩⟩; (try first | exact ⟨rfl, _, World.drewN_drewN _ _ _⟩ | exact ⟨rfl, _, Eq.trans (World.drewN_drewN _ _ _) (congrArg (World.drewN _) (Nat.add_assoc _ _ _))⟩))); try go_wp2_with (first | (go_at_call 34; (with_reducible refine (palletref19_Same.calls k1 _ _ y329 _ _ y333 false _ ?side1 ?side2 ?side3 ?side4 A9.out).mono ?_); (case side1 => repeat (first | exact (Kd.C_below HR332.out HB.out) | (with_reducible refine Kd.C_alloc ?_ _) | (with_reducible refine Kd.C_drewN ?_ _) | (with_reducible refine Kd.C_drew ?_))); (case side2 => exact HC332.out); (case side3 => repeat (first | exact (Kd.C_below HR336.out HB.out) | (with_reducible refine Kd.C_alloc ?_ _) | (with_reducible refine Kd.C_drewN ?_ _) | (with_reducible refine Kd.C_drew ?_))); (case side4 => exact HC336.out); rintro e w' ⟨rfl, ⟨nd, rfl⟩⟩; (try first | exact ⟨rfl, _, World.drewN_drewN _ _ _⟩ | exact ⟨rfl, _, Eq.trans (World.drewN_drewN _ _ _) (congrArg (World.drewN _) (Nat.add_assoc _ _ _))⟩))))
        go_ret
        exact ⟨by first | rfl | (simp [errW_none, errW_some] <;> rfl) | (simp only [← hji3]; first | rfl | (simp [errW_none, errW_some] <;> rfl)) | (simp [*, errW_none, errW_some] <;> rfl), by repeat (first | (with_reducible first | exact HB.out | apply below_alloc | apply pw_below_drewN | apply below_drew1) | exact HB.out)⟩
      ·rw [if_neg c8] at H
       exact absurd H (by simp)
     ·rw [if_neg c6] at H
      exact absurd H (by simp)
    ·rw [if_neg c5] at H
     exact absurd H (by simp)
   ·rw [if_neg c4] at H
    have c4b0 : decide (x6_1 ≤ (ji3)) = false := decide_eq_false c4
    clear c4
    obtain rfl := Option.some.inj H
    go_wp2
    repeat (go_quiet (fail); try go_wp2)
    go_ret
    exact ⟨by first | rfl | (simp [errW_none, errW_some] <;> rfl) | (simp only [← hji3]; first | rfl | (simp [errW_none, errW_some] <;> rfl)) | (simp [*, errW_none, errW_some] <;> rfl), by repeat (first | (with_reducible first | exact HB.out | apply below_alloc | apply pw_below_drewN | apply below_drew1) | exact HB.out)⟩

end Go.Proofs.Ytcbjbgleflbpmaa.Print
