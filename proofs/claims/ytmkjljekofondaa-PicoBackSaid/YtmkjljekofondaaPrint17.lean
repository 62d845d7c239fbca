-- PRINTED by print.py (a twelfth state) out of the translation. Not trusted: Lean checks it.
import Derived.Test.YtmkjljekofondaaPrint0
import Derived.Test.YtmkjljekofondaaPrint12
import Derived.Test.YtmkjljekofondaaPrint16
namespace Go.Proofs.Ytmkjljekofondaa.Print
open Go.RowKit Go.Proofs.YtmkjljekofondaaW.PrintWords Go.Proofs.YtmkjljekofondaaW.PrintLast Go.Proofs.YtmkjljekofondaaW.PrintMore Go.Proofs.YtmkjljekofondaaX
attribute [local go_sem] str_lss str_geq max2_int min2_int max_two min_two max_three min_three max_four min_four   -- for this text's walks alone
set_option linter.unusedVariables false
set_option linter.unusedSimpArgs false

/-! ### pico_Read: function 33 -/
mutual
def pico_Read.j0 : Nat → ByteArray → ByteArray → Bool → Bool → Option (Int × Int)
 | 0, _, _, _, _ => none
 | k + 1, x0, x4, x5, x21 => if x21 = true then (if 1 ≤ (x0.size : Int) then (pico_Read.j1 k (x0.extract 1 x0.size) true) else (none)) else (pico_Read.j1 k x4 x5)
def pico_Read.j1 : Nat → ByteArray → Bool → Option (Int × Int)
 | 0, _, _ => none
 | k + 1, x4, x5 => pico_Read.l0 k x4 x5 0
def pico_Read.j3 : Nat → ByteArray → Bool → Int → Option (Int × Int)
 | 0, _, _, _ => none
 | k + 1, x4, x5, x6 => if 0 ≤ x6 then (if x6 ≤ (x4.size : Int) then ((pico_Unit.f (x4.extract (x6 : Int).toNat x4.size)).bind fun bt288 => (if x6 = 0 then (pico_Read.j4 k x4 x5 x6 bt288.1 true) else (pico_Read.j4 k x4 x5 x6 bt288.1 (!bt288.2)))) else (none)) else (none)
def pico_Read.j4 : Nat → ByteArray → Bool → Int → Int → Bool → Option (Int × Int)
 | 0, _, _, _, _, _ => none
 | k + 1, x4, x5, x6, x7, x54 => if x54 = true then (some (0, 4)) else (pico_Read.l1 k x4 x5 x7 0 x6 0)
def pico_Read.l1 : Nat → ByteArray → Bool → Int → Int → Int → Int → Option (Int × Int)
 | 0, _, _, _, _, _, _ => none
 | k + 1, x4, x5, x7, x9, x55, x56 => if x56 < x55 then (if x9 > 115292150460684697 then (some (0, 2)) else (if 0 ≤ x56 then (if x56 < (x4.size : Int) then (if (wrap64 ((wrap64 (10 * x9)) + (((bt x4 x56) - 48) % 256))) > 1152921504606846976 then (some (0, 2)) else (pico_Read.l1 k x4 x5 x7 (wrap64 ((wrap64 (10 * x9)) + (((bt x4 x56) - 48) % 256))) x55 (wrap64 (x56 + 1)))) else (none)) else (none))) else (if x5 = true then ((pico_Mul.f k (wrap64 (-x9)) x7).bind fun bt290 => (if bt290.2 = 0 then (some (bt290.1, 0)) else (some (0, 2)))) else ((pico_Mul.f k x9 x7).bind fun bt292 => (if bt292.2 = 0 then (some (bt292.1, 0)) else (some (0, 2)))))
def pico_Read.l0 : Nat → ByteArray → Bool → Int → Option (Int × Int)
 | 0, _, _, _ => none
 | k + 1, x4, x5, x6 => if x6 < (x4.size : Int) then (if 0 ≤ x6 then (if 48 ≤ (bt x4 x6) then (if (bt x4 x6) ≤ 57 then (pico_Read.l0 k x4 x5 (wrap64 (x6 + 1))) else (pico_Read.j3 k x4 x5 x6)) else (pico_Read.j3 k x4 x5 x6)) else (none)) else (pico_Read.j3 k x4 x5 x6)
end
def pico_Read.f (k : Nat) (a0 : ByteArray) : Option (Int × Int) := if (a0.size : Int) > 0 then (if 0 < (a0.size : Int) then (pico_Read.j0 k a0 a0 false ((bt a0 0) == 45)) else (none)) else (pico_Read.j0 k a0 a0 false false)
theorem pico_Read.mono_l : ∀ k, (∀ y0 y1 y2 y3, LeO (pico_Read.j0 k y0 y1 y2 y3) (pico_Read.j0 (k + 1) y0 y1 y2 y3)) ∧ (∀ y0 y1, LeO (pico_Read.j1 k y0 y1) (pico_Read.j1 (k + 1) y0 y1)) ∧ (∀ y0 y1 y2, LeO (pico_Read.j3 k y0 y1 y2) (pico_Read.j3 (k + 1) y0 y1 y2)) ∧ (∀ y0 y1 y2 y3 y4, LeO (pico_Read.j4 k y0 y1 y2 y3 y4) (pico_Read.j4 (k + 1) y0 y1 y2 y3 y4)) ∧ (∀ y0 y1 y2 y3 y4 y5, LeO (pico_Read.l1 k y0 y1 y2 y3 y4 y5) (pico_Read.l1 (k + 1) y0 y1 y2 y3 y4 y5)) ∧ (∀ y0 y1 y2, LeO (pico_Read.l0 k y0 y1 y2) (pico_Read.l0 (k + 1) y0 y1 y2))
 | 0 => ⟨fun _ _ _ _ r h => by simp [pico_Read.j0] at h, fun _ _ r h => by simp [pico_Read.j1] at h, fun _ _ _ r h => by simp [pico_Read.j3] at h, fun _ _ _ _ _ r h => by simp [pico_Read.j4] at h, fun _ _ _ _ _ _ r h => by simp [pico_Read.l1] at h, fun _ _ _ r h => by simp [pico_Read.l0] at h⟩
 | k + 1 => by
  obtain ⟨ih0, ih1, ih2, ih3, ih4, ih5⟩ := pico_Read.mono_l k
  refine ⟨?_, ?_, ?_, ?_, ?_, ?_⟩
  ·intro y0 y1 y2 y3
   unfold pico_Read.j0
   repeat' first
   | (with_reducible exact ih0 _ _ _ _)
   | (with_reducible exact ih1 _ _)
   | (with_reducible exact ih2 _ _ _)
   | (with_reducible exact ih3 _ _ _ _ _)
   | (with_reducible exact ih4 _ _ _ _ _ _)
   | (with_reducible exact ih5 _ _ _)
   | (with_reducible exact pico_Mul.mono _ _ _)
   | (with_reducible exact LeO.refl _)
   | (with_reducible exact LeO.none _)
   | (with_reducible refine LeO.ite ?_ ?_)
   | (with_reducible refine LeO.bind ?_ (fun _ => ?_))
   | exact ih0 _ _ _ _
   | exact ih1 _ _
   | exact ih2 _ _ _
   | exact ih3 _ _ _ _ _
   | exact ih4 _ _ _ _ _ _
   | exact ih5 _ _ _
   | exact pico_Mul.mono _ _ _
   | exact LeO.none _
   | refine LeO.ite ?_ ?_
   | refine LeO.bind ?_ (fun _ => ?_)
  ·intro y0 y1
   unfold pico_Read.j1
   repeat' first
   | (with_reducible exact ih0 _ _ _ _)
   | (with_reducible exact ih1 _ _)
   | (with_reducible exact ih2 _ _ _)
   | (with_reducible exact ih3 _ _ _ _ _)
   | (with_reducible exact ih4 _ _ _ _ _ _)
   | (with_reducible exact ih5 _ _ _)
   | (with_reducible exact pico_Mul.mono _ _ _)
   | (with_reducible exact LeO.refl _)
   | (with_reducible exact LeO.none _)
   | (with_reducible refine LeO.ite ?_ ?_)
   | (with_reducible refine LeO.bind ?_ (fun _ => ?_))
   | exact ih0 _ _ _ _
   | exact ih1 _ _
   | exact ih2 _ _ _
   | exact ih3 _ _ _ _ _
   | exact ih4 _ _ _ _ _ _
   | exact ih5 _ _ _
   | exact pico_Mul.mono _ _ _
   | exact LeO.none _
   | refine LeO.ite ?_ ?_
   | refine LeO.bind ?_ (fun _ => ?_)
  ·intro y0 y1 y2
   unfold pico_Read.j3
   repeat' first
   | (with_reducible exact ih0 _ _ _ _)
   | (with_reducible exact ih1 _ _)
   | (with_reducible exact ih2 _ _ _)
   | (with_reducible exact ih3 _ _ _ _ _)
   | (with_reducible exact ih4 _ _ _ _ _ _)
   | (with_reducible exact ih5 _ _ _)
   | (with_reducible exact pico_Mul.mono _ _ _)
   | (with_reducible exact LeO.refl _)
   | (with_reducible exact LeO.none _)
   | (with_reducible refine LeO.ite ?_ ?_)
   | (with_reducible refine LeO.bind ?_ (fun _ => ?_))
   | exact ih0 _ _ _ _
   | exact ih1 _ _
   | exact ih2 _ _ _
   | exact ih3 _ _ _ _ _
   | exact ih4 _ _ _ _ _ _
   | exact ih5 _ _ _
   | exact pico_Mul.mono _ _ _
   | exact LeO.none _
   | refine LeO.ite ?_ ?_
   | refine LeO.bind ?_ (fun _ => ?_)
  ·intro y0 y1 y2 y3 y4
   unfold pico_Read.j4
   repeat' first
   | (with_reducible exact ih0 _ _ _ _)
   | (with_reducible exact ih1 _ _)
   | (with_reducible exact ih2 _ _ _)
   | (with_reducible exact ih3 _ _ _ _ _)
   | (with_reducible exact ih4 _ _ _ _ _ _)
   | (with_reducible exact ih5 _ _ _)
   | (with_reducible exact pico_Mul.mono _ _ _)
   | (with_reducible exact LeO.refl _)
   | (with_reducible exact LeO.none _)
   | (with_reducible refine LeO.ite ?_ ?_)
   | (with_reducible refine LeO.bind ?_ (fun _ => ?_))
   | exact ih0 _ _ _ _
   | exact ih1 _ _
   | exact ih2 _ _ _
   | exact ih3 _ _ _ _ _
   | exact ih4 _ _ _ _ _ _
   | exact ih5 _ _ _
   | exact pico_Mul.mono _ _ _
   | exact LeO.none _
   | refine LeO.ite ?_ ?_
   | refine LeO.bind ?_ (fun _ => ?_)
  ·intro y0 y1 y2 y3 y4 y5
   unfold pico_Read.l1
   repeat' first
   | (with_reducible exact ih0 _ _ _ _)
   | (with_reducible exact ih1 _ _)
   | (with_reducible exact ih2 _ _ _)
   | (with_reducible exact ih3 _ _ _ _ _)
   | (with_reducible exact ih4 _ _ _ _ _ _)
   | (with_reducible exact ih5 _ _ _)
   | (with_reducible exact pico_Mul.mono _ _ _)
   | (with_reducible exact LeO.refl _)
   | (with_reducible exact LeO.none _)
   | (with_reducible refine LeO.ite ?_ ?_)
   | (with_reducible refine LeO.bind ?_ (fun _ => ?_))
   | exact ih0 _ _ _ _
   | exact ih1 _ _
   | exact ih2 _ _ _
   | exact ih3 _ _ _ _ _
   | exact ih4 _ _ _ _ _ _
   | exact ih5 _ _ _
   | exact pico_Mul.mono _ _ _
   | exact LeO.none _
   | refine LeO.ite ?_ ?_
   | refine LeO.bind ?_ (fun _ => ?_)
  ·intro y0 y1 y2
   unfold pico_Read.l0
   repeat' first
   | (with_reducible exact ih0 _ _ _ _)
   | (with_reducible exact ih1 _ _)
   | (with_reducible exact ih2 _ _ _)
   | (with_reducible exact ih3 _ _ _ _ _)
   | (with_reducible exact ih4 _ _ _ _ _ _)
   | (with_reducible exact ih5 _ _ _)
   | (with_reducible exact pico_Mul.mono _ _ _)
   | (with_reducible exact LeO.refl _)
   | (with_reducible exact LeO.none _)
   | (with_reducible refine LeO.ite ?_ ?_)
   | (with_reducible refine LeO.bind ?_ (fun _ => ?_))
   | exact ih0 _ _ _ _
   | exact ih1 _ _
   | exact ih2 _ _ _
   | exact ih3 _ _ _ _ _
   | exact ih4 _ _ _ _ _ _
   | exact ih5 _ _ _
   | exact pico_Mul.mono _ _ _
   | exact LeO.none _
   | refine LeO.ite ?_ ?_
   | refine LeO.bind ?_ (fun _ => ?_)
theorem pico_Read.mono : ∀ a0 k, LeO (pico_Read.f k a0) (pico_Read.f (k + 1) a0) := by
 intro a0 k
 obtain ⟨ih0, ih1, ih2, ih3, ih4, ih5⟩ := pico_Read.mono_l k
 unfold pico_Read.f
 repeat' first
   | (with_reducible exact ih0 _ _ _ _)
   | (with_reducible exact ih1 _ _)
   | (with_reducible exact ih2 _ _ _)
   | (with_reducible exact ih3 _ _ _ _ _)
   | (with_reducible exact ih4 _ _ _ _ _ _)
   | (with_reducible exact ih5 _ _ _)
   | (with_reducible exact pico_Mul.mono _ _ _)
   | (with_reducible exact LeO.refl _)
   | (with_reducible exact LeO.none _)
   | (with_reducible refine LeO.ite ?_ ?_)
   | (with_reducible refine LeO.bind ?_ (fun _ => ?_))
   | exact ih0 _ _ _ _
   | exact ih1 _ _
   | exact ih2 _ _ _
   | exact ih3 _ _ _ _ _
   | exact ih4 _ _ _ _ _ _
   | exact ih5 _ _ _
   | exact pico_Mul.mono _ _ _
   | exact LeO.none _
   | refine LeO.ite ?_ ?_
   | refine LeO.bind ?_ (fun _ => ?_)
set_option maxHeartbeats 8000000 in
set_option maxRecDepth 100000 in
theorem pico_Read.calls (k : Nat) (a0 : ByteArray) (r1 : Int) (r2 : Int) (w : World) (h : pico_Read.f k a0 = some (r1, r2)) :
  Calls Try.prog 33 #[.string a0] w fun e w' => e = .returned (.tuple #[.int .i64 r1, .int .i64 r2]) ∧ Below w.heap.size w w' := by
 have HB := Aside0.mk (Below.refl w.heap.size w)
 have H : (if (a0.size : Int) > 0 then (if 0 < (a0.size : Int) then (pico_Read.j0 k a0 a0 false ((bt a0 0) == 45)) else (none)) else (pico_Read.j0 k a0 a0 false false)) = some (r1, r2) := h
 clear h
 have HC2 := Aside0.mk H
 clear H
 go_enter Try.func33, Try.ntmps33
 go_upto_region 2 with (fail)
 go_cut [21] (fun v21 wc => ∃ (kq : Nat) (x21_1 : Bool), v21 = .bool x21_1 ∧ Aside0 (pico_Read.j0 kq a0 a0 false x21_1 = some (r1, r2)) ∧ Aside0 (kq ≤ k) ∧ Aside0 (Below w.heap.size w wc))
 case first =>
  have H := HC2.out
  clear HC2
  by_cases c3 : (a0.size : Int) > 0
  ·rw [if_pos c3] at H
   have c3b0 : decide (0 < (a0.size : Int)) = true := decide_eq_true c3
   have c3b1 : decide (0 < a0.size) = true := decide_eq_true (by omega)
   clear c3
   (first | rw [c3b0] | (simp only [i64_w, i32_w]; rw [c3b0]) | skip)
   by_cases c4 : 0 < (a0.size : Int)
   ·rw [if_pos c4] at H
    have c4b0 : decide (0 < (a0.size : Int)) = true := decide_eq_true c4
    have c4b1 : decide (0 < a0.size) = true := decide_eq_true (by omega)
    clear c4
    have H' := Aside0.mk H
    clear H
    have p5 : 0 ≤ (0 : Int) := (by omega)
    have q5 : 0 < a0.size := (by have : (0 : Int) < (a0.size : Int) := of_decide_eq_true (by first | (with_reducible assumption) | assumption); omega)
    have hx5 : ∀ h : 0 < a0.size, ((a0[0]'h).toNat : Int) = bt a0 0 := bt_at a0 0
    clear p5
    have qi5 : (0 < (a0.size : Int)) = True := eq_true (of_decide_eq_true (by first | (with_reducible assumption) | assumption))
    replace q5 := eq_true q5
    go_wp2
    go_meet
    case rel => exact ⟨_, (((bt a0 0) == 45)), (by first | rfl | (simp; done) | (simp [*]; done)), H', ⟨by first | omega | exact Nat.le_refl _⟩, ⟨by repeat (first | (with_reducible first | exact HB.out | apply below_alloc | apply pw_below_drewN | apply below_drew1) | exact HB.out)⟩⟩
   ·rw [if_neg c4] at H
    exact absurd H (by simp)
  ·rw [if_neg c3] at H
   have c3b0 : decide (0 < (a0.size : Int)) = false := decide_eq_false c3
   have c3b1 : decide (0 < a0.size) = false := decide_eq_false (by omega)
   clear c3
   (first | rw [c3b0] | (simp only [i64_w, i32_w]; rw [c3b0]) | skip)
   have H' := Aside0.mk H
   clear H
   go_wp2
   go_meet
   case rel => exact ⟨_, (false), (by first | rfl | (simp; done) | (simp [*]; done)), H', ⟨by first | omega | exact Nat.le_refl _⟩, ⟨by repeat (first | (with_reducible first | exact HB.out | apply below_alloc | apply pw_below_drewN | apply below_drew1) | exact HB.out)⟩⟩
 case rest =>
  clear HC2
  try clear p2
  try clear c3
  try clear c3b0
  try clear c3b1
  try clear c4
  try clear c4b0
  try clear c4b1
  try clear p5
  try clear q5
  try clear hx5
  try clear qi5
  try clear p5
  try clear q5
  obtain ⟨kq, x21_1, rfl, HA, HJ1, HB⟩ := hcut
  cases kq with
  | zero => exact absurd HA.out (by simp [pico_Read.j0])
  | succ kj1 =>
   have H := HA.out
   clear HA
   simp only [pico_Read.j0] at H
   have HC6 := Aside0.mk H
   clear H
   go_upto_if 21 with (fail)
   go_cut [4, 5] (fun v4 v5 wc => ∃ (kq : Nat) (x4_5 : ByteArray) (x5_5 : Bool), v4 = .string x4_5 ∧ v5 = .bool x5_5 ∧ Aside0 (pico_Read.j1 kq x4_5 x5_5 = some (r1, r2)) ∧ Aside0 (kq ≤ kj1) ∧ Aside0 (Below w.heap.size w wc))
   case first =>
    have H := HC6.out
    clear HC6
    by_cases c7 : x21_1 = true
    ·subst c7
     have H1 : (if 1 ≤ (a0.size : Int) then (pico_Read.j1 kj1 (a0.extract 1 a0.size) true) else (none)) = some (r1, r2) := by rw [if_pos rfl] at H; exact H
     clear H
     have H := H1
     clear H1
     by_cases c8 : 1 ≤ (a0.size : Int)
     ·rw [if_pos c8] at H
      have c8b0 := eq_true c8
      have c8b1 : decide (1 ≤ (a0.size : Int)) = true := decide_eq_true c8
      clear c8
      have H' := Aside0.mk H
      clear H
      go_wp2
      go_meet
      case rel => exact ⟨_, (a0.extract 1 a0.size), (true), (by first | rfl | (simp; done) | (simp [*]; done)), (by first | rfl | (simp; done) | (simp [*]; done)), H', ⟨by have := HJ1.out; first | omega | exact Nat.le_refl _⟩, ⟨by repeat (first | (with_reducible first | exact HB.out | apply below_alloc | apply pw_below_drewN | apply below_drew1) | exact HB.out)⟩⟩
     ·rw [if_neg c8] at H
      exact absurd H (by simp)
    ·replace c7 := Bool.eq_false_iff.mpr c7
     subst c7
     have H1 : (pico_Read.j1 kj1 a0 false) = some (r1, r2) := by rw [if_neg (show ¬ (false = true) by decide)] at H; exact H
     clear H
     have H := H1
     clear H1
     have H' := Aside0.mk H
     clear H
     go_wp2
     go_meet
     case rel => exact ⟨_, (a0), (false), (by first | rfl | (simp; done) | (simp [*]; done)), (by first | rfl | (simp; done) | (simp [*]; done)), H', ⟨by have := HJ1.out; first | omega | exact Nat.le_refl _⟩, ⟨by repeat (first | (with_reducible first | exact HB.out | apply below_alloc | apply pw_below_drewN | apply below_drew1) | exact HB.out)⟩⟩
   case rest =>
    clear HC6
    try clear p2
    try clear c3
    try clear c3b0
    try clear c3b1
    try clear c4
    try clear c4b0
    try clear c4b1
    try clear p5
    try clear q5
    try clear hx5
    try clear qi5
    try clear c7
    try clear c8
    try clear c8b0
    try clear c8b1
    try clear p2
    try clear p5
    try clear q5
    obtain ⟨kq, x4_5, x5_5, rfl, rfl, HA, HJ5, HB⟩ := hcut
    cases kq with
    | zero => exact absurd HA.out (by simp [pico_Read.j1])
    | succ kj5 =>
     have H := HA.out
     clear HA
     simp only [pico_Read.j1] at H
     have HC9 := Aside0.mk H
     clear H
     go_upto_block 0 with (fail)
     go_cut [6] (fun v6 wc => ∃ (kq : Nat) (x6_8 : Int), v6 = .int .i64 x6_8 ∧ Aside0 (pico_Read.j3 kq x4_5 x5_5 x6_8 = some (r1, r2)) ∧ Aside0 (kq ≤ kj5) ∧ Aside0 (Below w.heap.size w wc))
     case first =>
      have H := HC9.out
      clear HC9
      have H' := Aside0.mk H
      clear H
      go_wp2
      go_loopg [6] kj5 (fun kq v6 w' => ∃ (x6_3 : Int), v6 = .int .i64 x6_3 ∧ Aside0 (pico_Read.l0 kq x4_5 x5_5 x6_3 = some (r1, r2)) ∧ Aside0 (kq ≤ kj5) ∧ Aside0 (Below w.heap.size w w'))
      case atStart => exact ⟨(0), (by first | rfl | (simp; done) | (simp [*]; done)), H', ⟨Nat.le_refl _⟩, ⟨by repeat (first | (with_reducible first | exact HB.out | apply below_alloc | apply pw_below_drewN | apply below_drew1) | exact HB.out)⟩⟩
      case round =>
       clear H'
       try clear p2
       try clear c3
       try clear c3b0
       try clear c3b1
       try clear c4
       try clear c4b0
       try clear c4b1
       try clear p5
       try clear q5
       try clear hx5
       try clear qi5
       try clear c7
       try clear c8
       try clear c8b0
       try clear c8b1
       try clear p2
       try clear p5
       try clear q5
       obtain ⟨x6_3, rfl, HA, HK3, HB⟩ := hrel
       cases gk with
       | zero => exact absurd HA.out (by simp [pico_Read.l0])
       | succ k3 =>
        have H := HA.out
        clear HA
        simp only [pico_Read.l0] at H
        by_cases c10 : x6_3 < (x4_5.size : Int)
        ·rw [if_pos c10] at H
         have c10b0 : decide (x6_3 < (x4_5.size : Int)) = true := decide_eq_true c10
         clear c10
         (first | rw [c10b0] | (simp only [i64_w, i32_w]; rw [c10b0]) | skip)
         by_cases c11 : 0 ≤ x6_3
         ·rw [if_pos c11] at H
          have c11b0 : decide (0 ≤ x6_3) = true := decide_eq_true c11
          clear c11
          by_cases c13 : 48 ≤ (bt x4_5 x6_3)
          ·rw [if_pos c13] at H
           have c13b0 : decide (48 ≤ (bt x4_5 x6_3)) = true := decide_eq_true c13
           clear c13
           by_cases c15 : (bt x4_5 x6_3) ≤ 57
           ·rw [if_pos c15] at H
            have c15b0 : decide ((bt x4_5 x6_3) ≤ 57) = true := decide_eq_true c15
            clear c15
            have H' := Aside0.mk H
            clear H
            have p12 : 0 ≤ (x6_3 : Int) := of_decide_eq_true (by first | (with_reducible assumption) | assumption)
            have q12 : x6_3 < (x4_5.size : Int) := of_decide_eq_true (by first | (with_reducible assumption) | assumption)
            have hx12 := bt_at x4_5 x6_3
            replace p12 := eq_true p12
            replace q12 := eq_true q12
            have p14 : 0 ≤ (x6_3 : Int) := of_decide_eq_true (by first | (with_reducible assumption) | assumption)
            have q14 : x6_3 < (x4_5.size : Int) := of_decide_eq_true (by first | (with_reducible assumption) | assumption)
            have hx14 := bt_at x4_5 x6_3
            replace p14 := eq_true p14
            replace q14 := eq_true q14
            go_wp2
            go_roundg k3
            case measure => have := HJ1.out; have := HJ5.out; have := HK3.out; omega
            case rel => exact ⟨(wrap64 (x6_3 + 1)), (by first | rfl | (simp; done) | (simp [*]; done)), H', ⟨by have := HJ1.out; have := HJ5.out; have := HK3.out; omega⟩, ⟨by repeat (first | (with_reducible first | exact HB.out | apply below_alloc | apply pw_below_drewN | apply below_drew1) | exact HB.out)⟩⟩
           ·rw [if_neg c15] at H
            have c15b0 : decide ((bt x4_5 x6_3) ≤ 57) = false := decide_eq_false c15
            clear c15
            have H' := Aside0.mk H
            clear H
            have p12 : 0 ≤ (x6_3 : Int) := of_decide_eq_true (by first | (with_reducible assumption) | assumption)
            have q12 : x6_3 < (x4_5.size : Int) := of_decide_eq_true (by first | (with_reducible assumption) | assumption)
            have hx12 := bt_at x4_5 x6_3
            replace p12 := eq_true p12
            replace q12 := eq_true q12
            have p14 : 0 ≤ (x6_3 : Int) := of_decide_eq_true (by first | (with_reducible assumption) | assumption)
            have q14 : x6_3 < (x4_5.size : Int) := of_decide_eq_true (by first | (with_reducible assumption) | assumption)
            have hx14 := bt_at x4_5 x6_3
            replace p14 := eq_true p14
            replace q14 := eq_true q14
            go_wp2
            go_meet
            case rel => exact ⟨_, (x6_3), (by first | rfl | (simp; done) | (simp [*]; done)), H', ⟨by have := HJ1.out; have := HJ5.out; have := HK3.out; first | omega | exact Nat.le_refl _⟩, ⟨by repeat (first | (with_reducible first | exact HB.out | apply below_alloc | apply pw_below_drewN | apply below_drew1) | exact HB.out)⟩⟩
          ·rw [if_neg c13] at H
           have c13b0 : decide (48 ≤ (bt x4_5 x6_3)) = false := decide_eq_false c13
           clear c13
           have H' := Aside0.mk H
           clear H
           have p12 : 0 ≤ (x6_3 : Int) := of_decide_eq_true (by first | (with_reducible assumption) | assumption)
           have q12 : x6_3 < (x4_5.size : Int) := of_decide_eq_true (by first | (with_reducible assumption) | assumption)
           have hx12 := bt_at x4_5 x6_3
           replace p12 := eq_true p12
           replace q12 := eq_true q12
           go_wp2
           go_meet
           case rel => exact ⟨_, (x6_3), (by first | rfl | (simp; done) | (simp [*]; done)), H', ⟨by have := HJ1.out; have := HJ5.out; have := HK3.out; first | omega | exact Nat.le_refl _⟩, ⟨by repeat (first | (with_reducible first | exact HB.out | apply below_alloc | apply pw_below_drewN | apply below_drew1) | exact HB.out)⟩⟩
         ·rw [if_neg c11] at H
          exact absurd H (by simp)
        ·rw [if_neg c10] at H
         have c10b0 : decide (x6_3 < (x4_5.size : Int)) = false := decide_eq_false c10
         clear c10
         (first | rw [c10b0] | (simp only [i64_w, i32_w]; rw [c10b0]) | skip)
         have H' := Aside0.mk H
         clear H
         go_wp2
         go_meet
         case rel => exact ⟨_, (x6_3), (by first | rfl | (simp; done) | (simp [*]; done)), H', ⟨by have := HJ1.out; have := HJ5.out; have := HK3.out; first | omega | exact Nat.le_refl _⟩, ⟨by repeat (first | (with_reducible first | exact HB.out | apply below_alloc | apply pw_below_drewN | apply below_drew1) | exact HB.out)⟩⟩
     case rest =>
      clear HC9
      try clear c1
      try clear p1
      try clear q1
      try clear hx1
      try clear p2
      try clear c3
      try clear c3b0
      try clear c3b1
      try clear c4
      try clear c4b0
      try clear c4b1
      try clear p5
      try clear q5
      try clear hx5
      try clear qi5
      try clear p6
      try clear c7
      try clear c8
      try clear c8b0
      try clear c8b1
      try clear c10
      try clear c10b0
      try clear c11
      try clear c11b0
      try clear p12
      try clear q12
      try clear hx12
      try clear c13
      try clear c13b0
      try clear p14
      try clear q14
      try clear hx14
      try clear c15
      try clear c15b0
      try clear p12
      try clear p14
      try clear p2
      try clear p5
      try clear q12
      try clear q14
      try clear q5
      obtain ⟨kq, x6_8, rfl, HA, HJ8, HB⟩ := hcut
      cases kq with
      | zero => exact absurd HA.out (by simp [pico_Read.j3])
      | succ kj8 =>
       have H := HA.out
       clear HA
       simp only [pico_Read.j3] at H
       by_cases c16 : 0 ≤ x6_8
       ·rw [if_pos c16] at H
        have c16b0 := eq_true c16
        have c16b1 : decide (0 ≤ x6_8) = true := decide_eq_true c16
        clear c16
        by_cases c17 : x6_8 ≤ (x4_5.size : Int)
        ·rw [if_pos c17] at H
         have c17b0 := eq_true c17
         have c17b1 : decide (x6_8 ≤ (x4_5.size : Int)) = true := decide_eq_true c17
         clear c17
         replace H := Option.bind_eq_some_iff.mp H
         obtain ⟨⟨t288, t289⟩, A180, H⟩ := H
         replace H : (if x6_8 = 0 then (pico_Read.j4 kj8 x4_5 x5_5 x6_8 t288 true) else (pico_Read.j4 kj8 x4_5 x5_5 x6_8 t288 (!t289))) = some (r1, r2) := H
         have A18 := Aside0.mk A180
         clear A180
         have HC19 := Aside0.mk H
         clear H
         go_upto_region 8 with (first | ((with_reducible refine gate_callee (f := 31) rfl ?_); refine goesL_ (some 46) rfl rfl Try.func31 (by kernel_rfl) rfl #[.string (x4_5.extract (x6_8 : Int).toNat x4_5.size)] rfl (by (try simp only [List.map_toArray, List.map_cons, List.map_nil]); first | done | rfl | (simp only [List.length_drop, List.length_take]; rfl)) ?_; (with_reducible refine (pico_Unit.calls (x4_5.extract (x6_8 : Int).toNat x4_5.size) t288 t289 _ A18.out).mono ?_); rintro e w20 ⟨rfl, hb⟩; refine ⟨_, rfl, ?_⟩; have n0_ := Aside0.mk (below_step (by repeat (first | (with_reducible first | exact HB.out | apply below_alloc | apply pw_below_drewN | apply below_drew1) | exact HB.out)) hb); clear HB; have HB := n0_; clear n0_; (try clear hb); (try clear hb2); (try clear hk); (try clear hi)))
         (try simp only [Act.put, List.setIfInBounds_toArray, List.set_cons_zero, List.set_cons_succ])
         go_cut [54] (fun v54 wc => ∃ (kq : Nat) (x54_18 : Bool), v54 = .bool x54_18 ∧ Aside0 (pico_Read.j4 kq x4_5 x5_5 x6_8 t288 x54_18 = some (r1, r2)) ∧ Aside0 (kq ≤ kj8) ∧ Aside0 (Below w.heap.size w wc))
         case first =>
          have H := HC19.out
          clear HC19
          by_cases c21 : x6_8 = 0
          ·rw [if_pos c21] at H
           have c21b0 : (x6_8 == 0) = true := beq_iff_eq.mpr c21
           have c21b1 : (x6_8 != 0) = false := bne_eq_false_iff_eq.mpr c21
           clear c21
           (first | rw [c21b0] | (simp only [i64_w, i32_w]; rw [c21b0]) | skip)
           have H' := Aside0.mk H
           clear H
           go_wp2
           go_meet
           case rel => exact ⟨_, (true), (by first | rfl | (simp; done) | (simp [*]; done)), H', ⟨by have := HJ1.out; have := HJ5.out; have := HJ8.out; first | omega | exact Nat.le_refl _⟩, ⟨by repeat (first | (with_reducible first | exact HB.out | apply below_alloc | apply pw_below_drewN | apply below_drew1) | exact HB.out)⟩⟩
          ·rw [if_neg c21] at H
           have c21b0 : (x6_8 == 0) = false := beq_eq_false_iff_ne.mpr c21
           have c21b1 : (x6_8 != 0) = true := bne_iff_ne.mpr c21
           (first | rw [c21b0] | (simp only [i64_w, i32_w]; rw [c21b0]) | skip)
           have H' := Aside0.mk H
           clear H
           go_wp2
           go_meet
           case rel => exact ⟨_, (!t289), (by first | rfl | (simp; done) | (simp [*]; done)), H', ⟨by have := HJ1.out; have := HJ5.out; have := HJ8.out; first | omega | exact Nat.le_refl _⟩, ⟨by repeat (first | (with_reducible first | exact HB.out | apply below_alloc | apply pw_below_drewN | apply below_drew1) | exact HB.out)⟩⟩
         case rest =>
          clear HC19
          try clear c1
          try clear p1
          try clear q1
          try clear hx1
          try clear c2
          try clear p2
          try clear c3
          try clear c3b0
          try clear c3b1
          try clear c4
          try clear c4b0
          try clear c4b1
          try clear p5
          try clear q5
          try clear hx5
          try clear qi5
          try clear p6
          try clear c7
          try clear c8
          try clear c8b0
          try clear c8b1
          try clear c10
          try clear c10b0
          try clear c11
          try clear c11b0
          try clear p12
          try clear q12
          try clear hx12
          try clear c13
          try clear c13b0
          try clear p14
          try clear q14
          try clear hx14
          try clear c15
          try clear c15b0
          try clear c16
          try clear c16b0
          try clear c16b1
          try clear c17
          try clear c17b0
          try clear c17b1
          try clear c21
          try clear c21b0
          try clear c21b1
          try clear p1
          try clear p12
          try clear p14
          try clear p2
          try clear p5
          try clear p6
          try clear q1
          try clear q12
          try clear q14
          try clear q5
          obtain ⟨kq, x54_18, rfl, HA, HJ18, HB⟩ := hcut
          cases kq with
          | zero => exact absurd HA.out (by simp [pico_Read.j4])
          | succ kj18 =>
           have H := HA.out
           clear HA
           simp only [pico_Read.j4] at H
           by_cases c22 : x54_18 = true
           ·subst c22
            have H1 : (some (0, 4)) = some (r1, r2) := by rw [if_pos rfl] at H; exact H
            clear H
            have H := H1
            clear H1
            simp only [Option.some.injEq, Prod.mk.injEq] at H
            obtain ⟨rfl, rfl⟩ := H
            go_wp2
            go_ret2
            exact ⟨by first | rfl | (simp [errW_none, errW_some] <;> rfl) | (simp [*, errW_none, errW_some] <;> rfl), by repeat (first | (with_reducible first | exact HB.out | apply below_alloc | apply pw_below_drewN | apply below_drew1) | exact HB.out)⟩
           ·replace c22 := Bool.eq_false_iff.mpr c22
            subst c22
            have H1 : (pico_Read.l1 kj18 x4_5 x5_5 t288 0 x6_8 0) = some (r1, r2) := by rw [if_neg (show ¬ (false = true) by decide)] at H; exact H
            clear H
            have H := H1
            clear H1
            have H' := Aside0.mk H
            clear H
            go_wp2
            go_loopg [9, 56] kj18 (fun kq v9 v56 w' => ∃ (x9_5 : Int) (x56_5 : Int), v9 = .int .i64 x9_5 ∧ v56 = .int .i64 x56_5 ∧ Aside0 (pico_Read.l1 kq x4_5 x5_5 t288 x9_5 x6_8 x56_5 = some (r1, r2)) ∧ Aside0 (kq ≤ kj18) ∧ Aside0 (Below w.heap.size w w'))
            case atStart => exact ⟨(0), (0), (by first | rfl | (simp; done) | (simp [*]; done)), (by first | rfl | (simp; done) | (simp [*]; done)), H', ⟨Nat.le_refl _⟩, ⟨by repeat (first | (with_reducible first | exact HB.out | apply below_alloc | apply pw_below_drewN | apply below_drew1) | exact HB.out)⟩⟩
            case round =>
             clear H'
             try clear c1
             try clear p1
             try clear q1
             try clear hx1
             try clear c2
             try clear p2
             try clear c3
             try clear c3b0
             try clear c3b1
             try clear c4
             try clear c4b0
             try clear c4b1
             try clear p5
             try clear q5
             try clear hx5
             try clear qi5
             try clear p6
             try clear c7
             try clear c8
             try clear c8b0
             try clear c8b1
             try clear c10
             try clear c10b0
             try clear c11
             try clear c11b0
             try clear p12
             try clear q12
             try clear hx12
             try clear c13
             try clear c13b0
             try clear p14
             try clear q14
             try clear hx14
             try clear c15
             try clear c15b0
             try clear c16
             try clear c16b0
             try clear c16b1
             try clear c17
             try clear c17b0
             try clear c17b1
             try clear c21
             try clear c21b0
             try clear c21b1
             try clear c22
             try clear p1
             try clear p12
             try clear p14
             try clear p2
             try clear p5
             try clear p6
             try clear q1
             try clear q12
             try clear q14
             try clear q5
             obtain ⟨x9_5, x56_5, rfl, rfl, HA, HK5, HB⟩ := hrel
             cases gk with
             | zero => exact absurd HA.out (by simp [pico_Read.l1])
             | succ k5 =>
              have H := HA.out
              clear HA
              simp only [pico_Read.l1] at H
              by_cases c23 : x56_5 < x6_8
              ·rw [if_pos c23] at H
               have c23b0 : decide (x56_5 < x6_8) = true := decide_eq_true c23
               clear c23
               by_cases c24 : x9_5 > 115292150460684697
               ·rw [if_pos c24] at H
                have c24b0 : decide (115292150460684697 < x9_5) = true := decide_eq_true c24
                clear c24
                simp only [Option.some.injEq, Prod.mk.injEq] at H
                obtain ⟨rfl, rfl⟩ := H
                go_wp2
                go_ret2
                exact ⟨by first | rfl | (simp [errW_none, errW_some] <;> rfl) | (simp [*, errW_none, errW_some] <;> rfl), by repeat (first | (with_reducible first | exact HB.out | apply below_alloc | apply pw_below_drewN | apply below_drew1) | exact HB.out)⟩
               ·rw [if_neg c24] at H
                have c24b0 : decide (115292150460684697 < x9_5) = false := decide_eq_false c24
                clear c24
                by_cases c25 : 0 ≤ x56_5
                ·rw [if_pos c25] at H
                 have c25b0 : decide (0 ≤ x56_5) = true := decide_eq_true c25
                 clear c25
                 by_cases c26 : x56_5 < (x4_5.size : Int)
                 ·rw [if_pos c26] at H
                  have c26b0 : decide (x56_5 < (x4_5.size : Int)) = true := decide_eq_true c26
                  clear c26
                  by_cases c28 : (wrap64 ((wrap64 (10 * x9_5)) + (((bt x4_5 x56_5) - 48) % 256))) > 1152921504606846976
                  ·rw [if_pos c28] at H
                   have c28b0 : decide (1152921504606846976 < (wrap64 ((wrap64 (10 * x9_5)) + (((bt x4_5 x56_5) - 48) % 256)))) = true := decide_eq_true c28
                   clear c28
                   simp only [Option.some.injEq, Prod.mk.injEq] at H
                   obtain ⟨rfl, rfl⟩ := H
                   have p27 : 0 ≤ (x56_5 : Int) := of_decide_eq_true (by first | (with_reducible assumption) | assumption)
                   have q27 : x56_5 < (x4_5.size : Int) := of_decide_eq_true (by first | (with_reducible assumption) | assumption)
                   have hx27 := bt_at x4_5 x56_5
                   replace p27 := eq_true p27
                   replace q27 := eq_true q27
                   go_wp2
                   go_ret2
                   exact ⟨by first | rfl | (simp [errW_none, errW_some] <;> rfl) | (simp [*, errW_none, errW_some] <;> rfl), by repeat (first | (with_reducible first | exact HB.out | apply below_alloc | apply pw_below_drewN | apply below_drew1) | exact HB.out)⟩
                  ·rw [if_neg c28] at H
                   have c28b0 : decide (1152921504606846976 < (wrap64 ((wrap64 (10 * x9_5)) + (((bt x4_5 x56_5) - 48) % 256)))) = false := decide_eq_false c28
                   clear c28
                   have H' := Aside0.mk H
                   clear H
                   have p27 : 0 ≤ (x56_5 : Int) := of_decide_eq_true (by first | (with_reducible assumption) | assumption)
                   have q27 : x56_5 < (x4_5.size : Int) := of_decide_eq_true (by first | (with_reducible assumption) | assumption)
                   have hx27 := bt_at x4_5 x56_5
                   replace p27 := eq_true p27
                   replace q27 := eq_true q27
                   go_wp2
                   go_roundg k5
                   case measure => have := HJ1.out; have := HJ5.out; have := HJ8.out; have := HJ18.out; have := HK5.out; omega
                   case rel => exact ⟨(wrap64 ((wrap64 (10 * x9_5)) + (((bt x4_5 x56_5) - 48) % 256))), (wrap64 (x56_5 + 1)), (by first | rfl | (simp; done) | (simp [*]; done)), (by first | rfl | (simp; done) | (simp [*]; done)), H', ⟨by have := HJ1.out; have := HJ5.out; have := HJ8.out; have := HJ18.out; have := HK5.out; omega⟩, ⟨by repeat (first | (with_reducible first | exact HB.out | apply below_alloc | apply pw_below_drewN | apply below_drew1) | exact HB.out)⟩⟩
                 ·rw [if_neg c26] at H
                  exact absurd H (by simp)
                ·rw [if_neg c25] at H
                 exact absurd H (by simp)
              ·rw [if_neg c23] at H
               have c23b0 : decide (x56_5 < x6_8) = false := decide_eq_false c23
               clear c23
               by_cases c29 : x5_5 = true
               ·subst c29
                have H1 : ((pico_Mul.f k5 (wrap64 (-x9_5)) t288).bind fun bt290 => (if bt290.2 = 0 then (some (bt290.1, 0)) else (some (0, 2)))) = some (r1, r2) := by rw [if_pos rfl] at H; exact H
                clear H
                have H := H1
                clear H1
                replace H := Option.bind_eq_some_iff.mp H
                obtain ⟨⟨t290, t291⟩, A300, H⟩ := H
                replace H : (if t291 = 0 then (some (t290, 0)) else (some (0, 2))) = some (r1, r2) := H
                have A30 := Aside0.mk A300
                clear A300
                by_cases c31 : t291 = 0
                ·rw [if_pos c31] at H
                 have c31b0 : (t291 == 0) = true := beq_iff_eq.mpr c31
                 have c31b1 : (t291 != 0) = false := bne_eq_false_iff_eq.mpr c31
                 clear c31
                 simp only [Option.some.injEq, Prod.mk.injEq] at H
                 obtain ⟨rfl, rfl⟩ := H
                 go_wp2_with (first | ((with_reducible refine gate_callee (f := 26) rfl ?_); refine goesL_ (some 78) rfl rfl Try.func26 (by kernel_rfl) rfl #[.int .i64 (wrap64 (-x9_5)), .int .i64 t288] rfl (by (try simp only [List.map_toArray, List.map_cons, List.map_nil]); first | done | rfl | (simp only [List.length_drop, List.length_take]; rfl)) ?_; (with_reducible refine (pico_Mul.calls k5 (wrap64 (-x9_5)) t288 t290 t291 _ A30.out).mono ?_); rintro e w32 ⟨rfl, hb⟩; refine ⟨_, rfl, ?_⟩; have n0_ := Aside0.mk (below_step (by repeat (first | (with_reducible first | exact HB.out | apply below_alloc | apply pw_below_drewN | apply below_drew1) | exact HB.out)) hb); clear HB; have HB := n0_; clear n0_; (try clear hb); (try clear hb2); (try clear hk); (try clear hi)))
                 go_ret2
                 exact ⟨by first | rfl | (simp [errW_none, errW_some] <;> rfl) | (simp [*, errW_none, errW_some] <;> rfl), by repeat (first | (with_reducible first | exact HB.out | apply below_alloc | apply pw_below_drewN | apply below_drew1) | exact HB.out)⟩
                ·rw [if_neg c31] at H
                 have c31b0 : (t291 == 0) = false := beq_eq_false_iff_ne.mpr c31
                 have c31b1 : (t291 != 0) = true := bne_iff_ne.mpr c31
                 simp only [Option.some.injEq, Prod.mk.injEq] at H
                 obtain ⟨rfl, rfl⟩ := H
                 go_wp2_with (first | ((with_reducible refine gate_callee (f := 26) rfl ?_); refine goesL_ (some 78) rfl rfl Try.func26 (by kernel_rfl) rfl #[.int .i64 (wrap64 (-x9_5)), .int .i64 t288] rfl (by (try simp only [List.map_toArray, List.map_cons, List.map_nil]); first | done | rfl | (simp only [List.length_drop, List.length_take]; rfl)) ?_; (with_reducible refine (pico_Mul.calls k5 (wrap64 (-x9_5)) t288 t290 t291 _ A30.out).mono ?_); rintro e w33 ⟨rfl, hb⟩; refine ⟨_, rfl, ?_⟩; have n0_ := Aside0.mk (below_step (by repeat (first | (with_reducible first | exact HB.out | apply below_alloc | apply pw_below_drewN | apply below_drew1) | exact HB.out)) hb); clear HB; have HB := n0_; clear n0_; (try clear hb); (try clear hb2); (try clear hk); (try clear hi)))
                 go_ret2
                 exact ⟨by first | rfl | (simp [errW_none, errW_some] <;> rfl) | (simp [*, errW_none, errW_some] <;> rfl), by repeat (first | (with_reducible first | exact HB.out | apply below_alloc | apply pw_below_drewN | apply below_drew1) | exact HB.out)⟩
               ·replace c29 := Bool.eq_false_iff.mpr c29
                subst c29
                have H1 : ((pico_Mul.f k5 x9_5 t288).bind fun bt292 => (if bt292.2 = 0 then (some (bt292.1, 0)) else (some (0, 2)))) = some (r1, r2) := by rw [if_neg (show ¬ (false = true) by decide)] at H; exact H
                clear H
                have H := H1
                clear H1
                replace H := Option.bind_eq_some_iff.mp H
                obtain ⟨⟨t292, t293⟩, A340, H⟩ := H
                replace H : (if t293 = 0 then (some (t292, 0)) else (some (0, 2))) = some (r1, r2) := H
                have A34 := Aside0.mk A340
                clear A340
                by_cases c35 : t293 = 0
                ·rw [if_pos c35] at H
                 have c35b0 : (t293 == 0) = true := beq_iff_eq.mpr c35
                 have c35b1 : (t293 != 0) = false := bne_eq_false_iff_eq.mpr c35
                 clear c35
                 simp only [Option.some.injEq, Prod.mk.injEq] at H
                 obtain ⟨rfl, rfl⟩ := H
                 go_wp2_with (first | ((with_reducible refine gate_callee (f := 26) rfl ?_); refine goesL_ (some 78) rfl rfl Try.func26 (by kernel_rfl) rfl #[.int .i64 x9_5, .int .i64 t288] rfl (by (try simp only [List.map_toArray, List.map_cons, List.map_nil]); first | done | rfl | (simp only [List.length_drop, List.length_take]; rfl)) ?_; (with_reducible refine (pico_Mul.calls k5 x9_5 t288 t292 t293 _ A34.out).mono ?_); rintro e w36 ⟨rfl, hb⟩; refine ⟨_, rfl, ?_⟩; have n0_ := Aside0.mk (below_step (by repeat (first | (with_reducible first | exact HB.out | apply below_alloc | apply pw_below_drewN | apply below_drew1) | exact HB.out)) hb); clear HB; have HB := n0_; clear n0_; (try clear hb); (try clear hb2); (try clear hk); (try clear hi)))
                 go_ret2
                 exact ⟨by first | rfl | (simp [errW_none, errW_some] <;> rfl) | (simp [*, errW_none, errW_some] <;> rfl), by repeat (first | (with_reducible first | exact HB.out | apply below_alloc | apply pw_below_drewN | apply below_drew1) | exact HB.out)⟩
                ·rw [if_neg c35] at H
                 have c35b0 : (t293 == 0) = false := beq_eq_false_iff_ne.mpr c35
                 have c35b1 : (t293 != 0) = true := bne_iff_ne.mpr c35
                 simp only [Option.some.injEq, Prod.mk.injEq] at H
                 obtain ⟨rfl, rfl⟩ := H
                 go_wp2_with (first | ((with_reducible refine gate_callee (f := 26) rfl ?_); refine goesL_ (some 78) rfl rfl Try.func26 (by kernel_rfl) rfl #[.int .i64 x9_5, .int .i64 t288] rfl (by (try simp only [List.map_toArray, List.map_cons, List.map_nil]); first | done | rfl | (simp only [List.length_drop, List.length_take]; rfl)) ?_; (with_reducible refine (pico_Mul.calls k5 x9_5 t288 t292 t293 _ A34.out).mono ?_); rintro e w37 ⟨rfl, hb⟩; refine ⟨_, rfl, ?_⟩; have n0_ := Aside0.mk (below_step (by repeat (first | (with_reducible first | exact HB.out | apply below_alloc | apply pw_below_drewN | apply below_drew1) | exact HB.out)) hb); clear HB; have HB := n0_; clear n0_; (try clear hb); (try clear hb2); (try clear hk); (try clear hi)))
                 go_ret2
                 exact ⟨by first | rfl | (simp [errW_none, errW_some] <;> rfl) | (simp [*, errW_none, errW_some] <;> rfl), by repeat (first | (with_reducible first | exact HB.out | apply below_alloc | apply pw_below_drewN | apply below_drew1) | exact HB.out)⟩
        ·rw [if_neg c17] at H
         exact absurd H (by simp)
       ·rw [if_neg c16] at H
        exact absurd H (by simp)

end Go.Proofs.Ytmkjljekofondaa.Print
