-- PRINTED by print.py (a twelfth state) out of the translation. Not trusted: Lean checks it.
import Derived.Test.YtogdelhofdelgaaPrint0
import Derived.Test.YtogdelhofdelgaaPrint3
namespace Go.Proofs.Ytogdelhofdelgaa.Print
open Go.RowKit Go.Proofs.YtogdelhofdelgaaW.PrintWords Go.Proofs.YtogdelhofdelgaaW.PrintLast Go.Proofs.YtogdelhofdelgaaW.PrintMore Go.Proofs.YtogdelhofdelgaaX
attribute [local go_sem] str_lss str_geq max2_int min2_int max_two min_two max_three min_three max_four min_four   -- for this text's walks alone
set_option linter.unusedVariables false
set_option linter.unusedSimpArgs false

/-! ### wire_TakeFixed: function 35 -/
mutual
def wire_TakeFixed.j0 : Nat → List Int → Int → Int → Int → Bool → Option (Int × Int × Int)
 | 0, _, _, _, _, _ => none
 | k + 1, x0, x1, x2, x6, x11 => if x11 = true then (some (0, 0, 1)) else (if x1 > (wrap64 ((x0.length : Int) - x2)) then (some (0, 0, 3)) else (if 0 ≤ x1 then (if x1 ≤ (wrap64 (x1 + x2)) then (if (wrap64 (x1 + x2)) ≤ (x0.length : Int) then (wire_TakeFixed.l0 k x1 x2 x6 ((x0.take ((wrap64 (x1 + x2)) : Int).toNat).drop (x1 : Int).toNat) (((x0.take ((wrap64 (x1 + x2)) : Int).toNat).drop (x1 : Int).toNat).length : Int) 0) else (none)) else (none)) else (none)))
def wire_TakeFixed.l0 : Nat → Int → Int → Int → List Int → Int → Int → Option (Int × Int × Int)
 | 0, _, _, _, _, _, _ => none
 | k + 1, x1, x2, x6, x31, x32, x33 => if x33 < x32 then (if 0 ≤ x33 then (if x33 < (x31.length : Int) then (wire_TakeFixed.l0 k x1 x2 (IntKind.u64.wrap ((IntKind.u64.wrap (x6 * 256)) + (IntKind.u64.wrap (rd x31 x33)))) x31 x32 (wrap64 (x33 + 1))) else (none)) else (none)) else (some (x6, wrap64 (x1 + x2), 0))
end
def wire_TakeFixed.f (k : Nat) (l0 : List Int) (a1 : Int) (a2 : Int) : Option (Int × Int × Int) := if a1 < 0 then (wire_TakeFixed.j0 k l0 a1 a2 0 true) else ((wire_wide.f a2).bind fun t296 => (wire_TakeFixed.j0 k l0 a1 a2 0 (!t296)))
theorem wire_TakeFixed.mono_l : ∀ k, (∀ y0 y1 y2 y3 y4, LeO (wire_TakeFixed.j0 k y0 y1 y2 y3 y4) (wire_TakeFixed.j0 (k + 1) y0 y1 y2 y3 y4)) ∧ (∀ y0 y1 y2 y3 y4 y5, LeO (wire_TakeFixed.l0 k y0 y1 y2 y3 y4 y5) (wire_TakeFixed.l0 (k + 1) y0 y1 y2 y3 y4 y5))
 | 0 => ⟨fun _ _ _ _ _ r h => by simp [wire_TakeFixed.j0] at h, fun _ _ _ _ _ _ r h => by simp [wire_TakeFixed.l0] at h⟩
 | k + 1 => by
  obtain ⟨ih0, ih1⟩ := wire_TakeFixed.mono_l k
  refine ⟨?_, ?_⟩
  ·intro y0 y1 y2 y3 y4
   unfold wire_TakeFixed.j0
   repeat' first
   | (with_reducible exact ih0 _ _ _ _ _)
   | (with_reducible exact ih1 _ _ _ _ _ _)
   | (with_reducible exact LeO.refl _)
   | (with_reducible exact LeO.none _)
   | (with_reducible refine LeO.ite ?_ ?_)
   | (with_reducible refine LeO.bind ?_ (fun _ => ?_))
   | exact ih0 _ _ _ _ _
   | exact ih1 _ _ _ _ _ _
   | exact LeO.none _
   | refine LeO.ite ?_ ?_
   | refine LeO.bind ?_ (fun _ => ?_)
  ·intro y0 y1 y2 y3 y4 y5
   unfold wire_TakeFixed.l0
   repeat' first
   | (with_reducible exact ih0 _ _ _ _ _)
   | (with_reducible exact ih1 _ _ _ _ _ _)
   | (with_reducible exact LeO.refl _)
   | (with_reducible exact LeO.none _)
   | (with_reducible refine LeO.ite ?_ ?_)
   | (with_reducible refine LeO.bind ?_ (fun _ => ?_))
   | exact ih0 _ _ _ _ _
   | exact ih1 _ _ _ _ _ _
   | exact LeO.none _
   | refine LeO.ite ?_ ?_
   | refine LeO.bind ?_ (fun _ => ?_)
theorem wire_TakeFixed.mono : ∀ a0 a1 a2 k, LeO (wire_TakeFixed.f k a0 a1 a2) (wire_TakeFixed.f (k + 1) a0 a1 a2) := by
 intro a0 a1 a2 k
 obtain ⟨ih0, ih1⟩ := wire_TakeFixed.mono_l k
 unfold wire_TakeFixed.f
 repeat' first
   | (with_reducible exact ih0 _ _ _ _ _)
   | (with_reducible exact ih1 _ _ _ _ _ _)
   | (with_reducible exact LeO.refl _)
   | (with_reducible exact LeO.none _)
   | (with_reducible refine LeO.ite ?_ ?_)
   | (with_reducible refine LeO.bind ?_ (fun _ => ?_))
   | exact ih0 _ _ _ _ _
   | exact ih1 _ _ _ _ _ _
   | exact LeO.none _
   | refine LeO.ite ?_ ?_
   | refine LeO.bind ?_ (fun _ => ?_)
set_option maxHeartbeats 8000000 in
set_option maxRecDepth 100000 in
theorem wire_TakeFixed.calls (k : Nat) (A0 : Option Addr) (c0 : Nat) (l0 : List Int) (a1 : Int) (a2 : Int) (r1 : Int) (r2 : Int) (r3 : Int) (w : World) (hr0 : Kd.C (Kd.int .u8) w A0 l0.length l0) (hc0 : l0.length ≤ c0) (h : wire_TakeFixed.f k l0 a1 a2 = some (r1, r2, r3)) :
  Calls Try.prog 35 #[.slice A0 l0.length c0, .int .i64 a1, .int .i64 a2] w fun e w' => e = .returned (.tuple #[.int .u64 r1, .int .i64 r2, .int .i64 r3]) ∧ Drawn0 w w' := by
 have HR0 := Aside0.mk hr0
 have HC0 := Aside0.mk hc0
 clear hr0 hc0
 have H : (if a1 < 0 then (wire_TakeFixed.j0 k l0 a1 a2 0 true) else ((wire_wide.f a2).bind fun t296 => (wire_TakeFixed.j0 k l0 a1 a2 0 (!t296)))) = some (r1, r2, r3) := h
 clear h
 have HC4 := Aside0.mk H
 clear H
 go_enter Try.func35, Try.ntmps35
 go_upto_region 1 with (fail)
 go_cut [11] (fun v11 wc => ∃ (kq : Nat) (x11_3 : Bool), v11 = .bool x11_3 ∧ Aside0 (wire_TakeFixed.j0 kq l0 a1 a2 0 x11_3 = some (r1, r2, r3)) ∧ Aside0 (kq ≤ k) ∧ Drawn0 w wc)
 case first =>
  have H := HC4.out
  clear HC4
  by_cases c5 : a1 < 0
  ·rw [if_pos c5] at H
   have c5b0 : decide (a1 < 0) = true := decide_eq_true c5
   clear c5
   (first | rw [c5b0] | (simp only [i64_w, i32_w]; rw [c5b0]) | skip)
   have H' := Aside0.mk H
   clear H
   go_wp2
   go_meet
   case rel => exact ⟨_, (true), (by first | rfl | (simp; done) | (simp [*]; done)), H', ⟨by first | omega | exact Nat.le_refl _⟩, by repeat (first | exact Drawn0.refl _ | apply Drawn0.step)⟩
  ·rw [if_neg c5] at H
   have c5b0 : decide (a1 < 0) = false := decide_eq_false c5
   clear c5
   (first | rw [c5b0] | (simp only [i64_w, i32_w]; rw [c5b0]) | skip)
   replace H := Option.bind_eq_some_iff.mp H
   obtain ⟨t296, A60, H⟩ := H
   replace H : (wire_TakeFixed.j0 k l0 a1 a2 0 (!t296)) = some (r1, r2, r3) := H
   have A6 := Aside0.mk A60
   clear A60
   have H' := Aside0.mk H
   clear H
   go_wp2_with (first | (go_at_call 42; (with_reducible refine (wire_wide.calls a2 t296 _ A6.out).mono ?_); rintro e w' ⟨rfl, ⟨nd, rfl⟩⟩))
   go_meet
   case rel => exact ⟨_, (!t296), (by first | rfl | (simp; done) | (simp [*]; done)), H', ⟨by first | omega | exact Nat.le_refl _⟩, by repeat (first | exact Drawn0.refl _ | apply Drawn0.step)⟩
 case rest =>
  clear HC4
  try clear p2
  try clear c3
  try clear c5
  try clear c5b0
  obtain ⟨kq, x11_3, rfl, HA, HJ3, ⟨mc3, rfl⟩⟩ := hcut
  cases kq with
  | zero => exact absurd HA.out (by simp [wire_TakeFixed.j0])
  | succ kj3 =>
   have H := HA.out
   clear HA
   simp only [wire_TakeFixed.j0] at H
   by_cases c7 : x11_3 = true
   ·subst c7
    have H1 : (some (0, 0, 1)) = some (r1, r2, r3) := by rw [if_pos rfl] at H; exact H
    clear H
    have H := H1
    clear H1
    simp only [Option.some.injEq, Prod.mk.injEq] at H
    obtain ⟨rfl, rfl, rfl⟩ := H
    go_wp2
    go_ret3
    exact ⟨by first | rfl | (simp; done) | (simp [*]; done), by repeat (first | exact Drawn0.refl _ | apply Drawn0.step)⟩
   ·replace c7 := Bool.eq_false_iff.mpr c7
    subst c7
    have H1 : (if a1 > (wrap64 ((l0.length : Int) - a2)) then (some (0, 0, 3)) else (if 0 ≤ a1 then (if a1 ≤ (wrap64 (a1 + a2)) then (if (wrap64 (a1 + a2)) ≤ (l0.length : Int) then (wire_TakeFixed.l0 kj3 a1 a2 0 ((l0.take ((wrap64 (a1 + a2)) : Int).toNat).drop (a1 : Int).toNat) (((l0.take ((wrap64 (a1 + a2)) : Int).toNat).drop (a1 : Int).toNat).length : Int) 0) else (none)) else (none)) else (none))) = some (r1, r2, r3) := by rw [if_neg (show ¬ (false = true) by decide)] at H; exact H
    clear H
    have H := H1
    clear H1
    by_cases c8 : a1 > (wrap64 ((l0.length : Int) - a2))
    ·rw [if_pos c8] at H
     have c8b0 : decide ((wrap64 ((l0.length : Int) - a2)) < a1) = true := decide_eq_true c8
     clear c8
     simp only [Option.some.injEq, Prod.mk.injEq] at H
     obtain ⟨rfl, rfl, rfl⟩ := H
     go_wp2
     go_ret3
     exact ⟨by first | rfl | (simp; done) | (simp [*]; done), by repeat (first | exact Drawn0.refl _ | apply Drawn0.step)⟩
    ·rw [if_neg c8] at H
     have c8b0 : decide ((wrap64 ((l0.length : Int) - a2)) < a1) = false := decide_eq_false c8
     clear c8
     by_cases c9 : 0 ≤ a1
     ·rw [if_pos c9] at H
      have c9b0 := eq_true c9
      have c9b1 : decide (0 ≤ a1) = true := decide_eq_true c9
      clear c9
      by_cases c10 : a1 ≤ (wrap64 (a1 + a2))
      ·rw [if_pos c10] at H
       have c10b0 := eq_true c10
       have c10b1 : decide (a1 ≤ (wrap64 (a1 + a2))) = true := decide_eq_true c10
       by_cases c11 : (wrap64 (a1 + a2)) ≤ (l0.length : Int)
       ·rw [if_pos c11] at H
        have c11b0 := eq_true c11
        have c11b1 : decide ((wrap64 (a1 + a2)) ≤ (l0.length : Int)) = true := decide_eq_true c11
        have H' := Aside0.mk H
        clear H
        obtain ⟨i012, hi012, _, hsz12, _⟩ := info_parts info5
        obtain ⟨A12, hcut12, hA12, hC12⟩ := print_mid_of (P := Try.prog) (Value.int .u8) 0 27 5 .i64 .i64 Try.underlying27 hi012 hsz12 A0 c0 l0 a1 (wrap64 (a1 + a2)) (of_decide_eq_true (by first | (with_reducible assumption) | assumption)) (by first | omega | exact of_decide_eq_true (by first | (with_reducible assumption) | assumption)) (of_decide_eq_true (by first | (with_reducible assumption) | assumption)) HC0.out
        (try have KZ1 := Aside0.mk (of_decide_eq_true (by assumption : decide ((wrap64 (a1 + a2)) ≤ (l0.length : Int)) = true)))
        have HR297 := Aside0.mk (Kd.C_of_reads (h1 := fun _ => rfl) (hA12 _ (Kd.reads_of_C HR0.out)))
        have HC297 := Aside0.mk hC12
        clear hA12 hC12 hi012 hsz12
        go_wp2
        go_loopg [6, 33] kj3 (fun kq v6 v33 w' => ∃ (x6_2 : Int) (x33_2 : Int), v6 = .int .u64 x6_2 ∧ v33 = .int .i64 x33_2 ∧ Aside0 (wire_TakeFixed.l0 kq a1 a2 x6_2 ((l0.take ((wrap64 (a1 + a2)) : Int).toNat).drop (a1 : Int).toNat) (((l0.take ((wrap64 (a1 + a2)) : Int).toNat).drop (a1 : Int).toNat).length : Int) x33_2 = some (r1, r2, r3)) ∧ Aside0 (kq ≤ kj3) ∧ Drawn0 w w')
        case atStart => exact ⟨(0), (0), (by first | rfl | (simp; done) | (simp [*]; done)), (by first | rfl | (simp; done) | (simp [*]; done)), H', ⟨Nat.le_refl _⟩, by repeat (first | exact Drawn0.refl _ | apply Drawn0.step)⟩
        case round =>
         clear H'
         try clear c1
         try clear p2
         try clear c3
         try clear c5
         try clear c5b0
         try clear p6
         try clear c7
         try clear c8
         try clear c8b0
         try clear c9
         try clear c9b0
         try clear c9b1
         try clear c10
         try clear c10b0
         try clear c10b1
         try clear c11
         try clear c11b0
         try clear c11b1
         try clear p2
         obtain ⟨x6_2, x33_2, rfl, rfl, HA, HK2, ⟨m2, rfl⟩⟩ := hrel
         cases gk with
         | zero => exact absurd HA.out (by simp [wire_TakeFixed.l0])
         | succ k2 =>
          have H := HA.out
          clear HA
          simp only [wire_TakeFixed.l0] at H
          by_cases c13 : x33_2 < (((l0.take ((wrap64 (a1 + a2)) : Int).toNat).drop (a1 : Int).toNat).length : Int)
          ·rw [if_pos c13] at H
           have c13b0 : decide (x33_2 < (((l0.take ((wrap64 (a1 + a2)) : Int).toNat).drop (a1 : Int).toNat).length : Int)) = true := decide_eq_true c13
           (try have c13n0 : decide (x33_2 < ((((wrap64 (a1 + a2)) : Int).toNat - (a1 : Int).toNat : Nat) : Int)) = true := by have h_ := of_decide_eq_true c13b0; rw [List.length_drop, List.length_take] at h_; (try have g_ := of_decide_eq_true (by assumption : decide ((wrap64 (a1 + a2)) ≤ (l0.length : Int)) = true)); (try have g_ := (by assumption : Aside0 ((wrap64 (a1 + a2)) ≤ (l0.length : Int))).out); exact decide_eq_true (by omega))
           clear c13
           by_cases c14 : 0 ≤ x33_2
           ·rw [if_pos c14] at H
            have c14b0 : decide (0 ≤ x33_2) = true := decide_eq_true c14
            clear c14
            by_cases c15 : x33_2 < (((l0.take ((wrap64 (a1 + a2)) : Int).toNat).drop (a1 : Int).toNat).length : Int)
            ·rw [if_pos c15] at H
             have c15b0 : decide (x33_2 < (((l0.take ((wrap64 (a1 + a2)) : Int).toNat).drop (a1 : Int).toNat).length : Int)) = true := decide_eq_true c15
             (try have c15n0 : decide (x33_2 < ((((wrap64 (a1 + a2)) : Int).toNat - (a1 : Int).toNat : Nat) : Int)) = true := by have h_ := of_decide_eq_true c15b0; rw [List.length_drop, List.length_take] at h_; (try have g_ := of_decide_eq_true (by assumption : decide ((wrap64 (a1 + a2)) ≤ (l0.length : Int)) = true)); (try have g_ := (by assumption : Aside0 ((wrap64 (a1 + a2)) ≤ (l0.length : Int))).out); exact decide_eq_true (by omega))
             clear c15
             have H' := Aside0.mk H
             clear H
             have p298 : 0 ≤ (x33_2 : Int) := of_decide_eq_true (by first | (with_reducible assumption) | assumption)
             have q298 : x33_2 < (((l0.take ((wrap64 (a1 + a2)) : Int).toNat).drop (a1 : Int).toNat).length : Int) := of_decide_eq_true (by first | (with_reducible assumption) | assumption)
             (try have qn298 := eq_true (show x33_2 < ((((wrap64 (a1 + a2)) : Int).toNat - (a1 : Int).toNat : Nat) : Int) from (by have h_ := q298; rw [List.length_drop, List.length_take] at h_; omega)))
             obtain ⟨ad298, e298, hx298_0⟩ := Kd.at_int HR297.out x33_2 p298 q298
             cases e298
             replace p298 := eq_true p298
             replace q298 := eq_true q298
             go_wp2
             go_roundg k2
             case measure => have := HJ3.out; have := HK2.out; omega
             case rel => exact ⟨(IntKind.u64.wrap ((IntKind.u64.wrap (x6_2 * 256)) + (IntKind.u64.wrap (rd ((l0.take ((wrap64 (a1 + a2)) : Int).toNat).drop (a1 : Int).toNat) x33_2)))), (wrap64 (x33_2 + 1)), (by first | rfl | (simp; done) | (simp [*]; done)), (by first | rfl | (simp; done) | (simp [*]; done)), H', ⟨by have := HJ3.out; have := HK2.out; omega⟩, by repeat (first | exact Drawn0.refl _ | apply Drawn0.step)⟩
            ·rw [if_neg c15] at H
             exact absurd H (by simp)
           ·rw [if_neg c14] at H
            exact absurd H (by simp)
          ·rw [if_neg c13] at H
           have c13b0 : decide (x33_2 < (((l0.take ((wrap64 (a1 + a2)) : Int).toNat).drop (a1 : Int).toNat).length : Int)) = false := decide_eq_false c13
           (try have c13n0 : decide (x33_2 < ((((wrap64 (a1 + a2)) : Int).toNat - (a1 : Int).toNat : Nat) : Int)) = false := by have h_ := of_decide_eq_false c13b0; rw [List.length_drop, List.length_take] at h_; (try have g_ := of_decide_eq_true (by assumption : decide ((wrap64 (a1 + a2)) ≤ (l0.length : Int)) = true)); (try have g_ := (by assumption : Aside0 ((wrap64 (a1 + a2)) ≤ (l0.length : Int))).out); exact decide_eq_false (by omega))
           clear c13
           simp only [Option.some.injEq, Prod.mk.injEq] at H
           obtain ⟨rfl, rfl, rfl⟩ := H
           go_wp2
           go_ret3
           exact ⟨by first | rfl | (simp; done) | (simp [*]; done), by repeat (first | exact Drawn0.refl _ | apply Drawn0.step)⟩
       ·rw [if_neg c11] at H
        exact absurd H (by simp)
      ·rw [if_neg c10] at H
       exact absurd H (by simp)
     ·rw [if_neg c9] at H
      exact absurd H (by simp)

-- NOT PRINTED: function 34 (frame_Read_1)

end Go.Proofs.Ytogdelhofdelgaa.Print
