-- PRINTED by print.py (a twelfth state) out of the translation. Not trusted: Lean checks it.
import Derived.Test.YtcofclkgfandfaaGreatSq
import Derived.Test.YtcofclkgfandfaaGreatPrint0
import Derived.Test.YtcofclkgfandfaaGreatPrint5
import Derived.Test.YtcofclkgfandfaaGreatPrint25
import Derived.Test.YtcofclkgfandfaaGreatPrint7
import Derived.Test.YtcofclkgfandfaaGreatPrint12
import Derived.Test.YtcofclkgfandfaaGreatPrint11
namespace Go.Proofs.YtcofclkgfandfaaGreat.Print
open Go.RowKit Go.Proofs.YtcofclkgfandfaaGreatW.PrintWords Go.Proofs.YtcofclkgfandfaaGreatW.PrintLast Go.Proofs.YtcofclkgfandfaaGreatW.PrintMore Go.Proofs.YtcofclkgfandfaaGreatX
attribute [local go_sem] str_lss str_geq max2_int min2_int max_two min_two max_three min_three max_four min_four   -- for this text's walks alone
set_option linter.unusedVariables false
set_option linter.unusedSimpArgs false

/-! ### wire_TakeVary: function 47 -/
mutual
def wire_TakeVary.l0 : Nat → Int → Int → List Int → Int → Int → Option (Int × Int × Int)
 | 0, _, _, _, _, _ => none
 | k + 1, x1, x4, x16, x17, x18 => if x18 < x17 then (if 0 ≤ x18 then (if x18 < (x16.length : Int) then (if x18 = 0 then (if (rd x16 x18) = 128 then (wire_TakeVary.j1 k x1 x4 x18 (rd x16 x18) x16 x17 x18 true) else ((bits_Len64.f k x4).bind fun t515 => (wire_TakeVary.j1 k x1 x4 x18 (rd x16 x18) x16 x17 x18 (decide (t515 > 57))))) else ((bits_Len64.f k x4).bind fun t516 => (wire_TakeVary.j1 k x1 x4 x18 (rd x16 x18) x16 x17 x18 (decide (t516 > 57))))) else (none)) else (none)) else (some (0, 0, 3))
def wire_TakeVary.j1 : Nat → Int → Int → Int → Int → List Int → Int → Int → Bool → Option (Int × Int × Int)
 | 0, _, _, _, _, _, _, _, _ => none
 | k + 1, x1, x4, x7, x8, x16, x17, x18, x33 => if x33 = true then (some (0, 0, 4)) else (if (Go.bits .and .u8 x8 128) = 0 then (some (Go.bits .or .u64 (IntKind.u64.wrap (x4 * 128)) (IntKind.u64.wrap (Go.bits .and .u8 x8 127)), wrap64 ((wrap64 (x1 + x7)) + 1), 0)) else (wire_TakeVary.l0 k x1 (Go.bits .or .u64 (IntKind.u64.wrap (x4 * 128)) (IntKind.u64.wrap (Go.bits .and .u8 x8 127))) x16 x17 (wrap64 (x18 + 1))))
end
def wire_TakeVary.f (k : Nat) (l0 : List Int) (a1 : Int) : Option (Int × Int × Int) := if a1 < 0 then (some (0, 0, 1)) else (if 0 ≤ (mn a1 (l0.length : Int)) then (if (mn a1 (l0.length : Int)) ≤ (l0.length : Int) then (wire_TakeVary.l0 k a1 0 (l0.drop ((mn a1 (l0.length : Int)) : Int).toNat) ((l0.drop ((mn a1 (l0.length : Int)) : Int).toNat).length : Int) 0) else (none)) else (none))
set_option maxHeartbeats 8000000 in
set_option maxRecDepth 100000 in
theorem wire_TakeVary.calls (k : Nat) (A0 : Option Addr) (c0 : Nat) (l0 : List Int) (a1 : Int) (r1 : Int) (r2 : Int) (r3 : Int) (w : World) (hr0 : Kd.C (Kd.int .u8) w A0 l0.length l0) (hc0 : l0.length ≤ c0) (h : wire_TakeVary.f k l0 a1 = some (r1, r2, r3)) :
  Calls Tryz.prog 47 #[.slice A0 l0.length c0, .int .i64 a1] w fun e w' => e = .returned (.tuple #[.int .u64 r1, .int .i64 r2, .int .i64 r3]) ∧ Below w.heap.size w w' := by
 have HR0 := asd hr0
 have HC0 := asd hc0
 clear hr0 hc0
 have HB := asd (Below.refl w.heap.size w)
 have H : (if a1 < 0 then (some (0, 0, 1)) else (if 0 ≤ (mn a1 (l0.length : Int)) then (if (mn a1 (l0.length : Int)) ≤ (l0.length : Int) then (wire_TakeVary.l0 k a1 0 (l0.drop ((mn a1 (l0.length : Int)) : Int).toNat) ((l0.drop ((mn a1 (l0.length : Int)) : Int).toNat).length : Int) 0) else (none)) else (none))) = some (r1, r2, r3) := h
 clear h
 by_cases c3 : a1 < 0
 ·rw [if_pos c3] at H
  have c3b0 : decide (a1 < 0) = true := decide_eq_true c3
  clear c3
  simp only [Option.some.injEq, Prod.mk.injEq] at H
  obtain ⟨rfl, rfl, rfl⟩ := H
  go_enter Tryz.func47, Tryz.ntmps47
  go_wp2
  go_ret3
  exact ⟨by first | rfl | (simp [errW_none, errW_some] <;> rfl) | (simp [*, errW_none, errW_some] <;> rfl), bse HB⟩
 ·rw [if_neg c3] at H
  have c3b0 : decide (a1 < 0) = false := decide_eq_false c3
  clear c3
  obtain ⟨ji4, hji4⟩ : ∃ j_ : Int, (mn a1 (l0.length : Int)) = j_ := ⟨_, rfl⟩
  replace H : (if 0 ≤ (ji4) then (if (ji4) ≤ (l0.length : Int) then (wire_TakeVary.l0 k a1 0 (l0.drop ((ji4) : Int).toNat) ((l0.drop ((ji4) : Int).toNat).length : Int) 0) else (none)) else (none)) = some (r1, r2, r3) := by first | (rw [hji4] at H; exact H) | (simp only [hji4] at H ⊢; exact H)
  have hji4_ : (if (l0.length : Int) < a1 then (l0.length : Int) else a1) = ji4 := hji4
  by_cases c5 : 0 ≤ (ji4)
  ·rw [if_pos c5] at H
   have c5b0 := eq_true c5
   have c5b1 : decide (0 ≤ (ji4)) = true := decide_eq_true c5
   clear c5
   by_cases c6 : (ji4) ≤ (l0.length : Int)
   ·rw [if_pos c6] at H
    have c6b0 := eq_true c6
    have c6b1 : decide ((ji4) ≤ (l0.length : Int)) = true := decide_eq_true c6
    clear c6
    have H' := asd H
    clear H
    obtain ⟨i07, hi07, _, hsz7, _⟩ := info_parts info5
    obtain ⟨A7, hcut7, hA7, hC7⟩ := print_drop_of (P := Tryz.prog) (Value.int .u8) 0 33 5 .i64 Tryz.underlying33 hi07 hsz7 A0 c0 l0 (ji4) (of_decide_eq_true (by first | (with_reducible assumption) | assumption)) (of_decide_eq_true (by first | (with_reducible assumption) | assumption)) HC0.out
    have HR513 := asd (Kd.C_of_reads (h1 := fun _ => rfl) (hA7 _ (Kd.reads_of_C HR0.out)))
    have HC513 := asd hC7
    clear hA7 hC7 hi07 hsz7
    go_enter Tryz.func47, Tryz.ntmps47
    go_wp2
    go_loopg [4, 18] k (fun kq v4 v18 w' => ∃ (x4_1 : Int) (x18_1 : Int), v4 = .int .u64 x4_1 ∧ v18 = .int .i64 x18_1 ∧ Aside0 (wire_TakeVary.l0 kq a1 x4_1 (l0.drop ((ji4) : Int).toNat) ((l0.drop ((ji4) : Int).toNat).length : Int) x18_1 = some (r1, r2, r3)) ∧ Aside0 (kq ≤ k) ∧ Aside0 (Below w.heap.size w w'))
    case atStart => exact ⟨(0), (0), (by first | rfl | (simp; done) | (simp [*]; done)), (by first | rfl | (simp; done) | (simp [*]; done)), H', ⟨Nat.le_refl _⟩, ⟨bse HB⟩⟩
    case round =>
     clear H'
     try clear p2
     try clear c3
     try clear c3b0
     try clear c4
     try clear c5
     try clear c5b0
     try clear c5b1
     try clear c6
     try clear c6b0
     try clear c6b1
     obtain ⟨x4_1, x18_1, rfl, rfl, HA, HK1, HB⟩ := hrel
     cases gk with
     | zero => exact absurd HA.out (by simp [wire_TakeVary.l0])
     | succ k1 =>
      have H := HA.out
      clear HA
      simp only [wire_TakeVary.l0] at H
      by_cases c8 : x18_1 < ((l0.drop ((ji4) : Int).toNat).length : Int)
      ·rw [if_pos c8] at H
       have c8b0 : decide (x18_1 < ((l0.drop ((ji4) : Int).toNat).length : Int)) = true := decide_eq_true c8
       (try have c8n0 : decide (x18_1 < ((l0.length - ((ji4) : Int).toNat : Nat) : Int)) = true := by have h_ := of_decide_eq_true c8b0; rw [List.length_drop] at h_; exact decide_eq_true (by omega))
       clear c8
       by_cases c9 : 0 ≤ x18_1
       ·rw [if_pos c9] at H
        have c9b0 : decide (0 ≤ x18_1) = true := decide_eq_true c9
        clear c9
        by_cases c10 : x18_1 < ((l0.drop ((ji4) : Int).toNat).length : Int)
        ·rw [if_pos c10] at H
         have c10b0 : decide (x18_1 < ((l0.drop ((ji4) : Int).toNat).length : Int)) = true := decide_eq_true c10
         (try have c10n0 : decide (x18_1 < ((l0.length - ((ji4) : Int).toNat : Nat) : Int)) = true := by have h_ := of_decide_eq_true c10b0; rw [List.length_drop] at h_; exact decide_eq_true (by omega))
         clear c10
         have HC11 := asd H
         clear H
         have p514 : 0 ≤ (x18_1 : Int) := of_decide_eq_true (by first | (with_reducible assumption) | assumption)
         have q514 : x18_1 < ((l0.drop ((ji4) : Int).toNat).length : Int) := of_decide_eq_true (by first | (with_reducible assumption) | assumption)
         (try have qn514 := eq_true (show x18_1 < ((l0.length - ((ji4) : Int).toNat : Nat) : Int) from (by have h_ := q514; rw [List.length_drop] at h_; omega)))
         obtain ⟨ad514, e514, hx514_0⟩ := Kd.at_int HR513.out x18_1 p514 q514
         cases e514
         replace hx514_0 := (HB.out.cell (World.block_lt_of_cell? w _ hx514_0)).trans hx514_0
         replace p514 := eq_true p514
         replace q514 := eq_true q514
         go_upto_region 6 with (fail)
         go_cut [33] (fun v33 wc => ∃ (kq : Nat) (x33_10 : Bool), v33 = .bool x33_10 ∧ Aside0 (wire_TakeVary.j1 kq a1 x4_1 x18_1 (rd (l0.drop ((ji4) : Int).toNat) x18_1) (l0.drop ((ji4) : Int).toNat) ((l0.drop ((ji4) : Int).toNat).length : Int) x18_1 x33_10 = some (r1, r2, r3)) ∧ Aside0 (kq ≤ k1) ∧ Aside0 (Below w.heap.size w wc))
         case first =>
          have H := HC11.out
          clear HC11
          by_cases c12 : x18_1 = 0
          ·rw [if_pos c12] at H
           have c12b0 : (x18_1 == 0) = true := beq_iff_eq.mpr c12
           have c12b1 : (x18_1 != 0) = false := bne_eq_false_iff_eq.mpr c12
           clear c12
           (first | rw [c12b0] | (simp only [i64_w, i32_w]; rw [c12b0]) | skip)
           by_cases c13 : (rd (l0.drop ((ji4) : Int).toNat) x18_1) = 128
           ·rw [if_pos c13] at H
            have c13b0 : ((rd (l0.drop ((ji4) : Int).toNat) x18_1) == 128) = true := beq_iff_eq.mpr c13
            have c13b1 : ((rd (l0.drop ((ji4) : Int).toNat) x18_1) != 128) = false := bne_eq_false_iff_eq.mpr c13
            clear c13
            have H' := asd H
            clear H
            go_wp2
            go_meet
            case rel => exact ⟨_, (true), (by first | rfl | (simp; done) | (simp [*]; done)), H', ⟨by have := HK1.out; first | omega | exact Nat.le_refl _⟩, ⟨bse HB⟩⟩
           ·rw [if_neg c13] at H
            have c13b0 : ((rd (l0.drop ((ji4) : Int).toNat) x18_1) == 128) = false := beq_eq_false_iff_ne.mpr c13
            have c13b1 : ((rd (l0.drop ((ji4) : Int).toNat) x18_1) != 128) = true := bne_iff_ne.mpr c13
            replace H := Option.bind_eq_some_iff.mp H
            obtain ⟨t515, A140, H⟩ := H
            replace H : (wire_TakeVary.j1 k1 a1 x4_1 x18_1 (rd (l0.drop ((ji4) : Int).toNat) x18_1) (l0.drop ((ji4) : Int).toNat) ((l0.drop ((ji4) : Int).toNat).length : Int) x18_1 (decide (t515 > 57))) = some (r1, r2, r3) := H
            have A14 := asd A140
            clear A140
            have H' := asd H
            clear H
            go_wp2_with (first | (go_at_call 92; (with_reducible refine (bits_Len64.calls k1 x4_1 t515 _ A14.out).mono ?_); rintro e w' ⟨rfl, ⟨nd, rfl⟩⟩))
            go_meet
            case rel => exact ⟨_, (decide (t515 > 57)), (by first | rfl | (simp; done) | (simp [*]; done)), H', ⟨by have := HK1.out; first | omega | exact Nat.le_refl _⟩, ⟨bse HB⟩⟩
          ·rw [if_neg c12] at H
           have c12b0 : (x18_1 == 0) = false := beq_eq_false_iff_ne.mpr c12
           have c12b1 : (x18_1 != 0) = true := bne_iff_ne.mpr c12
           (first | rw [c12b0] | (simp only [i64_w, i32_w]; rw [c12b0]) | skip)
           replace H := Option.bind_eq_some_iff.mp H
           obtain ⟨t516, A150, H⟩ := H
           replace H : (wire_TakeVary.j1 k1 a1 x4_1 x18_1 (rd (l0.drop ((ji4) : Int).toNat) x18_1) (l0.drop ((ji4) : Int).toNat) ((l0.drop ((ji4) : Int).toNat).length : Int) x18_1 (decide (t516 > 57))) = some (r1, r2, r3) := H
           have A15 := asd A150
           clear A150
           have H' := asd H
           clear H
           go_wp2_with (first | (go_at_call 92; (with_reducible refine (bits_Len64.calls k1 x4_1 t516 _ A15.out).mono ?_); rintro e w' ⟨rfl, ⟨nd, rfl⟩⟩))
           go_meet
           case rel => exact ⟨_, (decide (t516 > 57)), (by first | rfl | (simp; done) | (simp [*]; done)), H', ⟨by have := HK1.out; first | omega | exact Nat.le_refl _⟩, ⟨bse HB⟩⟩
         case rest =>
          clear HC11
          try clear c1
          try clear p2
          try clear c3
          try clear c3b0
          try clear c4
          try clear c5
          try clear c5b0
          try clear c5b1
          try clear p5
          try clear q5
          try clear hx5
          try clear c6
          try clear c6b0
          try clear c6b1
          try clear c8
          try clear c8b0
          try clear c9
          try clear c9b0
          try clear c10
          try clear c10b0
          try clear c12
          try clear c12b0
          try clear c12b1
          try clear c13
          try clear c13b0
          try clear c13b1
          try clear hx514_0
          try clear p2
          try clear p514
          try clear q514
          obtain ⟨kq, x33_10, rfl, HA, HJ10, HB⟩ := hcut
          cases kq with
          | zero => exact absurd HA.out (by simp [wire_TakeVary.j1])
          | succ kj10 =>
           have H := HA.out
           clear HA
           simp only [wire_TakeVary.j1] at H
           by_cases c16 : x33_10 = true
           ·subst c16
            have H1 : (some (0, 0, 4)) = some (r1, r2, r3) := by rw [if_pos rfl] at H; exact H
            clear H
            have H := H1
            clear H1
            simp only [Option.some.injEq, Prod.mk.injEq] at H
            obtain ⟨rfl, rfl, rfl⟩ := H
            go_wp2
            go_ret3
            exact ⟨by first | rfl | (simp [errW_none, errW_some] <;> rfl) | (simp only [← hji4]; first | rfl | (simp [errW_none, errW_some] <;> rfl)) | (simp [*, errW_none, errW_some] <;> rfl), bse HB⟩
           ·replace c16 := Bool.eq_false_iff.mpr c16
            subst c16
            have H1 : (if (Go.bits .and .u8 (rd (l0.drop ((ji4) : Int).toNat) x18_1) 128) = 0 then (some (Go.bits .or .u64 (IntKind.u64.wrap (x4_1 * 128)) (IntKind.u64.wrap (Go.bits .and .u8 (rd (l0.drop ((ji4) : Int).toNat) x18_1) 127)), wrap64 ((wrap64 (a1 + x18_1)) + 1), 0)) else (wire_TakeVary.l0 kj10 a1 (Go.bits .or .u64 (IntKind.u64.wrap (x4_1 * 128)) (IntKind.u64.wrap (Go.bits .and .u8 (rd (l0.drop ((ji4) : Int).toNat) x18_1) 127))) (l0.drop ((ji4) : Int).toNat) ((l0.drop ((ji4) : Int).toNat).length : Int) (wrap64 (x18_1 + 1)))) = some (r1, r2, r3) := by rw [if_neg (show ¬ (false = true) by decide)] at H; exact H
            clear H
            have H := H1
            clear H1
            by_cases c17 : (Go.bits .and .u8 (rd (l0.drop ((ji4) : Int).toNat) x18_1) 128) = 0
            ·rw [if_pos c17] at H
             have c17b0 : ((Go.bits .and .u8 (rd (l0.drop ((ji4) : Int).toNat) x18_1) 128) == 0) = true := beq_iff_eq.mpr c17
             have c17b1 : ((Go.bits .and .u8 (rd (l0.drop ((ji4) : Int).toNat) x18_1) 128) != 0) = false := bne_eq_false_iff_eq.mpr c17
             clear c17
             simp only [Option.some.injEq, Prod.mk.injEq] at H
             obtain ⟨rfl, rfl, rfl⟩ := H
             go_wp2
             go_ret3
             exact ⟨by first | rfl | (simp [errW_none, errW_some] <;> rfl) | (simp only [← hji4]; first | rfl | (simp [errW_none, errW_some] <;> rfl)) | (simp [*, errW_none, errW_some] <;> rfl), bse HB⟩
            ·rw [if_neg c17] at H
             have c17b0 : ((Go.bits .and .u8 (rd (l0.drop ((ji4) : Int).toNat) x18_1) 128) == 0) = false := beq_eq_false_iff_ne.mpr c17
             have c17b1 : ((Go.bits .and .u8 (rd (l0.drop ((ji4) : Int).toNat) x18_1) 128) != 0) = true := bne_iff_ne.mpr c17
             have H' := asd H
             clear H
             go_wp2
             go_roundg kj10
             case measure => have := HK1.out; have := HJ10.out; omega
             case rel => exact ⟨(Go.bits .or .u64 (IntKind.u64.wrap (x4_1 * 128)) (IntKind.u64.wrap (Go.bits .and .u8 (rd (l0.drop ((ji4) : Int).toNat) x18_1) 127))), (wrap64 (x18_1 + 1)), (by first | rfl | (simp; done) | (simp only [← hji4] <;> (first | rfl | simp)) | (simp [*]; done)), (by first | rfl | (simp; done) | (simp [*]; done)), H', ⟨by have := HK1.out; have := HJ10.out; omega⟩, ⟨bse HB⟩⟩
        ·rw [if_neg c10] at H
         exact absurd H (by simp)
       ·rw [if_neg c9] at H
        exact absurd H (by simp)
      ·rw [if_neg c8] at H
       have c8b0 : decide (x18_1 < ((l0.drop ((ji4) : Int).toNat).length : Int)) = false := decide_eq_false c8
       (try have c8n0 : decide (x18_1 < ((l0.length - ((ji4) : Int).toNat : Nat) : Int)) = false := by have h_ := of_decide_eq_false c8b0; rw [List.length_drop] at h_; exact decide_eq_false (by omega))
       clear c8
       simp only [Option.some.injEq, Prod.mk.injEq] at H
       obtain ⟨rfl, rfl, rfl⟩ := H
       go_wp2
       go_ret3
       exact ⟨by first | rfl | (simp [errW_none, errW_some] <;> rfl) | (simp only [← hji4]; first | rfl | (simp [errW_none, errW_some] <;> rfl)) | (simp [*, errW_none, errW_some] <;> rfl), bse HB⟩
   ·rw [if_neg c6] at H
    exact absurd H (by simp)
  ·rw [if_neg c5] at H
   exact absurd H (by simp)


/-! ### frame_Check: function 48 -/
def frame_Check.j0 : Nat → Bool → Int → Int → Int → Int → Option (Int)
 | 0, _, _, _, _, _ => none
 | k + 1, x3, x518000, x518001, x518002, x518003 => if x3 = true then (some 1) else (if x518001 < 0 then (some 1) else (if x518001 ≥ 16 then (some 1) else (if x518002 > 4294967296 then (some 1) else (some 0))))
def frame_Check.f (k : Nat) (a0_0 : Int) (a0_1 : Int) (a0_2 : Int) (a0_3 : Int) : Option (Int) := if a0_0 = 1 then (frame_Check.j0 k false a0_0 a0_1 a0_2 a0_3) else (frame_Check.j0 k (a0_0 != 2) a0_0 a0_1 a0_2 a0_3)
set_option maxHeartbeats 8000000 in
set_option maxRecDepth 100000 in
theorem frame_Check.calls (k : Nat) (a0_0 : Int) (a0_1 : Int) (a0_2 : Int) (a0_3 : Int) (r : Int) (w : World) (h : frame_Check.f k a0_0 a0_1 a0_2 a0_3 = some r) :
  Calls Tryz.prog 48 #[.agg #[.int .i64 a0_0, .int .i64 a0_1, .int .u64 a0_2, .int .u16 a0_3]] w fun e w' => e = .returned (.int .i64 r) ∧ Below w.heap.size w w' := by
 have hu43 := Tryz.underlying43
 have HB := asd (Below.refl w.heap.size w)
 have H : (if a0_0 = 1 then (frame_Check.j0 k false a0_0 a0_1 a0_2 a0_3) else (frame_Check.j0 k (a0_0 != 2) a0_0 a0_1 a0_2 a0_3)) = some r := h
 clear h
 have HC2 := asd H
 clear H
 go_enter Tryz.func48, Tryz.ntmps48
 go_upto_region 1 with (first | ((with_reducible refine gate_dst (N := 1) rfl ?_); refine bx (N := 1) (cs := #[.int .i64 a0_0, .int .i64 a0_1, .int .u64 a0_2, .int .u16 a0_3]) (t := 43) ?_; intro gb517 hg w3 hbox hb; have BK517 := asd (hbox); have GW517 := bz HB hg; have GE517 := bz HB hg; replace HB := bs HB hb; clear hb hbox hg))
 (try simp only [Act.put, List.setIfInBounds_toArray, List.set_cons_zero, List.set_cons_succ])
 go_cut [3] (fun v3 wc => ∃ (kq : Nat) (x3_1 : Bool), v3 = .bool x3_1 ∧ Aside0 (frame_Check.j0 kq x3_1 a0_0 a0_1 a0_2 a0_3 = some r) ∧ Aside0 (kq ≤ k) ∧ Aside0 (wc.heap[gb517]? = some (.cells #[.int .i64 a0_0, .int .i64 a0_1, .int .u64 a0_2, .int .u16 a0_3] 43 (0, 0))) ∧ Aside0 (Below w.heap.size w wc))
 case first =>
  have H := HC2.out
  clear HC2
  by_cases c4 : a0_0 = 1
  ·rw [if_pos c4] at H
   have c4b0 : (a0_0 == 1) = true := beq_iff_eq.mpr c4
   have c4b1 : (a0_0 != 1) = false := bne_eq_false_iff_eq.mpr c4
   clear c4
   (first | rw [c4b0] | (simp only [i64_w, i32_w]; rw [c4b0]) | skip)
   have H' := asd H
   clear H
   have hcz5 := cf4 BK517
   go_wp2
   go_meet
   case rel => exact ⟨_, (false), (by first | rfl | (simp; done) | (simp [*]; done)), H', ⟨by first | omega | exact Nat.le_refl _⟩, be BK517, ⟨bse HB⟩⟩
  ·rw [if_neg c4] at H
   have c4b0 : (a0_0 == 1) = false := beq_eq_false_iff_ne.mpr c4
   have c4b1 : (a0_0 != 1) = true := bne_iff_ne.mpr c4
   (first | rw [c4b0] | (simp only [i64_w, i32_w]; rw [c4b0]) | skip)
   have H' := asd H
   clear H
   have hcz6 := cf4 BK517
   go_wp2
   go_meet
   case rel => exact ⟨_, ((a0_0 != 2)), (by first | rfl | (simp; done) | (simp [*]; done)), H', ⟨by first | omega | exact Nat.le_refl _⟩, be BK517, ⟨bse HB⟩⟩
 case rest =>
  clear HC2
  try clear p2
  try clear c4
  try clear c4b0
  try clear c4b1
  try clear hcz5
  try clear hcz6
  try clear hcz5
  try clear hcz6
  obtain ⟨kq, x3_1, rfl, HA, HJ1, BK517, HB⟩ := hcut
  cases kq with
  | zero => exact absurd HA.out (by simp [frame_Check.j0])
  | succ kj1 =>
   have H := HA.out
   clear HA
   simp only [frame_Check.j0] at H
   by_cases c7 : x3_1 = true
   ·subst c7
    have H1 : (some 1) = some r := by rw [if_pos rfl] at H; exact H
    clear H
    have H := H1
    clear H1
    obtain rfl := Option.some.inj H
    go_wp2
    go_ret
    exact ⟨by first | rfl | (simp [errW_none, errW_some] <;> rfl) | (simp [*, errW_none, errW_some] <;> rfl), bse HB⟩
   ·replace c7 := Bool.eq_false_iff.mpr c7
    subst c7
    have H1 : (if a0_1 < 0 then (some 1) else (if a0_1 ≥ 16 then (some 1) else (if a0_2 > 4294967296 then (some 1) else (some 0)))) = some r := by rw [if_neg (show ¬ (false = true) by decide)] at H; exact H
    clear H
    have H := H1
    clear H1
    by_cases c8 : a0_1 < 0
    ·rw [if_pos c8] at H
     have c8b0 : decide (a0_1 < 0) = true := decide_eq_true c8
     clear c8
     obtain rfl := Option.some.inj H
     have hcz9 := cf4 BK517
     go_wp2
     go_ret
     exact ⟨by first | rfl | (simp [errW_none, errW_some] <;> rfl) | (simp [*, errW_none, errW_some] <;> rfl), bse HB⟩
    ·rw [if_neg c8] at H
     have c8b0 : decide (a0_1 < 0) = false := decide_eq_false c8
     clear c8
     by_cases c10 : a0_1 ≥ 16
     ·rw [if_pos c10] at H
      have c10b0 : decide (16 ≤ a0_1) = true := decide_eq_true c10
      clear c10
      obtain rfl := Option.some.inj H
      have hcz11 := cf4 BK517
      go_wp2
      go_ret
      exact ⟨by first | rfl | (simp [errW_none, errW_some] <;> rfl) | (simp [*, errW_none, errW_some] <;> rfl), bse HB⟩
     ·rw [if_neg c10] at H
      have c10b0 : decide (16 ≤ a0_1) = false := decide_eq_false c10
      clear c10
      by_cases c12 : a0_2 > 4294967296
      ·rw [if_pos c12] at H
       have c12b0 : decide (4294967296 < a0_2) = true := decide_eq_true c12
       clear c12
       obtain rfl := Option.some.inj H
       have hcz13 := cf4 BK517
       go_wp2
       go_ret
       exact ⟨by first | rfl | (simp [errW_none, errW_some] <;> rfl) | (simp [*, errW_none, errW_some] <;> rfl), bse HB⟩
      ·rw [if_neg c12] at H
       have c12b0 : decide (4294967296 < a0_2) = false := decide_eq_false c12
       clear c12
       obtain rfl := Option.some.inj H
       have hcz14 := cf4 BK517
       go_wp2
       go_ret
       exact ⟨by first | rfl | (simp [errW_none, errW_some] <;> rfl) | (simp [*, errW_none, errW_some] <;> rfl), bse HB⟩


/-! ### frame_Read: function 12 -/
/-- frame.Read's inner function: a number of a width, if nothing was wrong ahead of it. -/
def frame_Read_1.f (k : Nat) (l : List Int) (e p wd : Int) : Option (Int × Int × Int) := if e = 0 then wire_TakeFixed.f k l p wd else some (0, p, e)
set_option maxHeartbeats 4000000 in
set_option maxRecDepth 100000 in
theorem frame_Read_1.calls (k : Nat) (e p wd n p' e' : Int) (ge gb ga : Nat) (A : Option Addr) (c : Nat) (l : List Int) (w : World)
  (hE : w.heap[ge]? = some (.cells #[.int .i64 e] 36 (0, 0))) (hB : w.heap[gb]? = some (.cells #[.slice A l.length c] 33 (0, 0))) (hP : w.heap[ga]? = some (.cells #[.int .i64 p] 3 (0, 0)))
  (hr : Kd.C (Kd.int .u8) w A l.length l) (hc : l.length ≤ c) (h : frame_Read_1.f k l e p wd = some (n, p', e')) :
  Calls Tryz.prog 45 #[.int .i64 wd, .pointer (some ⟨ge, 0, none⟩), .pointer (some ⟨gb, 0, none⟩), .pointer (some ⟨ga, 0, none⟩)] w fun r w' => r = .returned (.int .u64 n) ∧ w'.heap[ge]? = some (.cells #[.int .i64 e'] 36 (0, 0)) ∧ w'.heap[ga]? = some (.cells #[.int .i64 p'] 3 (0, 0)) ∧ (∀ j, j ≠ ge → j ≠ ga → w'.heap[j]? = w.heap[j]?) ∧ (∀ B, B ≤ ge → B ≤ ga → Below B w w') := by
 unfold frame_Read_1.f at h
 have hne : ge ≠ ga := blk_ne hE hP (by decide)
 have he : w.cell? ⟨ge, 0, none⟩ = some (.int .i64 e) := (blk_cell hE 0).trans rfl
 have fe : w.frozen? ⟨ge, 0, none⟩ = false := blk_frozen hE 0
 have hb : w.cell? ⟨gb, 0, none⟩ = some (.slice A l.length c) := (blk_cell hB 0).trans rfl
 have ha : w.cell? ⟨ga, 0, none⟩ = some (.int .i64 p) := (blk_cell hP 0).trans rfl
 have fa : w.frozen? ⟨ga, 0, none⟩ = false := blk_frozen hP 0
 have HE := asd hE
 have HP := asd hP
 clear hE hB hP
 by_cases c0 : e = 0
 ·subst c0
  rw [if_pos rfl] at h
  have H := asd h
  clear h
  go_enter Tryz.func45, Tryz.ntmps45
  go_wp2_with (first | (go_at_call 46; (refine (wire_TakeFixed.calls k A c l p wd n p' e' _ hr hc H.out).mono ?_); rintro r w1 ⟨rfl, hd⟩; obtain ⟨nd, rfl⟩ := hd.out; clear hd))
  go_ret
  refine ⟨rfl, blk_set (blk_far HE.out hne _) 0 _, blk_far (blk_set HP.out 0 _) (fun q => hne q.symm) _, fun j h1 h2 => (Below.heap_setCell _ _ _ j h1).trans (Below.heap_setCell _ _ _ j h2), fun B h1 h2 => (((pw_below_drewN (Below.refl B w) nd).setCell h2 _).setCell h1 _)⟩
 ·rw [if_neg c0] at h
  simp only [Option.some.injEq, Prod.mk.injEq] at h
  obtain ⟨rfl, rfl, rfl⟩ := h
  go_enter Tryz.func45, Tryz.ntmps45
  go_wp2
  go_ret
  exact ⟨rfl, HE.out, HP.out, fun _ _ _ => rfl, fun B _ _ => Below.refl B w⟩
/-- A frame read, as the code reads it: each number read through the inner function. -/
def frame_Read.f (k : Nat) (l : List Int) : Option (Int × Int × Int × Int × Int) := (crc_Open24.f l).bind fun o => if o.2 = 0 then ((frame_Read_1.f k o.1 0 0 1).bind fun h => (frame_Read_1.f k o.1 h.2.2 h.2.1 1).bind fun a => (frame_Read_1.f k o.1 a.2.2 a.2.1 1).bind fun b => (if b.2.2 = 0 then wire_TakeVary.f k o.1 b.2.1 else some (0, b.2.1, b.2.2)).bind fun v => (frame_Read_1.f k o.1 v.2.2 v.2.1 2).bind fun m => if m.2.2 = 0 ∧ h.1 = 161 ∧ m.2.1 = (o.1.length : Int) then ((frame_Check.f k (wrap64 a.1) (wrap64 b.1) v.1 (IntKind.u16.wrap m.1)).bind fun c => some (if c = 0 then (wrap64 a.1, wrap64 b.1, v.1, IntKind.u16.wrap m.1, 0) else (0, 0, 0, 0, 4))) else some (0, 0, 0, 0, 4)) else some (0, 0, 0, 0, o.2)
theorem frame_hmf : ∀ (fn : Fn) (first cap : Array Value) (w : World), (Instr.makeFunc fn first cap).run Tryz.prog w = .ok (.func fn first cap) w := fun _ _ _ _ => rfl

/-- How things stand between the inner function's calls: the four variables, the bytes, what lay there before. -/
structure frame_St (w wi : World) (gb gs ge ga lo hi : Nat) (A : Option Addr) (c : Nat) (o : List Int) (e p s0 s1 s2 s3 : Int) : Prop where
 bb : wi.heap[gb]? = some (.cells #[.slice A o.length c] 33 (0, 0))
 bs : wi.heap[gs]? = some (.cells #[.int .i64 s0, .int .i64 s1, .int .u64 s2, .int .u16 s3] 43 (0, 0))
 be : wi.heap[ge]? = some (.cells #[.int .i64 e] 36 (0, 0))
 bp : wi.heap[ga]? = some (.cells #[.int .i64 p] 3 (0, 0))
 rd : Kd.R (Kd.int .u8) 5 wi lo (fun k => lo ≤ k ∧ k < hi) (.slice A o.length c) o
 bel : Below w.heap.size w wi
 gs_ : w.heap.size ≤ gs
 ge_ : w.heap.size ≤ ge ∧ hi ≤ ge
 ga_ : w.heap.size ≤ ga ∧ hi ≤ ga
 lo_ : gs < lo
section
variable {w wi : World} {gb gs ge ga lo hi : Nat} {A : Option Addr} {c : Nat} {o : List Int} {e p s0 s1 s2 s3 : Int}
theorem frame_St.nes (h : frame_St w wi gb gs ge ga lo hi A c o e p s0 s1 s2 s3) : gb ≠ gs ∧ gb ≠ ge ∧ gb ≠ ga ∧ gs ≠ ge ∧ gs ≠ ga ∧ ge ≠ ga ∧ gs ≠ gb ∧ ge ≠ gb ∧ ga ≠ gb ∧ ge ≠ gs ∧ ga ≠ gs ∧ ga ≠ ge := by
 have a := blk_ne h.bb h.bs (by decide)
 have b := blk_ne h.bb h.be (by decide)
 have c := blk_ne h.bb h.bp (by decide)
 have d := blk_ne h.bs h.be (by decide)
 have e := blk_ne h.bs h.bp (by decide)
 have f := blk_ne h.be h.bp (by decide)
 exact ⟨a, b, c, d, e, f, a.symm, b.symm, c.symm, d.symm, e.symm, f.symm⟩
theorem frame_St.cells (h : frame_St w wi gb gs ge ga lo hi A c o e p s0 s1 s2 s3) : wi.cell? ⟨gb, 0, none⟩ = some (.slice A o.length c) ∧ wi.cell? ⟨ge, 0, none⟩ = some (.int .i64 e) ∧ wi.cell? ⟨ga, 0, none⟩ = some (.int .i64 p) ∧ wi.frozen? ⟨ge, 0, none⟩ = false ∧ wi.frozen? ⟨ga, 0, none⟩ = false :=
 ⟨(blk_cell h.bb 0).trans rfl, (blk_cell h.be 0).trans rfl, (blk_cell h.bp 0).trans rfl, blk_frozen h.be 0, blk_frozen h.bp 0⟩
theorem frame_St.fields (h : frame_St w wi gb gs ge ga lo hi A c o e p s0 s1 s2 s3) : (wi.cell? ⟨gs, 0, none⟩ = some (.int .i64 s0) ∧ wi.cell? ⟨gs, 1, none⟩ = some (.int .i64 s1) ∧ wi.cell? ⟨gs, 2, none⟩ = some (.int .u64 s2) ∧ wi.cell? ⟨gs, 3, none⟩ = some (.int .u16 s3)) ∧ (wi.frozen? ⟨gs, 0, none⟩ = false ∧ wi.frozen? ⟨gs, 1, none⟩ = false ∧ wi.frozen? ⟨gs, 2, none⟩ = false ∧ wi.frozen? ⟨gs, 3, none⟩ = false) :=
 ⟨⟨(blk_cell h.bs 0).trans rfl, (blk_cell h.bs 1).trans rfl, (blk_cell h.bs 2).trans rfl, (blk_cell h.bs 3).trans rfl⟩, blk_frozen h.bs 0, blk_frozen h.bs 1, blk_frozen h.bs 2, blk_frozen h.bs 3⟩
theorem frame_St.rdC (h : frame_St w wi gb gs ge ga lo hi A c o e p s0 s1 s2 s3) : Kd.C (Kd.int .u8) wi A o.length o ∧ o.length ≤ c := by
 have := Kd.R_reads' h.rd
 exact ⟨this.2.2, this.2.1⟩
theorem frame_St.called {wj : World} (h : frame_St w wi gb gs ge ga lo hi A c o e p s0 s1 s2 s3) (hb : Below wi.heap.size wi wj) : frame_St w wj gb gs ge ga lo hi A c o e p s0 s1 s2 s3 :=
 ⟨blk_below h.bb hb, blk_below h.bs hb, blk_below h.be hb, blk_below h.bp hb, Kd.R_below h.rd hb, below_step h.bel hb, h.gs_, h.ge_, h.ga_, h.lo_⟩
theorem frame_St.innerd {wj : World} {e' p' : Int} (h : frame_St w wi gb gs ge ga lo hi A c o e p s0 s1 s2 s3) (he : wj.heap[ge]? = some (.cells #[.int .i64 e'] 36 (0, 0))) (hp : wj.heap[ga]? = some (.cells #[.int .i64 p'] 3 (0, 0)))
  (hk : ∀ j, j ≠ ge → j ≠ ga → wj.heap[j]? = wi.heap[j]?) (hb : ∀ B, B ≤ ge → B ≤ ga → Below B wi wj) : frame_St w wj gb gs ge ga lo hi A c o e' p' s0 s1 s2 s3 := by
 obtain ⟨n1, n2, n3, n4, n5, n6, _⟩ := h.nes
 exact ⟨(hk gb n2 n3).trans h.bb, (hk gs n4 n5).trans h.bs, he, hp, Kd.R_step h.rd (fun k ho _ => hk k (by have := h.ge_; omega) (by have := h.ga_; omega)), h.bel.trans (hb _ h.ge_.1 h.ga_.1), h.gs_, h.ge_, h.ga_, h.lo_⟩
theorem frame_St.setE (h : frame_St w wi gb gs ge ga lo hi A c o e p s0 s1 s2 s3) (v : Int) : frame_St w (wi.setCell ⟨ge, 0, none⟩ (.int .i64 v)) gb gs ge ga lo hi A c o v p s0 s1 s2 s3 := by
 obtain ⟨n1, n2, n3, n4, n5, n6, _⟩ := h.nes
 exact ⟨blk_far h.bb n2 _, blk_far h.bs n4 _, blk_set h.be 0 _, blk_far h.bp n6.symm _, Kd.R_far h.rd (fun k hk => by have := h.ge_; show k ≠ ge; omega) _, h.bel.setCell h.ge_.1 _, h.gs_, h.ge_, h.ga_, h.lo_⟩
theorem frame_St.setP (h : frame_St w wi gb gs ge ga lo hi A c o e p s0 s1 s2 s3) (v : Int) : frame_St w (wi.setCell ⟨ga, 0, none⟩ (.int .i64 v)) gb gs ge ga lo hi A c o e v s0 s1 s2 s3 := by
 obtain ⟨n1, n2, n3, n4, n5, n6, _⟩ := h.nes
 exact ⟨blk_far h.bb n3 _, blk_far h.bs n5 _, blk_far h.be n6 _, blk_set h.bp 0 _, Kd.R_far h.rd (fun k hk => by have := h.ga_; show k ≠ ga; omega) _, h.bel.setCell h.ga_.1 _, h.gs_, h.ge_, h.ga_, h.lo_⟩
theorem frame_St.set0 (h : frame_St w wi gb gs ge ga lo hi A c o e p s0 s1 s2 s3) (v : Int) : frame_St w (wi.setCell ⟨gs, 0, none⟩ (.int .i64 v)) gb gs ge ga lo hi A c o e p v s1 s2 s3 := by
 obtain ⟨n1, n2, n3, n4, n5, n6, _⟩ := h.nes
 exact ⟨blk_far h.bb n1 _, blk_set h.bs 0 _, blk_far h.be n4.symm _, blk_far h.bp n5.symm _, Kd.R_far h.rd (fun k hk => by have := h.lo_; show k ≠ gs; omega) _, h.bel.setCell h.gs_ _, h.gs_, h.ge_, h.ga_, h.lo_⟩
theorem frame_St.set1 (h : frame_St w wi gb gs ge ga lo hi A c o e p s0 s1 s2 s3) (v : Int) : frame_St w (wi.setCell ⟨gs, 1, none⟩ (.int .i64 v)) gb gs ge ga lo hi A c o e p s0 v s2 s3 := by
 obtain ⟨n1, n2, n3, n4, n5, n6, _⟩ := h.nes
 exact ⟨blk_far h.bb n1 _, blk_set h.bs 1 _, blk_far h.be n4.symm _, blk_far h.bp n5.symm _, Kd.R_far h.rd (fun k hk => by have := h.lo_; show k ≠ gs; omega) _, h.bel.setCell h.gs_ _, h.gs_, h.ge_, h.ga_, h.lo_⟩
theorem frame_St.set2 (h : frame_St w wi gb gs ge ga lo hi A c o e p s0 s1 s2 s3) (v : Int) : frame_St w (wi.setCell ⟨gs, 2, none⟩ (.int .u64 v)) gb gs ge ga lo hi A c o e p s0 s1 v s3 := by
 obtain ⟨n1, n2, n3, n4, n5, n6, _⟩ := h.nes
 exact ⟨blk_far h.bb n1 _, blk_set h.bs 2 _, blk_far h.be n4.symm _, blk_far h.bp n5.symm _, Kd.R_far h.rd (fun k hk => by have := h.lo_; show k ≠ gs; omega) _, h.bel.setCell h.gs_ _, h.gs_, h.ge_, h.ga_, h.lo_⟩
theorem frame_St.set3 (h : frame_St w wi gb gs ge ga lo hi A c o e p s0 s1 s2 s3) (v : Int) : frame_St w (wi.setCell ⟨gs, 3, none⟩ (.int .u16 v)) gb gs ge ga lo hi A c o e p s0 s1 s2 v := by
 obtain ⟨n1, n2, n3, n4, n5, n6, _⟩ := h.nes
 exact ⟨blk_far h.bb n1 _, blk_set h.bs 3 _, blk_far h.be n4.symm _, blk_far h.bp n5.symm _, Kd.R_far h.rd (fun k hk => by have := h.lo_; show k ≠ gs; omega) _, h.bel.setCell h.gs_ _, h.gs_, h.ge_, h.ga_, h.lo_⟩
end
theorem frame_first {w w1 w2 w3 w4 w5 : World} {gb gs ge ga : Nat} {A0 A1 : Option Addr} {c0 c2 : Nat} {l0 o : List Int} (HB1 : Below w.heap.size w w1) (HB2 : Below w1.heap.size w1 w2) (HB3 : Below w2.heap.size w2 w3) (HB4 : Below w3.heap.size w3 w4) (e1 : gb = w.heap.size) (e2 : gs = w1.heap.size) (e3 : ge = w3.heap.size) (e4 : ga = ((w4.setCell ⟨gb, 0, none⟩ (.slice A1 o.length c2)).setCell ⟨ge, 0, none⟩ (.int .i64 0)).heap.size)
  (BB : w4.heap[gb]? = some (.cells #[.slice A0 l0.length c0] 33 (0, 0))) (BS : w4.heap[gs]? = some (.cells #[.int .i64 0, .int .i64 0, .int .u64 0, .int .u16 0] 43 (0, 0))) (BE : w4.heap[ge]? = some (.cells #[.int .i64 0] 36 (0, 0))) (BP : w5.heap[ga]? = some (.cells #[.int .i64 0] 3 (0, 0)))
  (HO : Kd.R (Kd.int .u8) 5 w3 w2.heap.size (fun _ => True) (.slice A1 o.length c2) o) (hs : gs < w2.heap.size) (HB5 : Below ((w4.setCell ⟨gb, 0, none⟩ (.slice A1 o.length c2)).setCell ⟨ge, 0, none⟩ (.int .i64 0)).heap.size ((w4.setCell ⟨gb, 0, none⟩ (.slice A1 o.length c2)).setCell ⟨ge, 0, none⟩ (.int .i64 0)) w5) : frame_St w w5 gb gs ge ga w2.heap.size w3.heap.size A1 c2 o 0 0 0 0 0 0 := by
 have n1 : ge ≠ gb := blk_ne BE BB (by decide)
 have n2 : ge ≠ gs := blk_ne BE BS (by decide)
 have n3 : gb ≠ gs := blk_ne BB BS (by decide)
 have z1 := HB1.size
 have z2 := HB2.size
 have z3 := HB3.size
 have z4 := HB4.size
 have hsz : ((w4.setCell ⟨gb, 0, none⟩ (.slice A1 o.length c2)).setCell ⟨ge, 0, none⟩ (.int .i64 0)).heap.size = w4.heap.size := by simp [World.setCell]
 rw [hsz] at e4
 have hb := (((below_step (below_step (below_step HB1 HB2) HB3) HB4).setCell (p := ⟨gb, 0, none⟩) (by show w.heap.size ≤ gb; omega) (.slice A1 o.length c2)).setCell (p := ⟨ge, 0, none⟩) (by show w.heap.size ≤ ge; omega) (.int .i64 0))
 have rd : Kd.R (Kd.int .u8) 5 w3 w2.heap.size (fun k => w2.heap.size ≤ k ∧ k < w3.heap.size) (.slice A1 o.length c2) o := Kd.R_mono (Kd.R_bound HO) (fun k hk => ⟨hk.2.1, hk.2.2.1⟩)
 exact ⟨blk_below (blk_far (blk_set BB 0 _) n1.symm _) HB5, blk_below (blk_far (blk_far BS n3.symm _) n2.symm _) HB5, blk_below (blk_set (blk_far BE n1 _) 0 _) HB5, BP, Kd.R_below (Kd.R_far (Kd.R_far (Kd.R_below rd HB4) (fun k hk => by show k ≠ gb; omega) _) (fun k hk => by show k ≠ ge; omega) _) HB5, below_step hb HB5, by omega, by omega, by omega, hs⟩
set_option maxHeartbeats 8000000 in
set_option maxRecDepth 100000 in
theorem frame_Read.calls (k : Nat) (A0 : Option Addr) (c0 : Nat) (l0 : List Int) (r1 : Int) (r2 : Int) (r3 : Int) (r4 : Int) (r5 : Int) (w : World) (hr0 : Kd.C (Kd.int .u8) w A0 l0.length l0) (hc0 : l0.length ≤ c0) (h : frame_Read.f k l0 = some (r1, r2, r3, r4, r5)) :
  Calls Tryz.prog 12 #[.slice A0 l0.length c0] w fun e w' => e = .returned (.tuple #[.agg #[.int .i64 r1, .int .i64 r2, .int .u64 r3, .int .u16 r4], .int .i64 r5]) ∧ Below w.heap.size w w' := by
 have hmf := frame_hmf
 unfold frame_Read.f at h
 replace h := Option.bind_eq_some_iff.mp h
 obtain ⟨⟨o, e0⟩, h1, h⟩ := h
 have H1 := asd h1
 clear h1
 have HR := asd hr0
 have HC := asd hc0
 clear hr0 hc0
 by_cases c1 : e0 = 0
 ·subst c1
  rw [if_pos rfl] at h
  replace h := Option.bind_eq_some_iff.mp h
  obtain ⟨⟨n1, p1, e1⟩, f1, h⟩ := h
  replace h := Option.bind_eq_some_iff.mp h
  obtain ⟨⟨n2, p2, e2⟩, f2, h⟩ := h
  replace h := Option.bind_eq_some_iff.mp h
  obtain ⟨⟨n3, p3, e3⟩, f3, h⟩ := h
  replace h := Option.bind_eq_some_iff.mp h
  obtain ⟨⟨n4, p4, e4⟩, fv, h⟩ := h
  replace h := Option.bind_eq_some_iff.mp h
  obtain ⟨⟨n5, p5, e5⟩, f4, h⟩ := h
  have F1 := asd f1
  have F2 := asd f2
  have F3 := asd f3
  have F4 := asd f4
  clear f1 f2 f3 f4
  simp only at fv h
  have FV0 := asd fv
  have HH := asd h
  clear fv h
  go_enter Tryz.func12, Tryz.ntmps12
  go_upto_region 6 with (first
   | ((with_reducible refine gate_dst (N := 1) rfl ?_); refine bx (N := 1) (cs := #[.slice A0 l0.length c0]) (t := 33) ?_; intro gb hgb w1 hbox hb1; have BB := asd hbox; have HB1 := asd hb1; have HGB := asd hgb; have cb1 : w1.cell? ⟨gb, 0, none⟩ = some (.slice A0 l0.length c0) := (blk_cell hbox 0).trans rfl; clear hbox hb1 hgb)
   | ((with_reducible refine gate_dst (N := 2) rfl ?_); refine bx (N := 2) (cs := #[.int .i64 0, .int .i64 0, .int .u64 0, .int .u16 0]) (t := 43) ?_; intro gs hgs w2 hbox hb2; have BS := asd hbox; have HB2 := asd hb2; have HGS := asd hgs; have BB2 := asd (blk_below BB.out hb2); have cb2 : w2.cell? ⟨gb, 0, none⟩ = some (.slice A0 l0.length c0) := (blk_cell BB2.out 0).trans rfl; clear hbox hb2 hgs cb1)
   | (go_at_call 44; (refine (crc_Open24.calls A0 c0 l0 o 0 _ (Kd.C_below (Kd.C_below HR.out HB1.out) HB2.out) HC.out H1.out).mono ?_); rintro r w3 ⟨v, rfl, ho, hb3⟩; obtain ⟨A1, c2, ev⟩ := Kd.R_slice ho; subst ev; have HO := asd ho; have HB3 := asd hb3; have BB3 := asd (blk_below BB2.out hb3); have BS3 := asd (blk_below BS.out hb3); have cb3 : w3.cell? ⟨gb, 0, none⟩ = some (.slice A0 l0.length c0) := (blk_cell BB3.out 0).trans rfl; have fb3 : w3.frozen? ⟨gb, 0, none⟩ = false := blk_frozen BB3.out 0; clear ho hb3 cb2)
   | ((with_reducible refine gate_dst (N := 4) rfl ?_); refine bx (N := 4) (cs := #[.int .i64 0]) (t := 36) ?_; intro ge hge w4 hbox hb4; have BE := asd hbox; have HB4 := asd hb4; have HGE := asd hge; have BB4 := asd (blk_below BB3.out hb4); have BS4 := asd (blk_below BS3.out hb4); have cb4 : w4.cell? ⟨gb, 0, none⟩ = some (.slice A0 l0.length c0) := (blk_cell BB4.out 0).trans rfl; have fb4 : w4.frozen? ⟨gb, 0, none⟩ = false := blk_frozen BB4.out 0; have ce4 : w4.cell? ⟨ge, 0, none⟩ = some (.int .i64 0) := (blk_cell hbox 0).trans rfl; have fe4 : w4.frozen? ⟨ge, 0, none⟩ = false := blk_frozen hbox 0; have n1 : ge ≠ gb := blk_ne hbox BB4.out (by decide); have n2 : ge ≠ gs := blk_ne hbox BS4.out (by decide); have n3 : gb ≠ gs := blk_ne BB4.out BS4.out (by decide); have s0 : w4.cell? ⟨gs, 0, none⟩ = some (.int .i64 0) := (blk_cell BS4.out 0).trans rfl; have q0 : w4.frozen? ⟨gs, 0, none⟩ = false := blk_frozen BS4.out 0; have s1 : w4.cell? ⟨gs, 1, none⟩ = some (.int .i64 0) := (blk_cell BS4.out 1).trans rfl; have q1 : w4.frozen? ⟨gs, 1, none⟩ = false := blk_frozen BS4.out 1; have s2 : w4.cell? ⟨gs, 2, none⟩ = some (.int .u64 0) := (blk_cell BS4.out 2).trans rfl; have q2 : w4.frozen? ⟨gs, 2, none⟩ = false := blk_frozen BS4.out 2; have s3 : w4.cell? ⟨gs, 3, none⟩ = some (.int .u16 0) := (blk_cell BS4.out 3).trans rfl; have q3 : w4.frozen? ⟨gs, 3, none⟩ = false := blk_frozen BS4.out 3; clear hbox hb4 hge cb3 fb3)
   | ((with_reducible refine gate_dst (N := 5) rfl ?_); refine bx (N := 5) (cs := #[.int .i64 0]) (t := 3) ?_; intro ga hga w5 hbox hb5; have S5 := asd (frame_first HB1.out HB2.out HB3.out HB4.out HGB.out HGS.out HGE.out hga BB4.out BS4.out BE.out hbox HO.out (blk_lt BS.out) hb5); obtain ⟨z1, z2, z3, z4, z5, z6, z7, z8, z9, z10, z11, z12⟩ := S5.out.nes; obtain ⟨m0, m1, m2, m3, m4⟩ := S5.out.cells; obtain ⟨⟨x0, x1, x2, x3⟩, y0, y1, y2, y3⟩ := S5.out.fields; clear hbox hb5 hga cb4 fb4 ce4 fe4 s0 q0 s1 q1 s2 q2 s3 q3 n1 n2 n3)
   | fail)
  clear BB HB1 HGB BS HB2 HGS BB2 HO HB3 BB3 BS3 BE HB4 HGE BB4 BS4 HR HC H1
  go_upto_region 7 with (first
   | (go_at_call 45; (refine (frame_Read_1.calls k 0 0 1 n1 p1 e1 ge gb ga A1 c2 o _ (S5.out.setP 0).be (S5.out.setP 0).bb (S5.out.setP 0).bp (S5.out.setP 0).rdC.1 (S5.out.setP 0).rdC.2 F1.out).mono ?_); rintro r w6 ⟨rfl, he, hp, hk, hb⟩; have S6 := asd ((S5.out.setP 0).innerd he hp hk hb); clear he hp hk hb; clear m0 m1 m2 m3 m4 x0 x1 x2 x3 y0 y1 y2 y3; obtain ⟨m0, m1, m2, m3, m4⟩ := S6.out.cells; obtain ⟨⟨x0, x1, x2, x3⟩, y0, y1, y2, y3⟩ := S6.out.fields)
   | fail)
  clear S5
  go_upto_region 8 with (first
   | (go_at_call 45; (refine (frame_Read_1.calls k e1 p1 1 n2 p2 e2 ge gb ga A1 c2 o _ (S6.out).be (S6.out).bb (S6.out).bp (S6.out).rdC.1 (S6.out).rdC.2 F2.out).mono ?_); rintro r w7 ⟨rfl, he, hp, hk, hb⟩; have S7 := asd ((S6.out).innerd he hp hk hb); clear he hp hk hb; clear m0 m1 m2 m3 m4 x0 x1 x2 x3 y0 y1 y2 y3; obtain ⟨m0, m1, m2, m3, m4⟩ := S7.out.cells; obtain ⟨⟨x0, x1, x2, x3⟩, y0, y1, y2, y3⟩ := S7.out.fields)
   | fail)
  clear S6
  go_upto_region 9 with (first
   | (go_at_call 45; (refine (frame_Read_1.calls k e2 p2 1 n3 p3 e3 ge gb ga A1 c2 o _ (S7.out.set0 (wrap64 n2)).be (S7.out.set0 (wrap64 n2)).bb (S7.out.set0 (wrap64 n2)).bp (S7.out.set0 (wrap64 n2)).rdC.1 (S7.out.set0 (wrap64 n2)).rdC.2 F3.out).mono ?_); rintro r w8 ⟨rfl, he, hp, hk, hb⟩; have S8 := asd ((S7.out.set0 (wrap64 n2)).innerd he hp hk hb); clear he hp hk hb; clear m0 m1 m2 m3 m4 x0 x1 x2 x3 y0 y1 y2 y3; obtain ⟨m0, m1, m2, m3, m4⟩ := S8.out.cells; obtain ⟨⟨x0, x1, x2, x3⟩, y0, y1, y2, y3⟩ := S8.out.fields)
   | fail)
  clear S7
  have fv := FV0.out
  have h := HH.out
  clear FV0 HH
  by_cases c3 : e3 = 0
  ·rw [if_pos c3] at fv
   have FV := asd fv
   have HH := asd h
   clear fv h
   have c3b : (e3 == 0) = true := beq_iff_eq.mpr c3
   clear c3
   go_upto_region 11 with (first
    | (go_at_call 47; (refine (wire_TakeVary.calls k A1 c2 o p3 n4 p4 e4 _ (S8.out.set1 (wrap64 n3)).rdC.1 (S8.out.set1 (wrap64 n3)).rdC.2 FV.out).mono ?_); rintro r w9 ⟨rfl, hb⟩; have S9 := asd ((S8.out.set1 (wrap64 n3)).called hb); clear hb; clear m0 m1 m2 m3 m4 x0 x1 x2 x3 y0 y1 y2 y3; obtain ⟨m0, m1, m2, m3, m4⟩ := S9.out.cells; obtain ⟨⟨x0, x1, x2, x3⟩, y0, y1, y2, y3⟩ := S9.out.fields)
    | fail)
   clear S8
   go_upto_region 12 with (first
    | (go_at_call 45; (refine (frame_Read_1.calls k e4 p4 2 n5 p5 e5 ge gb ga A1 c2 o _ (((S9.out.set2 n4).setP p4).setE e4).be (((S9.out.set2 n4).setP p4).setE e4).bb (((S9.out.set2 n4).setP p4).setE e4).bp (((S9.out.set2 n4).setP p4).setE e4).rdC.1 (((S9.out.set2 n4).setP p4).setE e4).rdC.2 F4.out).mono ?_); rintro r w10 ⟨rfl, he, hp, hk, hb⟩; have S10 := asd ((((S9.out.set2 n4).setP p4).setE e4).innerd he hp hk hb); clear he hp hk hb; clear m0 m1 m2 m3 m4 x0 x1 x2 x3 y0 y1 y2 y3; obtain ⟨m0, m1, m2, m3, m4⟩ := S10.out.cells; obtain ⟨⟨x0, x1, x2, x3⟩, y0, y1, y2, y3⟩ := S10.out.fields)
    | fail)
   clear S9
   have h := HH.out
   clear HH
   by_cases d1 : e5 = 0
   ·have d1b : (e5 != 0) = false := bne_eq_false_iff_eq.mpr d1
    by_cases d2 : n1 = 161
    ·have d2b : (n1 != 161) = false := bne_eq_false_iff_eq.mpr d2
     by_cases d3 : p5 = (o.length : Int)
     ·have d3b : (p5 != (o.length : Int)) = false := bne_eq_false_iff_eq.mpr d3
      rw [if_pos ⟨d1, d2, d3⟩] at h
      clear d1 d2 d3
      replace h := Option.bind_eq_some_iff.mp h
      obtain ⟨ck, fc, h⟩ := h
      have FC := asd fc
      clear fc
      by_cases d4 : ck = 0
      ·have d4b : (ck != 0) = false := bne_eq_false_iff_eq.mpr d4
       rw [if_pos d4] at h
       clear d4
       simp only [Option.some.injEq, Prod.mk.injEq] at h
       obtain ⟨rfl, rfl, rfl, rfl, rfl⟩ := h
       go_wp2_with (first
        | (go_at_call 48; (refine (frame_Check.calls k _ _ _ _ ck _ FC.out).mono ?_); rintro r w11 ⟨rfl, hb⟩; have S11 := asd ((S10.out.set3 (IntKind.u16.wrap n5)).called hb); clear hb; clear m0 m1 m2 m3 m4 x0 x1 x2 x3 y0 y1 y2 y3; obtain ⟨m0, m1, m2, m3, m4⟩ := S11.out.cells; obtain ⟨⟨x0, x1, x2, x3⟩, y0, y1, y2, y3⟩ := S11.out.fields)
        | fail)
       refine bodyPost_ret (results_ct rfl _ _ gs 43 #[.int .i64 (wrap64 n2), .int .i64 (wrap64 n3), .int .u64 n4, .int .u16 (IntKind.u16.wrap n5)] (0, 0) _ rfl ((((S11.out.set0 (wrap64 n2)).set1 (wrap64 n3)).set2 n4).set3 (IntKind.u16.wrap n5)).bs Tryz.underlying43 rfl (by kernel_rfl)) rfl ?_
       exact ⟨rfl, ((((S11.out.set0 (wrap64 n2)).set1 (wrap64 n3)).set2 n4).set3 (IntKind.u16.wrap n5)).bel⟩
      ·have d4b : (ck != 0) = true := bne_iff_ne.mpr d4
       rw [if_neg d4] at h
       clear d4
       simp only [Option.some.injEq, Prod.mk.injEq] at h
       obtain ⟨rfl, rfl, rfl, rfl, rfl⟩ := h
       go_wp2_with (first
        | (go_at_call 48; (refine (frame_Check.calls k _ _ _ _ ck _ FC.out).mono ?_); rintro r w11 ⟨rfl, hb⟩; have S11 := asd ((S10.out.set3 (IntKind.u16.wrap n5)).called hb); clear hb; clear m0 m1 m2 m3 m4 x0 x1 x2 x3 y0 y1 y2 y3; obtain ⟨m0, m1, m2, m3, m4⟩ := S11.out.cells; obtain ⟨⟨x0, x1, x2, x3⟩, y0, y1, y2, y3⟩ := S11.out.fields)
        | fail)
       refine bodyPost_ret (results_ct rfl _ _ gs 43 #[.int .i64 0, .int .i64 0, .int .u64 0, .int .u16 0] (0, 0) _ rfl (((((S11.out).set0 0).set1 0).set2 0).set3 0).bs Tryz.underlying43 rfl (by kernel_rfl)) rfl ?_
       exact ⟨rfl, (((((S11.out).set0 0).set1 0).set2 0).set3 0).bel⟩
     ·have d3b : (p5 != (o.length : Int)) = true := bne_iff_ne.mpr d3
      rw [if_neg (fun q => d3 q.2.2)] at h
      clear d1 d2 d3
      simp only [Option.some.injEq, Prod.mk.injEq] at h
      obtain ⟨rfl, rfl, rfl, rfl, rfl⟩ := h
      go_wp2_with (first
       | fail)
      refine bodyPost_ret (results_ct rfl _ _ gs 43 #[.int .i64 0, .int .i64 0, .int .u64 0, .int .u16 0] (0, 0) _ rfl (((((S10.out.set3 (IntKind.u16.wrap n5)).set0 0).set1 0).set2 0).set3 0).bs Tryz.underlying43 rfl (by kernel_rfl)) rfl ?_
      exact ⟨rfl, (((((S10.out.set3 (IntKind.u16.wrap n5)).set0 0).set1 0).set2 0).set3 0).bel⟩
    ·have d2b : (n1 != 161) = true := bne_iff_ne.mpr d2
     rw [if_neg (fun q => d2 q.2.1)] at h
     clear d1 d2
     simp only [Option.some.injEq, Prod.mk.injEq] at h
     obtain ⟨rfl, rfl, rfl, rfl, rfl⟩ := h
     go_wp2_with (first
      | fail)
     refine bodyPost_ret (results_ct rfl _ _ gs 43 #[.int .i64 0, .int .i64 0, .int .u64 0, .int .u16 0] (0, 0) _ rfl (((((S10.out.set3 (IntKind.u16.wrap n5)).set0 0).set1 0).set2 0).set3 0).bs Tryz.underlying43 rfl (by kernel_rfl)) rfl ?_
     exact ⟨rfl, (((((S10.out.set3 (IntKind.u16.wrap n5)).set0 0).set1 0).set2 0).set3 0).bel⟩
   ·have d1b : (e5 != 0) = true := bne_iff_ne.mpr d1
    rw [if_neg (fun q => d1 q.1)] at h
    clear d1
    simp only [Option.some.injEq, Prod.mk.injEq] at h
    obtain ⟨rfl, rfl, rfl, rfl, rfl⟩ := h
    go_wp2_with (first
     | fail)
    refine bodyPost_ret (results_ct rfl _ _ gs 43 #[.int .i64 0, .int .i64 0, .int .u64 0, .int .u16 0] (0, 0) _ rfl (((((S10.out.set3 (IntKind.u16.wrap n5)).set0 0).set1 0).set2 0).set3 0).bs Tryz.underlying43 rfl (by kernel_rfl)) rfl ?_
    exact ⟨rfl, (((((S10.out.set3 (IntKind.u16.wrap n5)).set0 0).set1 0).set2 0).set3 0).bel⟩
  ·rw [if_neg c3] at fv
   simp only [Option.some.injEq, Prod.mk.injEq] at fv
   obtain ⟨rfl, rfl, rfl⟩ := fv
   have c3b : (e3 == 0) = false := beq_eq_false_iff_ne.mpr c3
   obtain ⟨rfl, rfl, rfl⟩ : 0 = n5 ∧ p3 = p5 ∧ e3 = e5 := by
    have := F4.out
    unfold frame_Read_1.f at this
    rw [if_neg c3] at this
    simpa only [Option.some.injEq, Prod.mk.injEq] using this
   have d1b : (e3 != 0) = true := bne_iff_ne.mpr c3
   rw [if_neg (fun q => c3 q.1)] at h
   clear c3
   simp only [Option.some.injEq, Prod.mk.injEq] at h
   obtain ⟨rfl, rfl, rfl, rfl, rfl⟩ := h
   go_upto_region 11 with (first
    | fail)
   go_upto_region 12 with (first
    | (go_at_call 45; (refine (frame_Read_1.calls k e3 p3 2 0 p3 e3 ge gb ga A1 c2 o _ (S8.out.set1 (wrap64 n3)).be (S8.out.set1 (wrap64 n3)).bb (S8.out.set1 (wrap64 n3)).bp (S8.out.set1 (wrap64 n3)).rdC.1 (S8.out.set1 (wrap64 n3)).rdC.2 F4.out).mono ?_); rintro r w10 ⟨rfl, he, hp, hk, hb⟩; have S10 := asd ((S8.out.set1 (wrap64 n3)).innerd he hp hk hb); clear he hp hk hb; clear m0 m1 m2 m3 m4 x0 x1 x2 x3 y0 y1 y2 y3; obtain ⟨m0, m1, m2, m3, m4⟩ := S10.out.cells; obtain ⟨⟨x0, x1, x2, x3⟩, y0, y1, y2, y3⟩ := S10.out.fields)
    | fail)
   clear S8
   go_wp2_with (first
    | fail)
   refine bodyPost_ret (results_ct rfl _ _ gs 43 #[.int .i64 0, .int .i64 0, .int .u64 0, .int .u16 0] (0, 0) _ rfl (((((S10.out.set3 0).set0 0).set1 0).set2 0).set3 0).bs Tryz.underlying43 rfl (by kernel_rfl)) rfl ?_
   exact ⟨rfl, (((((S10.out.set3 0).set0 0).set1 0).set2 0).set3 0).bel⟩
 ·have c1b : (e0 != 0) = true := bne_iff_ne.mpr c1
  rw [if_neg c1] at h
  simp only [Option.some.injEq, Prod.mk.injEq] at h
  obtain ⟨rfl, rfl, rfl, rfl, rfl⟩ := h
  go_enter Tryz.func12, Tryz.ntmps12
  go_wp2_with (first
   | ((with_reducible refine gate_dst (N := 1) rfl ?_); refine bx (N := 1) (cs := #[.slice A0 l0.length c0]) (t := 33) ?_; intro gb hgb w1 hbox hb1; have BB := asd hbox; have HB1 := asd hb1; have HGB := asd hgb; have cb1 : w1.cell? ⟨gb, 0, none⟩ = some (.slice A0 l0.length c0) := (blk_cell hbox 0).trans rfl; clear hbox hb1 hgb)
   | ((with_reducible refine gate_dst (N := 2) rfl ?_); refine bx (N := 2) (cs := #[.int .i64 0, .int .i64 0, .int .u64 0, .int .u16 0]) (t := 43) ?_; intro gs hgs w2 hbox hb2; have BS := asd hbox; have HB2 := asd hb2; have HGS := asd hgs; have BB2 := asd (blk_below BB.out hb2); have cb2 : w2.cell? ⟨gb, 0, none⟩ = some (.slice A0 l0.length c0) := (blk_cell BB2.out 0).trans rfl; clear hbox hb2 hgs cb1)
   | (go_at_call 44; (refine (crc_Open24.calls A0 c0 l0 o e0 _ (Kd.C_below (Kd.C_below HR.out HB1.out) HB2.out) HC.out H1.out).mono ?_); rintro r w3 ⟨v, rfl, ho, hb3⟩; obtain ⟨A1, c2, ev⟩ := Kd.R_slice ho; subst ev; have HO := asd ho; have HB3 := asd hb3; have BB3 := asd (blk_below BB2.out hb3); have BS3 := asd (blk_below BS.out hb3); have cb3 : w3.cell? ⟨gb, 0, none⟩ = some (.slice A0 l0.length c0) := (blk_cell BB3.out 0).trans rfl; have fb3 : w3.frozen? ⟨gb, 0, none⟩ = false := blk_frozen BB3.out 0; clear ho hb3 cb2)
   | ((with_reducible refine gate_dst (N := 4) rfl ?_); refine bx (N := 4) (cs := #[.int .i64 0]) (t := 36) ?_; intro ge hge w4 hbox hb4; have BE := asd hbox; have HB4 := asd hb4; have HGE := asd hge; have BB4 := asd (blk_below BB3.out hb4); have BS4 := asd (blk_below BS3.out hb4); have cb4 : w4.cell? ⟨gb, 0, none⟩ = some (.slice A0 l0.length c0) := (blk_cell BB4.out 0).trans rfl; have fb4 : w4.frozen? ⟨gb, 0, none⟩ = false := blk_frozen BB4.out 0; have ce4 : w4.cell? ⟨ge, 0, none⟩ = some (.int .i64 0) := (blk_cell hbox 0).trans rfl; have fe4 : w4.frozen? ⟨ge, 0, none⟩ = false := blk_frozen hbox 0; have n1 : ge ≠ gb := blk_ne hbox BB4.out (by decide); have n2 : ge ≠ gs := blk_ne hbox BS4.out (by decide); have n3 : gb ≠ gs := blk_ne BB4.out BS4.out (by decide); have s0 : w4.cell? ⟨gs, 0, none⟩ = some (.int .i64 0) := (blk_cell BS4.out 0).trans rfl; have q0 : w4.frozen? ⟨gs, 0, none⟩ = false := blk_frozen BS4.out 0; have s1 : w4.cell? ⟨gs, 1, none⟩ = some (.int .i64 0) := (blk_cell BS4.out 1).trans rfl; have q1 : w4.frozen? ⟨gs, 1, none⟩ = false := blk_frozen BS4.out 1; have s2 : w4.cell? ⟨gs, 2, none⟩ = some (.int .u64 0) := (blk_cell BS4.out 2).trans rfl; have q2 : w4.frozen? ⟨gs, 2, none⟩ = false := blk_frozen BS4.out 2; have s3 : w4.cell? ⟨gs, 3, none⟩ = some (.int .u16 0) := (blk_cell BS4.out 3).trans rfl; have q3 : w4.frozen? ⟨gs, 3, none⟩ = false := blk_frozen BS4.out 3; clear hbox hb4 hge cb3 fb3)
   | fail)
  go_region
  all_goals (try go_wp2)
  refine bodyPost_ret (results_ct rfl _ _ gs 43 #[.int .i64 0, .int .i64 0, .int .u64 0, .int .u16 0] (0, 0) _ rfl (by (with_reducible repeat (first | refine blk_drewN ?_ _ | refine blk_drew ?_)); refine blk_put (cs := #[.int .i64 0, .int .i64 0, .int .u64 0, .int .u16 0]) ?_ 3 _ rfl; refine blk_put (cs := #[.int .i64 0, .int .i64 0, .int .u64 0, .int .u16 0]) ?_ 2 _ rfl; refine blk_put (cs := #[.int .i64 0, .int .i64 0, .int .u64 0, .int .u16 0]) ?_ 1 _ rfl; refine blk_put (cs := #[.int .i64 0, .int .i64 0, .int .u64 0, .int .u16 0]) ?_ 0 _ rfl; exact blk_far (blk_far BS4.out n3.symm _) n2.symm _) Tryz.underlying43 rfl (by kernel_rfl)) rfl ?_
  have z1 := HB1.out.size
  have z2 := HB2.out.size
  have z3 := HB3.out.size
  have hb := below_step (below_step (below_step HB1.out HB2.out) HB3.out) HB4.out
  have e1 := HGB.out
  have e2 := HGS.out
  have e3 := HGE.out
  exact ⟨by simp, by (with_reducible repeat (first | apply pw_below_drewN | apply below_drew1)); exact (((((hb.setCell (by show w.heap.size ≤ gb; omega) _).setCell (by show w.heap.size ≤ ge; omega) _).setCell (by show w.heap.size ≤ gs; omega) _).setCell (by show w.heap.size ≤ gs; omega) _).setCell (by show w.heap.size ≤ gs; omega) _).setCell (by show w.heap.size ≤ gs; omega) _⟩

-- NOT PRINTED: function 39 (node_run_joins)

theorem bits_Sub64.run (x y : Int) (w : World) : (callFunc 127 #[.int .u64 x, .int .u64 y, .int .u64 0]).run Tryz.prog w = .ok (.value (.tuple #[.int .u64 (sub64Lo x y), .int .u64 (sub64Hi x y)])) w := by
 rw [run_callFunc_extern Tryz.func127 (by kernel_rfl) (by kernel_rfl) (by kernel_rfl) (e := sub64Entry0) (by kernel_rfl)]
 exact sub64_run0 x y w




-- NOT PRINTED: function 41 (node_run_judges)


/-! ### node_Hear_1: function 38 -/
set_option maxHeartbeats 4000000 in
set_option maxRecDepth 100000 in
theorem node_owner.calls (g : Nat) (s : Rs) (dv av : Value) (n e : Int) (w0 w : World) (h : RSt w0 w g s dv av) (hf : medl_Owner.f s.m0 s.m1 s.m2 s.m3 s.m4 s.sl = some (n, e)) :
  Calls Tryz.prog 40 #[.pointer (some ⟨g, 0, none⟩)] w fun r w' => r = .returned (.int .i64 n) ∧ RSt w0 w' g (s.fl e) dv av ∧ Kr w w' g nov nov := by
 have H := asd h
 have HA := asd hf
 have hc14 := h.c14
 have hc15 := h.c15
 have hc16 := h.c16
 have hc17 := h.c17
 have hc18 := h.c18
 have hc2 := h.c2
 clear h hf
 go_enter Tryz.func40, Tryz.ntmps40
 go_wp2
 go_region_with (first | (go_at_call 16; (refine (medl_Owner.calls s.m0 s.m1 s.m2 s.m3 s.m4 s.sl n e _ HA.out).mono ?_); rintro r w1 ⟨rfl, hb⟩; have HB := asd hb; clear hb))
 all_goals (
  have H1 := asd (H.out.drew.below HB.out)
  have K1 := asd ((Kr.refl w g nov nov).drew.step HB.out)
  go_wp2_with (first | ((with_reducible refine gate_callee (f := 81) rfl ?_); refine gL (some 20) Tryz.func81 #[.pointer (some ⟨g, 0, none⟩), .int .i64 e] ?_; (with_reducible refine (node_fail.calls g s dv av e w0 _ H1.out).mono ?_); rintro r2 w2 ⟨rfl, hs, hk⟩; refine ⟨_, rfl, ?_⟩; have H2 := asd hs; have K2 := asd (K1.out.thenG hk); clear hs hk))
  go_ret
  exact ⟨rfl, H2.out, K2.out⟩)

/-- A call of alloc or box in a region that draws. -/
theorem boxV_ {P : Program} {ops : Array Oper} {Q : Exit → Act → World → Prop} {oi : Oper} {N : Tmp} {a : Act} {W : World} {K : Act → World → Prop} {cs : Array Value} {t : TypeId} (hw : Region.wanted oi (yielded ops a.tmps) = true) (hN : oi.dst = some N)
  (hrun : (execOp a.eval oi).run P W = .ok (.value (.pointer (some ⟨W.heap.size, 0, none⟩))) (W.alloc (.cells cs t (0, 0))))
  (h : ∀ g, g = W.heap.size → ∀ w1, w1.heap[g]? = some (.cells cs t (0, 0)) → Below W.heap.size W w1 → K (a.put (some N) (.pointer (some ⟨g, 0, none⟩))) w1) : if Region.wanted oi (yielded ops a.tmps) = true then Oper.wp P oi a W K Q else K (a.put (some N) undef) W :=
 value_ hw hN hrun (h _ rfl _ (blk_new W _) (below_alloc (Below.refl _ _) _))
theorem node_timer_ac {k : Nat} {s s2 : Rs} {ticks : Int} (h : node_timer.f k s ticks = some s2) : ∃ t, s2.ac = s.ac ++ [⟨1, t, z43, 0, 0⟩] := by
 unfold node_timer.f at h
 obtain ⟨⟨t, p, d, r, s1⟩, A1, h⟩ := Option.bind_eq_some_iff.mp h
 obtain rfl := Option.some.inj h
 exact ⟨t, by rw [← (node_at_ac A1).1]⟩
theorem act1 {w : World} {base : Nat} {ok : Nat → Prop} {v : Value} {xs : List S66} (h : Kd.R k66 66 w base ok v xs) (hl : xs.length = 2) : ∃ b c, v = .slice (some ⟨b, 0, none⟩) 2 c ∧ w.cell? ⟨b, 9, none⟩ = some (.int .i64 (xs.getD 1 ⟨0, 0, z43, 0, 0⟩).f1) := by
 obtain ⟨b, c, rfl, _, _, _⟩ := Kd.R_form h (by omega)
 refine ⟨b, c, by rw [hl], ?_⟩
 obtain ⟨cs, _, hM, hc, _⟩ := Kd.R_elem h ⟨0, 0, z43, 0, 0⟩ 1 (by decide) (by omega)
 rw [k66_openM hM] at hc
 exact hc 1 _ rfl
theorem below_of_kr {wS w w1 w0 : World} {gx m : Nat} {u : Value} (hb : Below wS.heap.size wS w) (hk : Kr w w1 gx nov u) (hg : wS.heap.size ≤ gx) (hu : ∀ k, u.ownBlock = some k → wS.heap.size ≤ k) (b1 : Below m w0 w) (b2 : Below m w0 w1) : Below wS.heap.size wS w1 :=
 ⟨b2.os.trans (b1.os.symm.trans hb.os), b2.tape.trans (b1.tape.symm.trans hb.tape), b2.output.trans (b1.output.symm.trans hb.output), Nat.le_trans hb.size hk.1, fun j hj => (hk.2 j (Nat.lt_of_lt_of_le hj hb.size) (by omega) (by simp [Value.ownBlock]) (fun e => absurd (hu j e.symm) (by omega))).trans (hb.block j hj)⟩
theorem At.own {n m : Nat} {v v1 : Value} (h : At n v v1) (ho : ∀ k, v.ownBlock = some k → m ≤ k) (hn : m ≤ n) : ∀ k, v1.ownBlock = some k → m ≤ k := by
 intro k hk
 rcases h with h | ⟨b, h, hb⟩
 ·exact ho k (h ▸ hk)
 ·rw [h] at hk
  injection hk with hk
  omega
section
variable {w0 w w1 : World} {g gx : Nat} {s x : Rs} {dv av du au : Value}
theorem RSt.krG (h : RSt w0 w gx x du au) (hG : RSt w0 w g s dv av) (hk : Kr w w1 g nov nov) (hb : Below w0.heap.size w0 w1) (hne : gx ≠ g) : RSt w0 w1 gx x du au :=
 ⟨hk.blk h.b hne (by simp [Value.ownBlock]) (by simp [Value.ownBlock]),
 Kd.R_mono (Kd.R_step (Kd.R_bound h.d) (fun k hk1 hlt => by
  obtain ⟨_, _, _, q, hq, cells, hc⟩ := hk1
  exact hk.2 k hlt (blk_ne hc hG.b ((by decide : ∀ q, q ∈ 2 :: (Kd.int .i64).E → q ≠ 77) q hq)) (by simp [Value.ownBlock]) (by simp [Value.ownBlock]))) (fun k hk => hk.1),
 Kd.R_mono (Kd.R_step (Kd.R_bound h.a) (fun k hk1 hlt => by
  obtain ⟨_, _, _, q, hq, cells, hc⟩ := hk1
  exact hk.2 k hlt (blk_ne hc hG.b ((by decide : ∀ q, q ∈ 66 :: k66.E → q ≠ 77) q hq)) (by simp [Value.ownBlock]) (by simp [Value.ownBlock]))) (fun k hk => hk.1), hb, h.ge⟩
theorem RSt.wrOther (h : RSt w0 w gx x du au) (hG : RSt w0 w g s dv av) (q : Wr g w w1) (hne : gx ≠ g) : RSt w0 w1 gx x du au :=
 ⟨q.blk h.b hne, q.row hG.b (by decide) h.d, q.row hG.b (by decide) h.a, h.bel.trans (q.be _ hG.ge), h.ge⟩
theorem RSt.setAc (h : RSt w0 w g s dv av) (l : List S66) (u : Value) (hu : Kd.R k66 66 w w0.heap.size (fun _ => True) u l) : RSt w0 (w.setCell ⟨g, 19, none⟩ u) g { s with ac := l } dv u :=
 ⟨blk_set h.b 19 _, Kd.R_set h.d h.b (by decide) 19 _, Kd.R_set hu h.b (by decide) 19 _, h.bel.setCell h.ge _, h.ge⟩
end
/-- A node that joins. -/
def node_joins.x (s : Rs) (began lead me fs : Int) : Rs := { id := s.id, ph := 2, sl := fs, st := wrap64 (began - lead), op := s.op, od := s.od, orr := s.orr, co := 0, me := me, tg := 1, tb := 0, ds := [0], se := false, ve := 1, m0 := s.m0, m1 := s.m1, m2 := s.m2, m3 := s.m3, m4 := s.m4, ac := [⟨3, 0, z43, 3, wrap64 fs⟩], er := 0 }
/-- A frame by which a node joins. -/
def node_joins.f (k : Nat) (s : Rs) (now began fk ff fs fm : Int) : Option Rs :=
 (medl_Owner.f s.m0 s.m1 s.m2 s.m3 s.m4 fs).bind fun o => if o.2 = 0 then (if o.1 = ff then
  (osc_Run.f k s.op s.od s.orr s.m2).bind fun a => if began < a.1 then some (s.fl a.2.2.2.2) else
  (frame_With.f fm ff).bind fun t1 => (frame_Without.f t1 s.id).bind fun me =>
  (node_timer.f k (node_joins.x s began a.1 me fs) s.m1).bind fun x =>
  some (if now < (x.ac.getD 1 ⟨0, 0, z43, 0, 0⟩).f1 then { x with m0 := s.m0, m1 := s.m1, m2 := s.m2, m3 := s.m3, m4 := s.m4, er := ((s.fl a.2.2.2.2).fl x.er).er } else (s.fl a.2.2.2.2).fl x.er)
 else some s) else some s
set_option maxHeartbeats 8000000 in
set_option maxRecDepth 100000 in
theorem node_joins.calls (k : Nat) (g : Nat) (s s2 : Rs) (dv av : Value) (now began fk ff fs fm : Int) (w0 w : World) (h : RSt w0 w g s dv av) (hf : node_joins.f k s now began fk ff fs fm = some s2) :
  Calls Tryz.prog 39 #[.pointer (some ⟨g, 0, none⟩), .int .i64 now, .int .i64 began, .agg #[.int .i64 fk, .int .i64 ff, .int .u64 fs, .int .u16 fm]] w fun e w' => e = .returned (.tuple #[]) ∧ (∃ dv' av', RSt w0 w' g s2 dv' av') ∧ Kr w w' g dv av := by
 unfold node_joins.f at hf
 obtain ⟨⟨own, e1⟩, A1, hf⟩ := Option.bind_eq_some_iff.mp hf
 have HA1 := asd A1
 have W0 := asd h.bel
 have H := asd h
 have K := asd (Kr.refl w g dv av)
 have AD := asd (At.refl w.heap.size dv)
 have AA := asd (At.refl w.heap.size av)
 dsimp only at hf
 have HF := asd hf
 clear h A1 hf
 go_enter Tryz.func39, Tryz.ntmps39
 go_wp2_with (first | ((with_reducible refine gate_dst (N := 7) rfl ?_); refine bx (N := 7) (cs := #[.int .i64 fk, .int .i64 ff, .int .u64 fs, .int .u16 fm]) (t := 43) ?_; intro gb7 hg wx1 hbox hb; have N7_g := asd (by rw [hg]; exact Nat.ne_of_gt (blk_lt H.out.b) : gb7 ≠ g); replace H := asd (H.out.below hb); replace K := asd (K.out.step hb); have B7 := asd hbox; clear hb hbox hg; obtain ⟨hb7_0, hg7_0, hb7_1, hg7_1, hb7_2, hg7_2, hb7_3, hg7_3⟩ := ca4 B7))
 refine start_ (n := 12) (S := fun w' => w'.cell? ⟨g, 14, none⟩ = some (.int .i64 s.m0) ∧ w'.cell? ⟨g, 15, none⟩ = some (.int .i64 s.m1) ∧ w'.cell? ⟨g, 16, none⟩ = some (.int .i64 s.m2) ∧ w'.cell? ⟨g, 17, none⟩ = some (.int .i64 s.m3) ∧ w'.cell? ⟨g, 18, none⟩ = some (.int .i64 s.m4) ∧ w'.cell? ⟨gb7, 2, none⟩ = some (.int .u64 fs)) (ds := []) (fb 12 0) (by kernel_rfl) rfl rfl ⟨H.out.c14, H.out.c15, H.out.c16, H.out.c17, H.out.c18, (blk_cell B7.out 2).trans rfl⟩ (fun hHeld => ?_)
 replace B7 := asd (blk_drew B7.out)
 replace H := asd (H.out.drew)
 replace K := asd (K.out.drew)
 generalize (wx1).drew = wd2 at B7 H K hHeld ⊢
 refine pz (i := 0) (N := some 14) (fb 12 1) ?_
 refine pz (i := 1) (N := some 15) (fb 12 3) ?_
 refine pz (i := 2) (N := some 16) (fb 12 7) ?_
 refine tz (i := 3) (N := some 17) (fb 12 15) hHeld ?_
 refine pz (i := 4) (N := some 18) (fb 12 31) ?_
 refine tz (i := 5) (N := some 19) (fb 12 63) hHeld ?_
 refine one_ (i := 6) (N := some 20) (fb 12 127) rfl rfl (by kernel_rfl) (by decide) (fun K_ hK_ => ?_)
 refine goesV_ Tryz.func16 (by kernel_rfl) rfl #[.agg #[.int .i64 s.m0, .int .i64 s.m1, .int .i64 s.m2, .int .i64 s.m3, .int .i64 s.m4], .int .u64 fs] (by rfl) rfl rfl (by first | rfl | (simp; done) | (go_simp; done)) (by (try simp only [List.map_toArray, List.map_cons, List.map_nil]); first | done | rfl) ?_
 with_reducible refine (medl_Owner.calls s.m0 s.m1 s.m2 s.m3 s.m4 fs own e1 _ HA1.out).mono ?_
 rintro e wx3 ⟨rfl, hb⟩
 refine ⟨_, rfl, ?_⟩
 replace B7 := asd (blk_below B7.out hb)
 replace H := asd (H.out.below hb)
 replace K := asd (K.out.step hb)
 clear hb
 refine hK_.out _ _ ⟨H.out.c14, H.out.c15, H.out.c16, H.out.c17, H.out.c18, (blk_cell B7.out 2).trans rfl⟩ (fun hHeld => ?_)
 clear hK_ K_
 refine pz (i := 7) (N := some 13) (fb 12 255) ?_
 refine pz (i := 8) (N := some 21) (fb 12 511) ?_
 refine pz (i := 9) (N := some 22) (fb 12 1023) ?_
 refine pz (i := 10) (N := some 8) (fb 12 2047) ?_
 refine pz (i := 11) (N := some 9) (fb 12 4095) ?_
 refine done_ (by kernel_rfl) ?_
 clear hb7_0 hg7_0 hb7_1 hg7_1 hb7_2 hg7_2 hb7_3 hg7_3
 obtain ⟨hb7_0, hg7_0, hb7_1, hg7_1, hb7_2, hg7_2, hb7_3, hg7_3⟩ := ca4 B7
 by_cases c1 : e1 = 0
 ·have c1a : (e1 != 0) = false := bne_eq_false_iff_eq.mpr c1
  by_cases c2 : own = ff
  ·have c2a : (own != ff) = false := bne_eq_false_iff_eq.mpr c2
   have hf := HF.out
   rw [if_pos c1, if_pos c2] at hf
   obtain ⟨⟨lead, p_, d_, r_, e3⟩, A3, hf⟩ := Option.bind_eq_some_iff.mp hf
   have HA3 := asd A3
   dsimp only at hf
   have HG := asd hf
   clear A3 hf HF
   go_wp2
   refine start_ (n := 19) (S := fun w' => w'.cell? ⟨g, 4, none⟩ = some (.int .i64 s.op) ∧ w'.cell? ⟨g, 5, none⟩ = some (.int .i64 s.od) ∧ w'.cell? ⟨g, 6, none⟩ = some (.int .i64 s.orr) ∧ w'.cell? ⟨g, 16, none⟩ = some (.int .i64 s.m2) ∧ w'.cell? ⟨gb7, 0, none⟩ = some (.int .i64 fk)) (ds := []) (fb 19 0) (by kernel_rfl) rfl rfl ⟨H.out.c4, H.out.c5, H.out.c6, H.out.c16, (blk_cell B7.out 0).trans rfl⟩ (fun hHeld => ?_)
   replace B7 := asd (blk_drew B7.out)
   replace H := asd (H.out.drew)
   replace K := asd (K.out.drew)
   generalize (wx3).drew = wd4 at B7 H K hHeld ⊢
   refine pz (i := 0) (N := some 32) (fb 19 1) ?_
   refine pz (i := 1) (N := some 33) (fb 19 3) ?_
   refine pz (i := 2) (N := some 34) (fb 19 7) ?_
   refine pz (i := 3) (N := some 35) (fb 19 15) ?_
   refine tz (i := 4) (N := some 36) (fb 19 31) hHeld ?_
   refine pz (i := 5) (N := some 37) (fb 19 63) ?_
   refine pz (i := 6) (N := some 38) (fb 19 127) ?_
   refine pz (i := 7) (N := some 39) (fb 19 255) ?_
   refine pz (i := 8) (N := some 40) (fb 19 511) ?_
   refine tz (i := 9) (N := some 41) (fb 19 1023) hHeld ?_
   refine join_ (σ := Nat) 2 (fb 19 131071) (fun gb11 => [(42, .tuple #[.int .i64 lead, .agg #[.int .i64 p_, .int .i64 d_, .int .i64 r_], .int .i64 e3]), (31, .tuple #[.int .i64 lead, .agg #[.int .i64 p_, .int .i64 d_, .int .i64 r_], .int .i64 e3]), (43, .int .i64 lead), (44, .agg #[.int .i64 p_, .int .i64 d_, .int .i64 r_]), (45, .int .i64 e3), (11, .pointer (some ⟨gb11, 0, none⟩)), (10, .int .i64 lead)]) (fun gb11 w' => RSt w0 w' g s dv av ∧ Kr w w' g dv av ∧ w'.heap[gb7]? = some (.cells #[.int .i64 fk, .int .i64 ff, .int .u64 fs, .int .u16 fm] 43 (0, 0)) ∧ w'.heap[gb11]? = some (.cells #[.int .i64 0, .int .i64 0, .int .i64 0] 26 (0, 0)) ∧ w.heap.size ≤ gb11) ?_ ?_
   rotate_left
   ·intro hJ
    refine two_ (i := 10) (j := 15) (Ni := some 42) (Nj := some 11) (fb 19 2047) (fb 19 33791) rfl rfl rfl rfl (by kernel_rfl) (by decide) (by decide) (fun K_ hK_ => ?_) (fun K_ hK_ => ?_)
    ·refine goesV_ Tryz.func80 (by kernel_rfl) rfl #[.agg #[.int .i64 s.op, .int .i64 s.od, .int .i64 s.orr], .int .i64 s.m2] (by rfl) rfl rfl (by first | rfl | (simp; done) | (go_simp; done)) (by (try simp only [List.map_toArray, List.map_cons, List.map_nil]); first | done | rfl) ?_
     with_reducible refine (osc_Run.calls k s.op s.od s.orr s.m2 lead p_ d_ r_ e3 _ HA3.out).mono ?_
     rintro e wx5 ⟨rfl, hb⟩
     refine ⟨_, rfl, ?_⟩
     replace B7 := asd (blk_below B7.out hb)
     replace H := asd (H.out.below hb)
     replace K := asd (K.out.step hb)
     clear hb
     refine hK_.out _ _ ⟨H.out.c4, H.out.c5, H.out.c6, H.out.c16, (blk_cell B7.out 0).trans rfl⟩ (fun hHeld => ?_)
     clear hK_ K_
     refine pz (i := 11) (N := some 31) (fb 19 4095) ?_
     refine pz (i := 12) (N := some 43) (fb 19 8191) ?_
     refine pz (i := 13) (N := some 44) (fb 19 16383) ?_
     refine pz (i := 14) (N := some 45) (fb 19 32767) ?_
     refine one_ (i := 15) (N := some 11) (fb 19 65535) rfl rfl (by kernel_rfl) (by decide) (fun K_ hK_ => ?_)
     refine boxV_ (N := 11) (cs := #[.int .i64 0, .int .i64 0, .int .i64 0]) (t := 26) (by rfl) rfl ?hr ?_
     (case hr => first | (go_simp; done) | (go_simp; rfl))
     intro gb11 hg wx6 hbox hb
     have G11 := asd (by rw [hg]; exact K.out.1 : w.heap.size ≤ gb11)
     have N11_g := asd (by rw [hg]; exact Nat.ne_of_gt (blk_lt H.out.b) : gb11 ≠ g)
     replace B7 := asd (blk_below B7.out hb)
     replace H := asd (H.out.below hb)
     replace K := asd (K.out.step hb)
     have B11 := asd hbox
     clear hb hbox hg
     refine hK_.out _ _ ⟨H.out.c4, H.out.c5, H.out.c6, H.out.c16, (blk_cell B7.out 0).trans rfl⟩ (fun hHeld => ?_)
     clear hK_ K_
     refine pz (i := 16) (N := some 10) (fb 19 131071) ?_
     exact norm_ (by rfl) (hJ _ _ ⟨H.out, K.out, B7.out, B11.out, G11.out⟩)
    ·refine boxV_ (N := 11) (cs := #[.int .i64 0, .int .i64 0, .int .i64 0]) (t := 26) (by rfl) rfl ?hr ?_
     (case hr => first | (go_simp; done) | (go_simp; rfl))
     intro gb11 hg wx5 hbox hb
     have G11 := asd (by rw [hg]; exact K.out.1 : w.heap.size ≤ gb11)
     have N11_g := asd (by rw [hg]; exact Nat.ne_of_gt (blk_lt H.out.b) : gb11 ≠ g)
     replace B7 := asd (blk_below B7.out hb)
     replace H := asd (H.out.below hb)
     replace K := asd (K.out.step hb)
     have B11 := asd hbox
     clear hb hbox hg
     refine hK_.out _ _ ⟨H.out.c4, H.out.c5, H.out.c6, H.out.c16, (blk_cell B7.out 0).trans rfl⟩ (fun hHeld => ?_)
     clear hK_ K_
     refine one_ (i := 10) (N := some 42) (fb 19 34815) rfl rfl (by kernel_rfl) (by decide) (fun K_ hK_ => ?_)
     refine goesV_ Tryz.func80 (by kernel_rfl) rfl #[.agg #[.int .i64 s.op, .int .i64 s.od, .int .i64 s.orr], .int .i64 s.m2] (by rfl) rfl rfl (by first | rfl | (simp; done) | (go_simp; done)) (by (try simp only [List.map_toArray, List.map_cons, List.map_nil]); first | done | rfl) ?_
     with_reducible refine (osc_Run.calls k s.op s.od s.orr s.m2 lead p_ d_ r_ e3 _ HA3.out).mono ?_
     rintro e wx6 ⟨rfl, hb⟩
     refine ⟨_, rfl, ?_⟩
     replace B7 := asd (blk_below B7.out hb)
     replace B11 := asd (blk_below B11.out hb)
     replace H := asd (H.out.below hb)
     replace K := asd (K.out.step hb)
     clear hb
     refine hK_.out _ _ ⟨H.out.c4, H.out.c5, H.out.c6, H.out.c16, (blk_cell B7.out 0).trans rfl⟩ (fun hHeld => ?_)
     clear hK_ K_
     refine pz (i := 11) (N := some 31) (fb 19 36863) ?_
     refine pz (i := 12) (N := some 43) (fb 19 40959) ?_
     refine pz (i := 13) (N := some 44) (fb 19 49151) ?_
     refine pz (i := 14) (N := some 45) (fb 19 65535) ?_
     refine pz (i := 16) (N := some 10) (fb 19 131071) ?_
     exact norm_ (by rfl) (hJ _ _ ⟨H.out, K.out, B7.out, B11.out, G11.out⟩)
   intro gb11 wj7 hj_
   clear H K B7 hHeld
   obtain ⟨h1_, h2_, h3_, h4_, h5_⟩ := hj_
   have H := asd h1_
   have K := asd h2_
   have B7 := asd h3_
   have B11 := asd h4_
   have G11 := asd h5_
   have N11_g := asd (blk_ne h4_ h1_.b (by decide) : gb11 ≠ g)
   clear h1_ h2_ h3_ h4_ h5_
   refine norm_ (a' := ?_) ?_ ?_
   rotate_left
   ·simp only [putAll, Act.put, sqa, sqb, sqc, i64_w, i32_w]
    rfl
   refine one_ (i := 17) (N := none) (fb 19 262143) rfl rfl (by kernel_rfl) (by decide) (fun K_ hK_ => ?_)
   have hq0 : wj7.cell? ⟨gb11, 0, none⟩ = some (.int .i64 0) := (blk_cell B11.out 0).trans rfl
   have hr0 := blk_frozen B11.out 0
   have hq1 : wj7.cell? ⟨gb11, 1, none⟩ = some (.int .i64 0) := (blk_cell B11.out 1).trans rfl
   have hr1 := blk_frozen B11.out 1
   have hq2 : wj7.cell? ⟨gb11, 2, none⟩ = some (.int .i64 0) := (blk_cell B11.out 2).trans rfl
   have hr2 := blk_frozen B11.out 2
   refine skip_ (w1 := ?_) (by rfl) rfl ?_ ?_
   rotate_left
   ·go_simp
    rfl
   have q_ := ((((Wr.refl gb11 wj7).set 0 (.int .i64 p_)).set 1 (.int .i64 d_)).set 2 (.int .i64 r_))
   replace B7 := asd (q_.blk B7.out (blk_ne B7.out B11.out (by decide)))
   replace H := asd (q_.run B11.out (by decide) (by decide) (by decide) (Nat.le_trans W0.out.size G11.out) H.out)
   replace B11 := asd (show (World.heap _)[gb11]? = some (Obj.cells #[.int .i64 p_, .int .i64 d_, .int .i64 r_] 26 (0, 0)) from (blk_put (cs := #[.int .i64 p_, .int .i64 d_, .int .i64 0]) (blk_put (cs := #[.int .i64 p_, .int .i64 0, .int .i64 0]) (blk_put (cs := #[.int .i64 0, .int .i64 0, .int .i64 0]) B11.out 0 (.int .i64 p_) rfl) 1 (.int .i64 d_) rfl) 2 (.int .i64 r_) rfl))
   replace K := asd (K.out.wrNew q_ G11.out)
   clear q_ hq0 hr0 hq1 hr1 hq2 hr2
   generalize (((wj7.setCell ⟨gb11, 0, none⟩ (.int .i64 p_)).setCell ⟨gb11, 1, none⟩ (.int .i64 d_)).setCell ⟨gb11, 2, none⟩ (.int .i64 r_)) = wy8 at B7 B11 H K ⊢
   refine hK_.out _ _ ⟨H.out.c4, H.out.c5, H.out.c6, H.out.c16, (blk_cell B7.out 0).trans rfl⟩ (fun hHeld => ?_)
   clear hK_ K_
   refine pz (i := 18) (N := some 9) (fb 19 524287) ?_
   refine done_ (by kernel_rfl) ?_
   by_cases c3 : began < lead
   ·have c3a : decide (began < lead) = true := decide_eq_true c3
    have hf := HG.out
    rw [if_pos c3] at hf
    obtain rfl := Option.some.inj hf
    go_wp2_with (first | ((with_reducible refine gate_callee (f := 81) rfl ?_); refine gL (some 48) Tryz.func81 #[.pointer (some ⟨g, 0, none⟩), .int .i64 e3] ?_; (with_reducible refine (node_fail.calls g s dv av e3 w0 _ H.out).mono ?_); rintro e wx9 ⟨rfl, hs, hk⟩; refine ⟨_, rfl, ?_⟩; clear B11; replace K := asd (K.out.thenG hk); replace H := asd (hs); replace B7 := asd (hk.blk B7.out N7_g.out (by simp [Value.ownBlock]) (by simp [Value.ownBlock])); clear hs hk))
    first | go_end0 | go_ret | ((try simp only [Exit.inBlock, Exit.then]); refine bodyPost_ret (results_none rfl _ _ _) rfl ?_)
    exact ⟨rfl, ⟨_, _, H.out⟩, K.out⟩
   ·have c3a : decide (began < lead) = false := decide_eq_false c3
    have hf := HG.out
    rw [if_neg c3] at hf
    obtain ⟨t1, A4, hf⟩ := Option.bind_eq_some_iff.mp hf
    obtain ⟨me, A5, hf⟩ := Option.bind_eq_some_iff.mp hf
    obtain ⟨x, A6, hf⟩ := Option.bind_eq_some_iff.mp hf
    have HW1 := asd A4
    have HW2 := asd A5
    have HT := asd A6
    have HZ := asd (Option.some.inj hf)
    clear hf A4 A5 A6 HG
    go_wp2_with (first | ((with_reducible refine gate_callee (f := 81) rfl ?_); refine gL (some 48) Tryz.func81 #[.pointer (some ⟨g, 0, none⟩), .int .i64 e3] ?_; (with_reducible refine (node_fail.calls g s dv av e3 w0 _ H.out).mono ?_); rintro e wx9 ⟨rfl, hs, hk⟩; refine ⟨_, rfl, ?_⟩; clear B11; replace K := asd (K.out.thenG hk); replace H := asd (hs); replace B7 := asd (hk.blk B7.out N7_g.out (by simp [Value.ownBlock]) (by simp [Value.ownBlock])); clear hs hk))
    refine start_ (n := 36) (S := fun w' => w'.cell? ⟨g, 0, none⟩ = some (.int .i64 s.id) ∧ w'.cell? ⟨g, 4, none⟩ = some (.int .i64 s.op) ∧ w'.cell? ⟨g, 5, none⟩ = some (.int .i64 s.od) ∧ w'.cell? ⟨g, 6, none⟩ = some (.int .i64 s.orr) ∧ w'.cell? ⟨g, 14, none⟩ = some (.int .i64 s.m0) ∧ w'.cell? ⟨g, 15, none⟩ = some (.int .i64 s.m1) ∧ w'.cell? ⟨g, 16, none⟩ = some (.int .i64 s.m2) ∧ w'.cell? ⟨g, 17, none⟩ = some (.int .i64 s.m3) ∧ w'.cell? ⟨g, 18, none⟩ = some (.int .i64 s.m4) ∧ w'.cell? ⟨gb7, 1, none⟩ = some (.int .i64 ff) ∧ w'.cell? ⟨gb7, 2, none⟩ = some (.int .u64 fs) ∧ w'.cell? ⟨gb7, 3, none⟩ = some (.int .u16 fm)) (ds := []) (fb 36 0) (by kernel_rfl) rfl rfl ⟨(by have q := H.out.drew.c0; simp only [Rs.fls] at q; exact q), (by have q := H.out.drew.c4; simp only [Rs.fls] at q; exact q), (by have q := H.out.drew.c5; simp only [Rs.fls] at q; exact q), (by have q := H.out.drew.c6; simp only [Rs.fls] at q; exact q), (by have q := H.out.drew.c14; simp only [Rs.fls] at q; exact q), (by have q := H.out.drew.c15; simp only [Rs.fls] at q; exact q), (by have q := H.out.drew.c16; simp only [Rs.fls] at q; exact q), (by have q := H.out.drew.c17; simp only [Rs.fls] at q; exact q), (by have q := H.out.drew.c18; simp only [Rs.fls] at q; exact q), (blk_cell (blk_drew B7.out) 1).trans rfl, (blk_cell (blk_drew B7.out) 2).trans rfl, (blk_cell (blk_drew B7.out) 3).trans rfl⟩ (fun hHeld => ?_)
    replace H := asd (H.out.drew)
    replace K := asd (K.out.drew)
    replace B7 := asd (blk_drew B7.out)
    generalize (wx9).drew = wS at H K B7 hHeld ⊢
    have HB := asd (Below.refl wS.heap.size wS)
    refine pz (i := 0) (N := some 52) (fb 36 1) ?_
    refine pz (i := 1) (N := some 53) (fb 36 3) ?_
    refine pz (i := 2) (N := some 54) (fb 36 7) ?_
    refine tz (i := 3) (N := some 55) (fb 36 15) hHeld ?_
    refine pz (i := 4) (N := some 56) (fb 36 31) ?_
    refine pz (i := 5) (N := some 57) (fb 36 63) ?_
    refine pz (i := 6) (N := some 58) (fb 36 127) ?_
    refine pz (i := 7) (N := some 59) (fb 36 255) ?_
    refine tz (i := 8) (N := some 60) (fb 36 511) hHeld ?_
    refine pz (i := 9) (N := some 61) (fb 36 1023) ?_
    refine pz (i := 10) (N := some 62) (fb 36 2047) ?_
    refine pz (i := 11) (N := some 63) (fb 36 4095) ?_
    refine pz (i := 12) (N := some 64) (fb 36 8191) ?_
    refine tz (i := 13) (N := some 65) (fb 36 16383) hHeld ?_
    refine pz (i := 14) (N := some 66) (fb 36 32767) ?_
    refine tz (i := 15) (N := some 67) (fb 36 65535) hHeld ?_
    refine pz (i := 16) (N := some 68) (fb 36 131071) ?_
    refine pz (i := 17) (N := some 69) (fb 36 262143) ?_
    refine pz (i := 18) (N := some 70) (fb 36 524287) ?_
    refine pz (i := 19) (N := some 71) (fb 36 1048575) ?_
    refine tz (i := 20) (N := some 72) (fb 36 2097151) hHeld ?_
    refine pz (i := 21) (N := some 73) (fb 36 4194303) ?_
    refine tz (i := 22) (N := some 74) (fb 36 8388607) hHeld ?_
    refine pz (i := 24) (N := some 76) (fb 36 25165823) ?_
    refine pz (i := 25) (N := some 77) (fb 36 58720255) ?_
    refine pz (i := 26) (N := some 78) (fb 36 125829119) ?_
    refine pz (i := 27) (N := some 79) (fb 36 260046847) ?_
    refine tz (i := 28) (N := some 80) (fb 36 528482303) hHeld ?_
    refine pz (i := 30) (N := some 82) (fb 36 1602224127) ?_
    refine join_ (σ := Option Addr × Nat) 2 (fb 36 17179869183) (fun vx => [(75, .int .u16 t1), (81, .int .u16 me), (83, .slice vx.1 1 vx.2), (84, .agg #[.int .i64 s.id, .int .i64 2, .int .u64 fs, .int .i64 (wrap64 (began - lead)), .int .i64 s.op, .int .i64 s.od, .int .i64 s.orr, .int .i64 0, .int .u16 me, .int .i64 1, .int .i64 0, .slice vx.1 1 vx.2, .bool false, .int .i64 1]), (85, .agg #[.int .i64 s.id, .int .i64 2, .int .u64 fs, .int .i64 (wrap64 (began - lead)), .int .i64 s.op, .int .i64 s.od, .int .i64 s.orr, .int .i64 0, .int .u16 me, .int .i64 1, .int .i64 0, .slice vx.1 1 vx.2, .bool false, .int .i64 1, .int .i64 s.m0, .int .i64 s.m1, .int .i64 s.m2, .int .i64 s.m3, .int .i64 s.m4, .slice none 0 0, .int .i64 0])]) (fun vx w' => Below wS.heap.size wS w' ∧ Kd.R (Kd.int .i64) 2 w' wS.heap.size (fun _ => True) (.slice vx.1 1 vx.2) [0]) ?_ ?_
    rotate_left
    ·intro hJ
     refine two_ (i := 23) (j := 31) (Ni := some 75) (Nj := some 83) (fb 36 1610612735) (fb 36 3749707775) rfl rfl rfl rfl (by kernel_rfl) (by decide) (by decide) (fun K_ hK_ => ?_) (fun K_ hK_ => ?_)
     ·refine goesV_ Tryz.func83 (by kernel_rfl) rfl #[.int .u16 fm, .int .i64 ff] (by rfl) rfl rfl (by first | rfl | (simp; done) | (go_simp; done)) (by (try simp only [List.map_toArray, List.map_cons, List.map_nil]); first | done | rfl) ?_
      with_reducible refine (frame_With.calls fm ff t1 _ HW1.out).mono ?_
      rintro e wx11 ⟨rfl, hb0⟩
      refine ⟨_, rfl, ?_⟩
      have hb := hb0.below
      clear hb0
      replace HB := asd (below_step HB.out hb)
      clear hb
      refine hK_.out _ _ ⟨(by have q := (H.out.below HB.out).c0; simp only [Rs.fls] at q; exact q), (by have q := (H.out.below HB.out).c4; simp only [Rs.fls] at q; exact q), (by have q := (H.out.below HB.out).c5; simp only [Rs.fls] at q; exact q), (by have q := (H.out.below HB.out).c6; simp only [Rs.fls] at q; exact q), (by have q := (H.out.below HB.out).c14; simp only [Rs.fls] at q; exact q), (by have q := (H.out.below HB.out).c15; simp only [Rs.fls] at q; exact q), (by have q := (H.out.below HB.out).c16; simp only [Rs.fls] at q; exact q), (by have q := (H.out.below HB.out).c17; simp only [Rs.fls] at q; exact q), (by have q := (H.out.below HB.out).c18; simp only [Rs.fls] at q; exact q), (blk_cell (blk_below B7.out HB.out) 1).trans rfl, (blk_cell (blk_below B7.out HB.out) 2).trans rfl, (blk_cell (blk_below B7.out HB.out) 3).trans rfl⟩ (fun hHeld => ?_)
      clear hK_ K_
      refine two_ (i := 29) (j := 31) (Ni := some 81) (Nj := some 83) (fb 36 2147483647) (fb 36 3758096383) rfl rfl rfl rfl (by kernel_rfl) (by decide) (by decide) (fun K_ hK_ => ?_) (fun K_ hK_ => ?_)
      ·refine goesV_ Tryz.func82 (by kernel_rfl) rfl #[.int .u16 t1, .int .i64 s.id] (by rfl) rfl rfl (by first | rfl | (simp; done) | (go_simp; done)) (by (try simp only [List.map_toArray, List.map_cons, List.map_nil]); first | done | rfl) ?_
       with_reducible refine (frame_Without.calls t1 s.id me _ HW2.out).mono ?_
       rintro e wx12 ⟨rfl, hb0⟩
       refine ⟨_, rfl, ?_⟩
       have hb := hb0.below
       clear hb0
       replace HB := asd (below_step HB.out hb)
       clear hb
       refine hK_.out _ _ ⟨(by have q := (H.out.below HB.out).c0; simp only [Rs.fls] at q; exact q), (by have q := (H.out.below HB.out).c4; simp only [Rs.fls] at q; exact q), (by have q := (H.out.below HB.out).c5; simp only [Rs.fls] at q; exact q), (by have q := (H.out.below HB.out).c6; simp only [Rs.fls] at q; exact q), (by have q := (H.out.below HB.out).c14; simp only [Rs.fls] at q; exact q), (by have q := (H.out.below HB.out).c15; simp only [Rs.fls] at q; exact q), (by have q := (H.out.below HB.out).c16; simp only [Rs.fls] at q; exact q), (by have q := (H.out.below HB.out).c17; simp only [Rs.fls] at q; exact q), (by have q := (H.out.below HB.out).c18; simp only [Rs.fls] at q; exact q), (blk_cell (blk_below B7.out HB.out) 1).trans rfl, (blk_cell (blk_below B7.out HB.out) 2).trans rfl, (blk_cell (blk_below B7.out HB.out) 3).trans rfl⟩ (fun hHeld => ?_)
       clear hK_ K_
       refine one_ (i := 31) (N := some 83) (fb 36 4294967295) rfl rfl (by kernel_rfl) (by decide) (fun K_ hK_ => ?_)
       refine Kd.R_lit_step (Kd.int .i64) (w0 := wS) wS.heap.size 2 (by rfl) (N := 83) ?hd (xs := ([0] : List Int)) (inner := [.int .i64 0]) (ok := fun _ => True) (okp := fun _ => True) ?hr ?hp (fun _ hk => hk) trivial HB.out HB.out.size (by simp) ?_
       (case hd => rfl)
       (case hr => first | (go_simp; done) | (go_simp; rfl))
       (case hp => exact (Reps.one (show Kd.M (Kd.int .i64) _ _ _ 0 [.int .i64 0] from rfl) (Reps.none _ _)))
       intro vx wx13 ho hb hg_ hnew_
       clear hg_ hnew_ HB
       have HB := asd hb
       have RL := asd ho
       clear hb ho
       obtain ⟨Ax, cx, eo⟩ := Kd.R_slice RL.out
       subst eo
       refine hK_.out _ _ ⟨(by have q := (H.out.below HB.out).c0; simp only [Rs.fls] at q; exact q), (by have q := (H.out.below HB.out).c4; simp only [Rs.fls] at q; exact q), (by have q := (H.out.below HB.out).c5; simp only [Rs.fls] at q; exact q), (by have q := (H.out.below HB.out).c6; simp only [Rs.fls] at q; exact q), (by have q := (H.out.below HB.out).c14; simp only [Rs.fls] at q; exact q), (by have q := (H.out.below HB.out).c15; simp only [Rs.fls] at q; exact q), (by have q := (H.out.below HB.out).c16; simp only [Rs.fls] at q; exact q), (by have q := (H.out.below HB.out).c17; simp only [Rs.fls] at q; exact q), (by have q := (H.out.below HB.out).c18; simp only [Rs.fls] at q; exact q), (blk_cell (blk_below B7.out HB.out) 1).trans rfl, (blk_cell (blk_below B7.out HB.out) 2).trans rfl, (blk_cell (blk_below B7.out HB.out) 3).trans rfl⟩ (fun hHeld => ?_)
       clear hK_ K_
       refine pz (i := 32) (N := some 84) (fb 36 8589934591) ?_
       refine pz (i := 33) (N := some 85) (fb 36 17179869183) ?_
       exact norm_ (by rfl) (hJ (Ax, cx) _ ⟨HB.out, RL.out⟩)
      ·refine Kd.R_lit_step (Kd.int .i64) (w0 := wS) wS.heap.size 2 (by rfl) (N := 83) ?hd (xs := ([0] : List Int)) (inner := [.int .i64 0]) (ok := fun _ => True) (okp := fun _ => True) ?hr ?hp (fun _ hk => hk) trivial HB.out HB.out.size (by simp) ?_
       (case hd => rfl)
       (case hr => first | (go_simp; done) | (go_simp; rfl))
       (case hp => exact (Reps.one (show Kd.M (Kd.int .i64) _ _ _ 0 [.int .i64 0] from rfl) (Reps.none _ _)))
       intro vx wx12 ho hb hg_ hnew_
       clear hg_ hnew_ HB
       have HB := asd hb
       have RL := asd ho
       clear hb ho
       obtain ⟨Ax, cx, eo⟩ := Kd.R_slice RL.out
       subst eo
       refine hK_.out _ _ ⟨(by have q := (H.out.below HB.out).c0; simp only [Rs.fls] at q; exact q), (by have q := (H.out.below HB.out).c4; simp only [Rs.fls] at q; exact q), (by have q := (H.out.below HB.out).c5; simp only [Rs.fls] at q; exact q), (by have q := (H.out.below HB.out).c6; simp only [Rs.fls] at q; exact q), (by have q := (H.out.below HB.out).c14; simp only [Rs.fls] at q; exact q), (by have q := (H.out.below HB.out).c15; simp only [Rs.fls] at q; exact q), (by have q := (H.out.below HB.out).c16; simp only [Rs.fls] at q; exact q), (by have q := (H.out.below HB.out).c17; simp only [Rs.fls] at q; exact q), (by have q := (H.out.below HB.out).c18; simp only [Rs.fls] at q; exact q), (blk_cell (blk_below B7.out HB.out) 1).trans rfl, (blk_cell (blk_below B7.out HB.out) 2).trans rfl, (blk_cell (blk_below B7.out HB.out) 3).trans rfl⟩ (fun hHeld => ?_)
       clear hK_ K_
       refine one_ (i := 29) (N := some 81) (fb 36 4294967295) rfl rfl (by kernel_rfl) (by decide) (fun K_ hK_ => ?_)
       refine goesV_ Tryz.func82 (by kernel_rfl) rfl #[.int .u16 t1, .int .i64 s.id] (by rfl) rfl rfl (by first | rfl | (simp; done) | (go_simp; done)) (by (try simp only [List.map_toArray, List.map_cons, List.map_nil]); first | done | rfl) ?_
       with_reducible refine (frame_Without.calls t1 s.id me _ HW2.out).mono ?_
       rintro e wx13 ⟨rfl, hb0⟩
       refine ⟨_, rfl, ?_⟩
       have hb := hb0.below
       clear hb0
       replace HB := asd (below_step HB.out hb)
       replace RL := asd (Kd.R_below RL.out hb)
       clear hb
       refine hK_.out _ _ ⟨(by have q := (H.out.below HB.out).c0; simp only [Rs.fls] at q; exact q), (by have q := (H.out.below HB.out).c4; simp only [Rs.fls] at q; exact q), (by have q := (H.out.below HB.out).c5; simp only [Rs.fls] at q; exact q), (by have q := (H.out.below HB.out).c6; simp only [Rs.fls] at q; exact q), (by have q := (H.out.below HB.out).c14; simp only [Rs.fls] at q; exact q), (by have q := (H.out.below HB.out).c15; simp only [Rs.fls] at q; exact q), (by have q := (H.out.below HB.out).c16; simp only [Rs.fls] at q; exact q), (by have q := (H.out.below HB.out).c17; simp only [Rs.fls] at q; exact q), (by have q := (H.out.below HB.out).c18; simp only [Rs.fls] at q; exact q), (blk_cell (blk_below B7.out HB.out) 1).trans rfl, (blk_cell (blk_below B7.out HB.out) 2).trans rfl, (blk_cell (blk_below B7.out HB.out) 3).trans rfl⟩ (fun hHeld => ?_)
       clear hK_ K_
       refine pz (i := 32) (N := some 84) (fb 36 8589934591) ?_
       refine pz (i := 33) (N := some 85) (fb 36 17179869183) ?_
       exact norm_ (by rfl) (hJ (Ax, cx) _ ⟨HB.out, RL.out⟩)
     ·refine Kd.R_lit_step (Kd.int .i64) (w0 := wS) wS.heap.size 2 (by rfl) (N := 83) ?hd (xs := ([0] : List Int)) (inner := [.int .i64 0]) (ok := fun _ => True) (okp := fun _ => True) ?hr ?hp (fun _ hk => hk) trivial HB.out HB.out.size (by simp) ?_
      (case hd => rfl)
      (case hr => first | (go_simp; done) | (go_simp; rfl))
      (case hp => exact (Reps.one (show Kd.M (Kd.int .i64) _ _ _ 0 [.int .i64 0] from rfl) (Reps.none _ _)))
      intro vx wx11 ho hb hg_ hnew_
      clear hg_ hnew_ HB
      have HB := asd hb
      have RL := asd ho
      clear hb ho
      obtain ⟨Ax, cx, eo⟩ := Kd.R_slice RL.out
      subst eo
      refine hK_.out _ _ ⟨(by have q := (H.out.below HB.out).c0; simp only [Rs.fls] at q; exact q), (by have q := (H.out.below HB.out).c4; simp only [Rs.fls] at q; exact q), (by have q := (H.out.below HB.out).c5; simp only [Rs.fls] at q; exact q), (by have q := (H.out.below HB.out).c6; simp only [Rs.fls] at q; exact q), (by have q := (H.out.below HB.out).c14; simp only [Rs.fls] at q; exact q), (by have q := (H.out.below HB.out).c15; simp only [Rs.fls] at q; exact q), (by have q := (H.out.below HB.out).c16; simp only [Rs.fls] at q; exact q), (by have q := (H.out.below HB.out).c17; simp only [Rs.fls] at q; exact q), (by have q := (H.out.below HB.out).c18; simp only [Rs.fls] at q; exact q), (blk_cell (blk_below B7.out HB.out) 1).trans rfl, (blk_cell (blk_below B7.out HB.out) 2).trans rfl, (blk_cell (blk_below B7.out HB.out) 3).trans rfl⟩ (fun hHeld => ?_)
      clear hK_ K_
      refine one_ (i := 23) (N := some 75) (fb 36 3758096383) rfl rfl (by kernel_rfl) (by decide) (fun K_ hK_ => ?_)
      refine goesV_ Tryz.func83 (by kernel_rfl) rfl #[.int .u16 fm, .int .i64 ff] (by rfl) rfl rfl (by first | rfl | (simp; done) | (go_simp; done)) (by (try simp only [List.map_toArray, List.map_cons, List.map_nil]); first | done | rfl) ?_
      with_reducible refine (frame_With.calls fm ff t1 _ HW1.out).mono ?_
      rintro e wx12 ⟨rfl, hb0⟩
      refine ⟨_, rfl, ?_⟩
      have hb := hb0.below
      clear hb0
      replace HB := asd (below_step HB.out hb)
      replace RL := asd (Kd.R_below RL.out hb)
      clear hb
      refine hK_.out _ _ ⟨(by have q := (H.out.below HB.out).c0; simp only [Rs.fls] at q; exact q), (by have q := (H.out.below HB.out).c4; simp only [Rs.fls] at q; exact q), (by have q := (H.out.below HB.out).c5; simp only [Rs.fls] at q; exact q), (by have q := (H.out.below HB.out).c6; simp only [Rs.fls] at q; exact q), (by have q := (H.out.below HB.out).c14; simp only [Rs.fls] at q; exact q), (by have q := (H.out.below HB.out).c15; simp only [Rs.fls] at q; exact q), (by have q := (H.out.below HB.out).c16; simp only [Rs.fls] at q; exact q), (by have q := (H.out.below HB.out).c17; simp only [Rs.fls] at q; exact q), (by have q := (H.out.below HB.out).c18; simp only [Rs.fls] at q; exact q), (blk_cell (blk_below B7.out HB.out) 1).trans rfl, (blk_cell (blk_below B7.out HB.out) 2).trans rfl, (blk_cell (blk_below B7.out HB.out) 3).trans rfl⟩ (fun hHeld => ?_)
      clear hK_ K_
      refine one_ (i := 29) (N := some 81) (fb 36 4294967295) rfl rfl (by kernel_rfl) (by decide) (fun K_ hK_ => ?_)
      refine goesV_ Tryz.func82 (by kernel_rfl) rfl #[.int .u16 t1, .int .i64 s.id] (by rfl) rfl rfl (by first | rfl | (simp; done) | (go_simp; done)) (by (try simp only [List.map_toArray, List.map_cons, List.map_nil]); first | done | rfl) ?_
      with_reducible refine (frame_Without.calls t1 s.id me _ HW2.out).mono ?_
      rintro e wx13 ⟨rfl, hb0⟩
      refine ⟨_, rfl, ?_⟩
      have hb := hb0.below
      clear hb0
      replace HB := asd (below_step HB.out hb)
      replace RL := asd (Kd.R_below RL.out hb)
      clear hb
      refine hK_.out _ _ ⟨(by have q := (H.out.below HB.out).c0; simp only [Rs.fls] at q; exact q), (by have q := (H.out.below HB.out).c4; simp only [Rs.fls] at q; exact q), (by have q := (H.out.below HB.out).c5; simp only [Rs.fls] at q; exact q), (by have q := (H.out.below HB.out).c6; simp only [Rs.fls] at q; exact q), (by have q := (H.out.below HB.out).c14; simp only [Rs.fls] at q; exact q), (by have q := (H.out.below HB.out).c15; simp only [Rs.fls] at q; exact q), (by have q := (H.out.below HB.out).c16; simp only [Rs.fls] at q; exact q), (by have q := (H.out.below HB.out).c17; simp only [Rs.fls] at q; exact q), (by have q := (H.out.below HB.out).c18; simp only [Rs.fls] at q; exact q), (blk_cell (blk_below B7.out HB.out) 1).trans rfl, (blk_cell (blk_below B7.out HB.out) 2).trans rfl, (blk_cell (blk_below B7.out HB.out) 3).trans rfl⟩ (fun hHeld => ?_)
      clear hK_ K_
      refine pz (i := 32) (N := some 84) (fb 36 8589934591) ?_
      refine pz (i := 33) (N := some 85) (fb 36 17179869183) ?_
      exact norm_ (by rfl) (hJ (Ax, cx) _ ⟨HB.out, RL.out⟩)
    intro vx wj14 hj_
    obtain ⟨Ax, cx⟩ := vx
    obtain ⟨h1_, h2_⟩ := hj_
    clear HB hHeld
    have HB := asd h1_
    have RL := asd h2_
    clear h1_ h2_
    refine norm_ (a' := ?_) ?_ ?_
    rotate_left
    ·simp only [putAll, Act.put, sqa, sqb, sqc, i64_w, i32_w]
     rfl
    refine one_ (i := 34) (N := some 86) (fb 36 34359738367) rfl rfl (by kernel_rfl) (by decide) (fun K_ hK_ => ?_)
    refine boxV_ (N := 86) (cs := #[.int .i64 s.id, .int .i64 2, .int .u64 fs, .int .i64 (wrap64 (began - lead)), .int .i64 s.op, .int .i64 s.od, .int .i64 s.orr, .int .i64 0, .int .u16 me, .int .i64 1, .int .i64 0, .slice Ax 1 cx, .bool false, .int .i64 1, .int .i64 s.m0, .int .i64 s.m1, .int .i64 s.m2, .int .i64 s.m3, .int .i64 s.m4, .slice none 0 0, .int .i64 0]) (t := 77) (by rfl) rfl ?hr ?_
    (case hr => first | (go_simp; done) | (go_simp; rfl))
    intro gx hg wx15 hbox hb
    have GX := asd (by rw [hg]; exact HB.out.size : wS.heap.size ≤ gx)
    replace HB := asd (below_step HB.out hb)
    replace RL := asd (Kd.R_below RL.out hb)
    have BX := asd hbox
    clear hb hbox hg
    refine hK_.out _ _ ⟨(by have q := (H.out.below HB.out).c0; simp only [Rs.fls] at q; exact q), (by have q := (H.out.below HB.out).c4; simp only [Rs.fls] at q; exact q), (by have q := (H.out.below HB.out).c5; simp only [Rs.fls] at q; exact q), (by have q := (H.out.below HB.out).c6; simp only [Rs.fls] at q; exact q), (by have q := (H.out.below HB.out).c14; simp only [Rs.fls] at q; exact q), (by have q := (H.out.below HB.out).c15; simp only [Rs.fls] at q; exact q), (by have q := (H.out.below HB.out).c16; simp only [Rs.fls] at q; exact q), (by have q := (H.out.below HB.out).c17; simp only [Rs.fls] at q; exact q), (by have q := (H.out.below HB.out).c18; simp only [Rs.fls] at q; exact q), (blk_cell (blk_below B7.out HB.out) 1).trans rfl, (blk_cell (blk_below B7.out HB.out) 2).trans rfl, (blk_cell (blk_below B7.out HB.out) 3).trans rfl⟩ (fun hHeld => ?_)
    clear hK_ K_
    refine pz (i := 35) (N := some 12) (fb 36 68719476735) ?_
    refine done_ (by kernel_rfl) ?_
    have HX := asd (⟨BX.out, Kd.R_lower RL.out H.out.bel.size, Kd.R_nil _ _ _ _ _, (H.out.below HB.out).bel, Nat.le_trans H.out.bel.size GX.out⟩ : RSt w0 wx15 gx { node_joins.x s began lead me fs with ac := [] } (.slice Ax 1 cx) nov)
    have OA := asd (fun k hk => nomatch hk : ∀ k, (nov : Value).ownBlock = some k → wS.heap.size ≤ k)
    have NXg := asd (fun e => absurd (blk_lt H.out.b) (by rw [← e]; have := GX.out; omega) : gx ≠ g)
    clear RL BX
    have hb7_2 : wx15.cell? ⟨gb7, 2, none⟩ = some (.int .u64 fs) := (blk_cell (blk_below B7.out HB.out) 2).trans rfl
    obtain ⟨t, ht⟩ : ∃ t, t = (x.ac.getD 1 ⟨0, 0, z43, 0, 0⟩).f1 := ⟨_, rfl⟩
    have HTT := asd ht
    clear ht
    by_cases c4 : now < t
    ·have c4a : decide (now < t) = true := decide_eq_true c4
     have e_ := HZ.out
     rw [← HTT.out, if_pos c4] at e_
     subst e_
     clear HZ
     go_wp2_with (first | ((with_reducible refine gate_callee (f := 53) rfl ?_); refine gL (some 91) Tryz.func53 #[.pointer (some ⟨gx, 0, none⟩), .int .i64 3, .int .i64 (wrap64 fs)] ?_; (with_reducible refine (node_note.calls gx { node_joins.x s began lead me fs with ac := [] } (.slice Ax 1 cx) nov 3 (wrap64 fs) w0 _ HX.out (Nat.zero_le _)).mono ?_); rintro e wn ⟨rfl, ⟨va, hs, hat⟩, hk⟩; refine ⟨_, rfl, ?_⟩; have nHB := asd (below_of_kr HB.out hk GX.out OA.out HX.out.bel hs.bel); have nOA := asd (hat.own OA.out HB.out.size); clear HB OA HX; have HB := nHB; have OA := nOA; have HX := asd (show RSt w0 wn gx (node_joins.x s began lead me fs) (.slice Ax 1 cx) va from hs); clear nHB nOA hs hat hk; have hc15 : wn.cell? ⟨g, 15, none⟩ = some (.int .i64 s.m1) := (by have q := (H.out.below HB.out).c15; simp only [Rs.fls] at q; exact q)) | ((with_reducible refine gate_callee (f := 54) rfl ?_); refine gL (some 98) Tryz.func54 #[.pointer (some ⟨gx, 0, none⟩), .int .i64 s.m1] ?_; (with_reducible refine (node_timer.calls k gx (node_joins.x s began lead me fs) x (.slice Ax 1 cx) va s.m1 w0 _ HX.out (by unfold node_joins.x; simp only [List.length_cons, List.length_nil]; omega) HT.out).mono ?_); rintro e wt ⟨rfl, ⟨vb, hs, hat⟩, hk⟩; refine ⟨_, rfl, ?_⟩; have nHB := asd (below_of_kr HB.out hk GX.out OA.out HX.out.bel hs.bel); have nOA := asd (hat.own OA.out HB.out.size); clear HB OA HX; have HB := nHB; have OA := nOA; have HX := asd hs; clear nHB nOA hs hat hk; have hx20 : wt.cell? ⟨gx, 20, none⟩ = some (.int .i64 x.er) := HX.out.c20) | ((with_reducible refine gate_callee (f := 81) rfl ?_); refine gL (some 104) Tryz.func81 #[.pointer (some ⟨g, 0, none⟩), .int .i64 x.er] ?_; (with_reducible refine (node_fail.calls g (s.fl e3) dv av x.er w0 _ (H.out.below HB.out)).mono ?_); rintro e wf ⟨rfl, hs, hk⟩; refine ⟨_, rfl, ?_⟩; have nHX := asd (HX.out.krG (H.out.below HB.out) hk hs.bel NXg.out); have nK := asd ((K.out.step HB.out).thenG hk); clear H HB OA K HX B7; have H := asd hs; have HX := nHX; have K := nK; clear nHX nK hs hk; obtain ⟨ba, ca_, hva, hact⟩ := act1 HX.out.a (by obtain ⟨t_, e_⟩ := node_timer_ac HT.out; rw [e_]; unfold node_joins.x; simp only [List.length_append, List.length_cons, List.length_nil]); subst hva; rw [← HTT.out] at hact; have hx19 : wf.cell? ⟨gx, 19, none⟩ = some (.slice (some ⟨ba, 0, none⟩) 2 ca_) := HX.out.c19))
     refine start_ (n := 16) (S := fun w' => w'.cell? ⟨gx, 0, none⟩ = some (.int .i64 x.id) ∧ w'.cell? ⟨gx, 1, none⟩ = some (.int .i64 x.ph) ∧ w'.cell? ⟨gx, 2, none⟩ = some (.int .u64 x.sl) ∧ w'.cell? ⟨gx, 3, none⟩ = some (.int .i64 x.st) ∧ w'.cell? ⟨gx, 4, none⟩ = some (.int .i64 x.op) ∧ w'.cell? ⟨gx, 5, none⟩ = some (.int .i64 x.od) ∧ w'.cell? ⟨gx, 6, none⟩ = some (.int .i64 x.orr) ∧ w'.cell? ⟨gx, 7, none⟩ = some (.int .i64 x.co) ∧ w'.cell? ⟨gx, 8, none⟩ = some (.int .u16 x.me) ∧ w'.cell? ⟨gx, 9, none⟩ = some (.int .i64 x.tg) ∧ w'.cell? ⟨gx, 10, none⟩ = some (.int .i64 x.tb) ∧ w'.cell? ⟨gx, 11, none⟩ = some (.slice Ax 1 cx) ∧ w'.cell? ⟨gx, 12, none⟩ = some (.bool x.se) ∧ w'.cell? ⟨gx, 13, none⟩ = some (.int .i64 x.ve) ∧ w'.cell? ⟨gx, 19, none⟩ = some (.slice (some ⟨ba, 0, none⟩) 2 ca_)) (ds := []) (fb 16 0) (by kernel_rfl) rfl rfl ⟨HX.out.drew.c0, HX.out.drew.c1, HX.out.drew.c2, HX.out.drew.c3, HX.out.drew.c4, HX.out.drew.c5, HX.out.drew.c6, HX.out.drew.c7, HX.out.drew.c8, HX.out.drew.c9, HX.out.drew.c10, HX.out.drew.c11, HX.out.drew.c12, HX.out.drew.c13, HX.out.drew.c19⟩ (fun hHeld => ?_)
     replace H := asd (H.out.drew)
     replace K := asd (K.out.drew)
     replace HX := asd (HX.out.drew)
     generalize wf.drew = wd11 at H K HX hHeld ⊢
     refine pz (i := 0) (N := some 114) (fb 16 1) ?_
     refine pz (i := 1) (N := some 115) (fb 16 3) ?_
     refine pz (i := 2) (N := some 116) (fb 16 7) ?_
     refine pz (i := 3) (N := some 117) (fb 16 15) ?_
     refine pz (i := 4) (N := some 118) (fb 16 31) ?_
     refine tz (i := 5) (N := some 119) (fb 16 63) hHeld ?_
     refine pz (i := 6) (N := some 120) (fb 16 127) ?_
     refine pz (i := 7) (N := some 121) (fb 16 255) ?_
     refine pz (i := 8) (N := some 122) (fb 16 511) ?_
     refine tz (i := 9) (N := some 123) (fb 16 1023) hHeld ?_
     refine pz (i := 10) (N := some 124) (fb 16 2047) ?_
     refine pz (i := 11) (N := some 125) (fb 16 4095) ?_
     refine one_ (i := 12) (N := none) (fb 16 8191) rfl rfl (by kernel_rfl) (by decide) (fun K_ hK_ => ?_)
     have hq0 := H.out.c0
     have hr0 := H.out.fz 0
     have hq1 := H.out.c1
     have hr1 := H.out.fz 1
     have hq2 := H.out.c2
     have hr2 := H.out.fz 2
     have hq3 := H.out.c3
     have hr3 := H.out.fz 3
     have hq4 := H.out.c4
     have hr4 := H.out.fz 4
     have hq5 := H.out.c5
     have hr5 := H.out.fz 5
     have hq6 := H.out.c6
     have hr6 := H.out.fz 6
     have hq7 := H.out.c7
     have hr7 := H.out.fz 7
     have hq8 := H.out.c8
     have hr8 := H.out.fz 8
     have hq9 := H.out.c9
     have hr9 := H.out.fz 9
     have hq10 := H.out.c10
     have hr10 := H.out.fz 10
     have hq11 := H.out.c11
     have hr11 := H.out.fz 11
     have hq12 := H.out.c12
     have hr12 := H.out.fz 12
     have hq13 := H.out.c13
     have hr13 := H.out.fz 13
     refine skip_ (w1 := ?_) (by rfl) rfl ?_ ?_
     rotate_left
     ·go_simp
      rfl
     have q_ := (((((((((((((((Wr.refl g wd11).set 0 (.int .i64 x.id)).set 1 (.int .i64 x.ph)).set 2 (.int .u64 x.sl)).set 3 (.int .i64 x.st)).set 4 (.int .i64 x.op)).set 5 (.int .i64 x.od)).set 6 (.int .i64 x.orr)).set 7 (.int .i64 x.co)).set 8 (.int .u16 x.me)).set 9 (.int .i64 x.tg)).set 10 (.int .i64 x.tb)).set 11 (.slice Ax 1 cx)).set 12 (.bool x.se)).set 13 (.int .i64 x.ve))
     have nHX := asd (HX.out.wrOther H.out q_ NXg.out)
     have nH := asd (H.out.set14 x (.slice Ax 1 cx) HX.out.d)
     have nK := asd (K.out.wr q_)
     clear HX H K
     have HX := nHX
     have H := nH
     have K := nK
     clear nHX nH nK q_ hq0 hr0 hq1 hr1 hq2 hr2 hq3 hr3 hq4 hr4 hq5 hr5 hq6 hr6 hq7 hr7 hq8 hr8 hq9 hr9 hq10 hr10 hq11 hr11 hq12 hr12 hq13 hr13
     generalize ((((((((((((((wd11.setCell ⟨g, 0, none⟩ (.int .i64 x.id)).setCell ⟨g, 1, none⟩ (.int .i64 x.ph)).setCell ⟨g, 2, none⟩ (.int .u64 x.sl)).setCell ⟨g, 3, none⟩ (.int .i64 x.st)).setCell ⟨g, 4, none⟩ (.int .i64 x.op)).setCell ⟨g, 5, none⟩ (.int .i64 x.od)).setCell ⟨g, 6, none⟩ (.int .i64 x.orr)).setCell ⟨g, 7, none⟩ (.int .i64 x.co)).setCell ⟨g, 8, none⟩ (.int .u16 x.me)).setCell ⟨g, 9, none⟩ (.int .i64 x.tg)).setCell ⟨g, 10, none⟩ (.int .i64 x.tb)).setCell ⟨g, 11, none⟩ (.slice Ax 1 cx)).setCell ⟨g, 12, none⟩ (.bool x.se)).setCell ⟨g, 13, none⟩ (.int .i64 x.ve)) = wz12 at H K HX ⊢
     refine hK_.out _ _ ⟨HX.out.c0, HX.out.c1, HX.out.c2, HX.out.c3, HX.out.c4, HX.out.c5, HX.out.c6, HX.out.c7, HX.out.c8, HX.out.c9, HX.out.c10, HX.out.c11, HX.out.c12, HX.out.c13, HX.out.c19⟩ (fun hHeld => ?_)
     clear hK_ K_
     refine pz (i := 13) (N := some 126) (fb 16 16383) ?_
     refine pz (i := 14) (N := some 127) (fb 16 32767) ?_
     refine one_ (i := 15) (N := none) (fb 16 65535) rfl rfl (by kernel_rfl) (by decide) (fun K_ hK_ => ?_)
     have hq19 := H.out.c19
     have hr19 := H.out.fz 19
     refine skip_ (w1 := ?_) (by rfl) rfl ?_ ?_
     rotate_left
     ·go_simp
      rfl
     have q_ := ((Wr.refl g wz12).set 19 (.slice (some ⟨ba, 0, none⟩) 2 ca_))
     have nHX := asd (HX.out.wrOther H.out q_ NXg.out)
     have nH := asd (H.out.setAc x.ac (.slice (some ⟨ba, 0, none⟩) 2 ca_) HX.out.a)
     have nK := asd (K.out.wr q_)
     clear HX H K
     have HX := nHX
     have H := nH
     have K := nK
     clear nHX nH nK q_ hq19 hr19
     generalize (wz12.setCell ⟨g, 19, none⟩ (.slice (some ⟨ba, 0, none⟩) 2 ca_)) = wz15 at H K HX ⊢
     refine hK_.out _ _ ⟨HX.out.c0, HX.out.c1, HX.out.c2, HX.out.c3, HX.out.c4, HX.out.c5, HX.out.c6, HX.out.c7, HX.out.c8, HX.out.c9, HX.out.c10, HX.out.c11, HX.out.c12, HX.out.c13, HX.out.c19⟩ (fun hHeld => ?_)
     clear hK_ K_
     refine done_ (by kernel_rfl) ?_
     go_wp2
     first | go_end0 | go_ret | ((try simp only [Exit.inBlock, Exit.then]); refine bodyPost_ret (results_none rfl _ _ _) rfl ?_)
     have q := H.out
     simp only [Rs.fls] at q
     exact ⟨rfl, ⟨_, _, q⟩, K.out⟩
    ·have c4a : decide (now < t) = false := decide_eq_false c4
     have e_ := HZ.out
     rw [← HTT.out, if_neg c4] at e_
     subst e_
     clear HZ
     go_wp2_with (first | ((with_reducible refine gate_callee (f := 53) rfl ?_); refine gL (some 91) Tryz.func53 #[.pointer (some ⟨gx, 0, none⟩), .int .i64 3, .int .i64 (wrap64 fs)] ?_; (with_reducible refine (node_note.calls gx { node_joins.x s began lead me fs with ac := [] } (.slice Ax 1 cx) nov 3 (wrap64 fs) w0 _ HX.out (Nat.zero_le _)).mono ?_); rintro e wn ⟨rfl, ⟨va, hs, hat⟩, hk⟩; refine ⟨_, rfl, ?_⟩; have nHB := asd (below_of_kr HB.out hk GX.out OA.out HX.out.bel hs.bel); have nOA := asd (hat.own OA.out HB.out.size); clear HB OA HX; have HB := nHB; have OA := nOA; have HX := asd (show RSt w0 wn gx (node_joins.x s began lead me fs) (.slice Ax 1 cx) va from hs); clear nHB nOA hs hat hk; have hc15 : wn.cell? ⟨g, 15, none⟩ = some (.int .i64 s.m1) := (by have q := (H.out.below HB.out).c15; simp only [Rs.fls] at q; exact q)) | ((with_reducible refine gate_callee (f := 54) rfl ?_); refine gL (some 98) Tryz.func54 #[.pointer (some ⟨gx, 0, none⟩), .int .i64 s.m1] ?_; (with_reducible refine (node_timer.calls k gx (node_joins.x s began lead me fs) x (.slice Ax 1 cx) va s.m1 w0 _ HX.out (by unfold node_joins.x; simp only [List.length_cons, List.length_nil]; omega) HT.out).mono ?_); rintro e wt ⟨rfl, ⟨vb, hs, hat⟩, hk⟩; refine ⟨_, rfl, ?_⟩; have nHB := asd (below_of_kr HB.out hk GX.out OA.out HX.out.bel hs.bel); have nOA := asd (hat.own OA.out HB.out.size); clear HB OA HX; have HB := nHB; have OA := nOA; have HX := asd hs; clear nHB nOA hs hat hk; have hx20 : wt.cell? ⟨gx, 20, none⟩ = some (.int .i64 x.er) := HX.out.c20) | ((with_reducible refine gate_callee (f := 81) rfl ?_); refine gL (some 104) Tryz.func81 #[.pointer (some ⟨g, 0, none⟩), .int .i64 x.er] ?_; (with_reducible refine (node_fail.calls g (s.fl e3) dv av x.er w0 _ (H.out.below HB.out)).mono ?_); rintro e wf ⟨rfl, hs, hk⟩; refine ⟨_, rfl, ?_⟩; have nHX := asd (HX.out.krG (H.out.below HB.out) hk hs.bel NXg.out); have nK := asd ((K.out.step HB.out).thenG hk); clear H HB OA K HX B7; have H := asd hs; have HX := nHX; have K := nK; clear nHX nK hs hk; obtain ⟨ba, ca_, hva, hact⟩ := act1 HX.out.a (by obtain ⟨t_, e_⟩ := node_timer_ac HT.out; rw [e_]; unfold node_joins.x; simp only [List.length_append, List.length_cons, List.length_nil]); subst hva; rw [← HTT.out] at hact; have hx19 : wf.cell? ⟨gx, 19, none⟩ = some (.slice (some ⟨ba, 0, none⟩) 2 ca_) := HX.out.c19))
     first | go_end0 | go_ret | ((try simp only [Exit.inBlock, Exit.then]); refine bodyPost_ret (results_none rfl _ _ _) rfl ?_)
     exact ⟨rfl, ⟨_, _, H.out⟩, K.out⟩
  ·have c2a : (own != ff) = true := bne_iff_ne.mpr c2
   have hf := HF.out
   rw [if_pos c1, if_neg c2] at hf
   obtain rfl := Option.some.inj hf
   go_wp2
   first | go_end0 | go_ret | ((try simp only [Exit.inBlock, Exit.then]); refine bodyPost_ret (results_none rfl _ _ _) rfl ?_)
   exact ⟨rfl, ⟨_, _, H.out⟩, K.out⟩
 ·have c1a : (e1 != 0) = true := bne_iff_ne.mpr c1
  have hf := HF.out
  rw [if_neg c1] at hf
  obtain rfl := Option.some.inj hf
  go_wp2
  first | go_end0 | go_ret | ((try simp only [Exit.inBlock, Exit.then]); refine bodyPost_ret (results_none rfl _ _ _) rfl ?_)
  exact ⟨rfl, ⟨_, _, H.out⟩, K.out⟩


end Go.Proofs.YtcofclkgfandfaaGreat.Print
