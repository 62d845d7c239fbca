-- PRINTED by print.py (a twelfth state) out of the translation. Not trusted: Lean checks it.
import Derived.Test.YtcbjbgleflbpmaaDoorPrint0
import Derived.Test.YtcbjbgleflbpmaaDoorPrint8
namespace Go.Proofs.YtcbjbgleflbpmaaDoor.Print
open Go.RowKit Go.Proofs.YtcbjbgleflbpmaaDoorW.PrintWords Go.Proofs.YtcbjbgleflbpmaaDoorW.PrintLast Go.Proofs.YtcbjbgleflbpmaaDoorW.PrintMore Go.Proofs.YtcbjbgleflbpmaaDoorX
attribute [local go_sem] str_lss str_geq max2_int min2_int max_two min_two max_three min_three max_four min_four   -- for this text's walks alone
set_option linter.unusedVariables false
set_option linter.unusedSimpArgs false

/-! ### wire_TakeVary: function 45 -/
mutual
def wire_TakeVary.l0 : Nat → Int → Int → List Int → Int → Int → Option (Int × Int × Int)
 | 0, _, _, _, _, _ => none
 | k + 1, x1, x4, x16, x17, x18 => if x18 < x17 then (if 0 ≤ x18 then (if x18 < (x16.length : Int) then (if x18 = 0 then (if (rd x16 x18) = 128 then (wire_TakeVary.j1 k x1 x4 x18 (rd x16 x18) x16 x17 x18 true) else ((bits_Len64.f k x4).bind fun t235 => (wire_TakeVary.j1 k x1 x4 x18 (rd x16 x18) x16 x17 x18 (decide (t235 > 57))))) else ((bits_Len64.f k x4).bind fun t236 => (wire_TakeVary.j1 k x1 x4 x18 (rd x16 x18) x16 x17 x18 (decide (t236 > 57))))) else (none)) else (none)) else (some (0, 0, 3))
def wire_TakeVary.j1 : Nat → Int → Int → Int → Int → List Int → Int → Int → Bool → Option (Int × Int × Int)
 | 0, _, _, _, _, _, _, _, _ => none
 | k + 1, x1, x4, x7, x8, x16, x17, x18, x33 => if x33 = true then (some (0, 0, 4)) else (if (Go.bits .and .u8 x8 128) = 0 then (some (Go.bits .or .u64 (IntKind.u64.wrap (x4 * 128)) (IntKind.u64.wrap (Go.bits .and .u8 x8 127)), wrap64 ((wrap64 (x1 + x7)) + 1), 0)) else (wire_TakeVary.l0 k x1 (Go.bits .or .u64 (IntKind.u64.wrap (x4 * 128)) (IntKind.u64.wrap (Go.bits .and .u8 x8 127))) x16 x17 (wrap64 (x18 + 1))))
end
def wire_TakeVary.f (k : Nat) (l0 : List Int) (a1 : Int) : Option (Int × Int × Int) := if a1 < 0 then (some (0, 0, 1)) else (if 0 ≤ (mn a1 (l0.length : Int)) then (if (mn a1 (l0.length : Int)) ≤ (l0.length : Int) then (wire_TakeVary.l0 k a1 0 (l0.drop ((mn a1 (l0.length : Int)) : Int).toNat) ((l0.drop ((mn a1 (l0.length : Int)) : Int).toNat).length : Int) 0) else (none)) else (none))
theorem wire_TakeVary.mono_l : ∀ k, (∀ y0 y1 y2 y3 y4, LeO (wire_TakeVary.l0 k y0 y1 y2 y3 y4) (wire_TakeVary.l0 (k + 1) y0 y1 y2 y3 y4)) ∧ (∀ y0 y1 y2 y3 y4 y5 y6 y7, LeO (wire_TakeVary.j1 k y0 y1 y2 y3 y4 y5 y6 y7) (wire_TakeVary.j1 (k + 1) y0 y1 y2 y3 y4 y5 y6 y7))
 | 0 => ⟨fun _ _ _ _ _ r h => by simp [wire_TakeVary.l0] at h, fun _ _ _ _ _ _ _ _ r h => by simp [wire_TakeVary.j1] at h⟩
 | k + 1 => by
  obtain ⟨ih0, ih1⟩ := wire_TakeVary.mono_l k
  refine ⟨?_, ?_⟩
  ·intro y0 y1 y2 y3 y4
   unfold wire_TakeVary.l0
   repeat' first
   | (with_reducible exact ih0 _ _ _ _ _)
   | (with_reducible exact ih1 _ _ _ _ _ _ _ _)
   | (with_reducible exact bits_Len64.mono _ _)
   | (with_reducible exact LeO.refl _)
   | (with_reducible exact LeO.none _)
   | (with_reducible refine LeO.ite ?_ ?_)
   | (with_reducible refine LeO.bind ?_ (fun _ => ?_))
   | exact ih0 _ _ _ _ _
   | exact ih1 _ _ _ _ _ _ _ _
   | exact bits_Len64.mono _ _
   | exact LeO.none _
   | refine LeO.ite ?_ ?_
   | refine LeO.bind ?_ (fun _ => ?_)
  ·intro y0 y1 y2 y3 y4 y5 y6 y7
   unfold wire_TakeVary.j1
   repeat' first
   | (with_reducible exact ih0 _ _ _ _ _)
   | (with_reducible exact ih1 _ _ _ _ _ _ _ _)
   | (with_reducible exact bits_Len64.mono _ _)
   | (with_reducible exact LeO.refl _)
   | (with_reducible exact LeO.none _)
   | (with_reducible refine LeO.ite ?_ ?_)
   | (with_reducible refine LeO.bind ?_ (fun _ => ?_))
   | exact ih0 _ _ _ _ _
   | exact ih1 _ _ _ _ _ _ _ _
   | exact bits_Len64.mono _ _
   | exact LeO.none _
   | refine LeO.ite ?_ ?_
   | refine LeO.bind ?_ (fun _ => ?_)
theorem wire_TakeVary.mono : ∀ a0 a1 k, LeO (wire_TakeVary.f k a0 a1) (wire_TakeVary.f (k + 1) a0 a1) := by
 intro a0 a1 k
 obtain ⟨ih0, ih1⟩ := wire_TakeVary.mono_l k
 unfold wire_TakeVary.f
 repeat' first
   | (with_reducible exact ih0 _ _ _ _ _)
   | (with_reducible exact ih1 _ _ _ _ _ _ _ _)
   | (with_reducible exact bits_Len64.mono _ _)
   | (with_reducible exact LeO.refl _)
   | (with_reducible exact LeO.none _)
   | (with_reducible refine LeO.ite ?_ ?_)
   | (with_reducible refine LeO.bind ?_ (fun _ => ?_))
   | exact ih0 _ _ _ _ _
   | exact ih1 _ _ _ _ _ _ _ _
   | exact bits_Len64.mono _ _
   | exact LeO.none _
   | refine LeO.ite ?_ ?_
   | refine LeO.bind ?_ (fun _ => ?_)
set_option maxHeartbeats 8000000 in
set_option maxRecDepth 100000 in
theorem wire_TakeVary.calls (k : Nat) (A0 : Option Addr) (c0 : Nat) (l0 : List Int) (a1 : Int) (r1 : Int) (r2 : Int) (r3 : Int) (w : World) (hr0 : Kd.C (Kd.int .u8) w A0 l0.length l0) (hc0 : l0.length ≤ c0) (h : wire_TakeVary.f k l0 a1 = some (r1, r2, r3)) :
  Calls Tryd.prog 45 #[.slice A0 l0.length c0, .int .i64 a1] w fun e w' => e = .returned (.tuple #[.int .u64 r1, .int .i64 r2, .int .i64 r3]) ∧ Below w.heap.size w w' := by
 have HR0 := Aside0.mk hr0
 have HC0 := Aside0.mk hc0
 clear hr0 hc0
 have HB := Aside0.mk (Below.refl w.heap.size w)
 have H : (if a1 < 0 then (some (0, 0, 1)) else (if 0 ≤ (mn a1 (l0.length : Int)) then (if (mn a1 (l0.length : Int)) ≤ (l0.length : Int) then (wire_TakeVary.l0 k a1 0 (l0.drop ((mn a1 (l0.length : Int)) : Int).toNat) ((l0.drop ((mn a1 (l0.length : Int)) : Int).toNat).length : Int) 0) else (none)) else (none))) = some (r1, r2, r3) := h
 clear h
 by_cases c3 : a1 < 0
 ·rw [if_pos c3] at H
  have c3b0 : decide (a1 < 0) = true := decide_eq_true c3
  clear c3
  simp only [Option.some.injEq, Prod.mk.injEq] at H
  obtain ⟨rfl, rfl, rfl⟩ := H
  go_enter Tryd.func45, Tryd.ntmps45
  go_wp2
  go_ret3
  exact ⟨by first | rfl | (simp [errW_none, errW_some] <;> rfl) | (simp [*, errW_none, errW_some] <;> rfl), by repeat (first | (with_reducible first | exact HB.out | apply below_alloc | apply pw_below_drewN | apply below_drew1) | exact HB.out)⟩
 ·rw [if_neg c3] at H
  have c3b0 : decide (a1 < 0) = false := decide_eq_false c3
  clear c3
  obtain ⟨ji4, hji4⟩ : ∃ j_ : Int, (mn a1 (l0.length : Int)) = j_ := ⟨_, rfl⟩
  replace H : (if 0 ≤ (ji4) then (if (ji4) ≤ (l0.length : Int) then (wire_TakeVary.l0 k a1 0 (l0.drop ((ji4) : Int).toNat) ((l0.drop ((ji4) : Int).toNat).length : Int) 0) else (none)) else (none)) = some (r1, r2, r3) := by first | (rw [hji4] at H; exact H) | (simp only [hji4] at H ⊢; exact H)
  have hji4_ : (if (l0.length : Int) < a1 then (l0.length : Int) else a1) = ji4 := hji4
  by_cases c5 : 0 ≤ (ji4)
  ·rw [if_pos c5] at H
   have c5b0 := eq_true c5
   have c5b1 : decide (0 ≤ (ji4)) = true := decide_eq_true c5
   clear c5
   by_cases c6 : (ji4) ≤ (l0.length : Int)
   ·rw [if_pos c6] at H
    have c6b0 := eq_true c6
    have c6b1 : decide ((ji4) ≤ (l0.length : Int)) = true := decide_eq_true c6
    clear c6
    have H' := Aside0.mk H
    clear H
    obtain ⟨i07, hi07, _, hsz7, _⟩ := info_parts info5
    obtain ⟨A7, hcut7, hA7, hC7⟩ := print_drop_of (P := Tryd.prog) (Value.int .u8) 0 26 5 .i64 Tryd.underlying26 hi07 hsz7 A0 c0 l0 (ji4) (of_decide_eq_true (by first | (with_reducible assumption) | assumption)) (of_decide_eq_true (by first | (with_reducible assumption) | assumption)) HC0.out
    have HR233 := Aside0.mk (Kd.C_of_reads (h1 := fun _ => rfl) (hA7 _ (Kd.reads_of_C HR0.out)))
    have HC233 := Aside0.mk hC7
    clear hA7 hC7 hi07 hsz7
    go_enter Tryd.func45, Tryd.ntmps45
    go_wp2
    go_loopg [4, 18] k (fun kq v4 v18 w' => ∃ (x4_1 : Int) (x18_1 : Int), v4 = .int .u64 x4_1 ∧ v18 = .int .i64 x18_1 ∧ Aside0 (wire_TakeVary.l0 kq a1 x4_1 (l0.drop ((ji4) : Int).toNat) ((l0.drop ((ji4) : Int).toNat).length : Int) x18_1 = some (r1, r2, r3)) ∧ Aside0 (kq ≤ k) ∧ Aside0 (Below w.heap.size w w'))
    case atStart => exact ⟨(0), (0), (by first | rfl | (simp; done) | (simp [*]; done)), (by first | rfl | (simp; done) | (simp [*]; done)), H', ⟨Nat.le_refl _⟩, ⟨by repeat (first | (with_reducible first | exact HB.out | apply below_alloc | apply pw_below_drewN | apply below_drew1) | exact HB.out)⟩⟩
    case round =>
     clear H'
     try clear p2
     try clear c3
     try clear c3b0
     try clear c4
     try clear c5
     try clear c5b0
     try clear c5b1
     try clear c6
     try clear c6b0
     try clear c6b1
     obtain ⟨x4_1, x18_1, rfl, rfl, HA, HK1, HB⟩ := hrel
     cases gk with
     | zero => exact absurd HA.out (by simp [wire_TakeVary.l0])
     | succ k1 =>
      have H := HA.out
      clear HA
      simp only [wire_TakeVary.l0] at H
      by_cases c8 : x18_1 < ((l0.drop ((ji4) : Int).toNat).length : Int)
      ·rw [if_pos c8] at H
       have c8b0 : decide (x18_1 < ((l0.drop ((ji4) : Int).toNat).length : Int)) = true := decide_eq_true c8
       (try have c8n0 : decide (x18_1 < ((l0.length - ((ji4) : Int).toNat : Nat) : Int)) = true := by have h_ := of_decide_eq_true c8b0; rw [List.length_drop] at h_; exact decide_eq_true (by omega))
       clear c8
       by_cases c9 : 0 ≤ x18_1
       ·rw [if_pos c9] at H
        have c9b0 : decide (0 ≤ x18_1) = true := decide_eq_true c9
        clear c9
        by_cases c10 : x18_1 < ((l0.drop ((ji4) : Int).toNat).length : Int)
        ·rw [if_pos c10] at H
         have c10b0 : decide (x18_1 < ((l0.drop ((ji4) : Int).toNat).length : Int)) = true := decide_eq_true c10
         (try have c10n0 : decide (x18_1 < ((l0.length - ((ji4) : Int).toNat : Nat) : Int)) = true := by have h_ := of_decide_eq_true c10b0; rw [List.length_drop] at h_; exact decide_eq_true (by omega))
         clear c10
         have HC11 := Aside0.mk H
         clear H
         have p234 : 0 ≤ (x18_1 : Int) := of_decide_eq_true (by first | (with_reducible assumption) | assumption)
         have q234 : x18_1 < ((l0.drop ((ji4) : Int).toNat).length : Int) := of_decide_eq_true (by first | (with_reducible assumption) | assumption)
         (try have qn234 := eq_true (show x18_1 < ((l0.length - ((ji4) : Int).toNat : Nat) : Int) from (by have h_ := q234; rw [List.length_drop] at h_; omega)))
         obtain ⟨ad234, e234, hx234_0⟩ := Kd.at_int HR233.out x18_1 p234 q234
         cases e234
         replace hx234_0 := (HB.out.cell (World.block_lt_of_cell? w _ hx234_0)).trans hx234_0
         replace p234 := eq_true p234
         replace q234 := eq_true q234
         go_upto_region 6 with (fail)
         go_cut [33] (fun v33 wc => ∃ (kq : Nat) (x33_10 : Bool), v33 = .bool x33_10 ∧ Aside0 (wire_TakeVary.j1 kq a1 x4_1 x18_1 (rd (l0.drop ((ji4) : Int).toNat) x18_1) (l0.drop ((ji4) : Int).toNat) ((l0.drop ((ji4) : Int).toNat).length : Int) x18_1 x33_10 = some (r1, r2, r3)) ∧ Aside0 (kq ≤ k1) ∧ Aside0 (Below w.heap.size w wc))
         case first =>
          have H := HC11.out
          clear HC11
          by_cases c12 : x18_1 = 0
          ·rw [if_pos c12] at H
           have c12b0 : (x18_1 == 0) = true := beq_iff_eq.mpr c12
           have c12b1 : (x18_1 != 0) = false := bne_eq_false_iff_eq.mpr c12
           clear c12
           (first | rw [c12b0] | (simp only [i64_w, i32_w]; rw [c12b0]) | skip)
           by_cases c13 : (rd (l0.drop ((ji4) : Int).toNat) x18_1) = 128
           ·rw [if_pos c13] at H
            have c13b0 : ((rd (l0.drop ((ji4) : Int).toNat) x18_1) == 128) = true := beq_iff_eq.mpr c13
            have c13b1 : ((rd (l0.drop ((ji4) : Int).toNat) x18_1) != 128) = false := bne_eq_false_iff_eq.mpr c13
            clear c13
            have H' := Aside0.mk H
            clear H
            go_wp2
            go_meet
            case rel => exact ⟨_, (true), (by first | rfl | (simp; done) | (simp [*]; done)), H', ⟨by have := HK1.out; first | omega | exact Nat.le_refl _⟩, ⟨by repeat (first | (with_reducible first | exact HB.out | apply below_alloc | apply pw_below_drewN | apply below_drew1) | exact HB.out)⟩⟩
           ·rw [if_neg c13] at H
            have c13b0 : ((rd (l0.drop ((ji4) : Int).toNat) x18_1) == 128) = false := beq_eq_false_iff_ne.mpr c13
            have c13b1 : ((rd (l0.drop ((ji4) : Int).toNat) x18_1) != 128) = true := bne_iff_ne.mpr c13
            replace H := Option.bind_eq_some_iff.mp H
            obtain ⟨t235, A140, H⟩ := H
            replace H : (wire_TakeVary.j1 k1 a1 x4_1 x18_1 (rd (l0.drop ((ji4) : Int).toNat) x18_1) (l0.drop ((ji4) : Int).toNat) ((l0.drop ((ji4) : Int).toNat).length : Int) x18_1 (decide (t235 > 57))) = some (r1, r2, r3) := H
            have A14 := Aside0.mk A140
            clear A140
            have H' := Aside0.mk H
            clear H
            go_wp2_with (first | (go_at_call 68; (with_reducible refine (bits_Len64.calls k1 x4_1 t235 _ A14.out).mono ?_); rintro e w' ⟨rfl, ⟨nd, rfl⟩⟩))
            go_meet
            case rel => exact ⟨_, (decide (t235 > 57)), (by first | rfl | (simp; done) | (simp [*]; done)), H', ⟨by have := HK1.out; first | omega | exact Nat.le_refl _⟩, ⟨by repeat (first | (with_reducible first | exact HB.out | apply below_alloc | apply pw_below_drewN | apply below_drew1) | exact HB.out)⟩⟩
          ·rw [if_neg c12] at H
           have c12b0 : (x18_1 == 0) = false := beq_eq_false_iff_ne.mpr c12
           have c12b1 : (x18_1 != 0) = true := bne_iff_ne.mpr c12
           (first | rw [c12b0] | (simp only [i64_w, i32_w]; rw [c12b0]) | skip)
           replace H := Option.bind_eq_some_iff.mp H
           obtain ⟨t236, A150, H⟩ := H
           replace H : (wire_TakeVary.j1 k1 a1 x4_1 x18_1 (rd (l0.drop ((ji4) : Int).toNat) x18_1) (l0.drop ((ji4) : Int).toNat) ((l0.drop ((ji4) : Int).toNat).length : Int) x18_1 (decide (t236 > 57))) = some (r1, r2, r3) := H
           have A15 := Aside0.mk A150
           clear A150
           have H' := Aside0.mk H
           clear H
           go_wp2_with (first | (go_at_call 68; (with_reducible refine (bits_Len64.calls k1 x4_1 t236 _ A15.out).mono ?_); rintro e w' ⟨rfl, ⟨nd, rfl⟩⟩))
           go_meet
           case rel => exact ⟨_, (decide (t236 > 57)), (by first | rfl | (simp; done) | (simp [*]; done)), H', ⟨by have := HK1.out; first | omega | exact Nat.le_refl _⟩, ⟨by repeat (first | (with_reducible first | exact HB.out | apply below_alloc | apply pw_below_drewN | apply below_drew1) | exact HB.out)⟩⟩
         case rest =>
          clear HC11
          try clear c1
          try clear p2
          try clear q2
          try clear hx2
          try clear c3
          try clear c3b0
          try clear c4
          try clear c5
          try clear c5b0
          try clear c5b1
          try clear c6
          try clear c6b0
          try clear c6b1
          try clear c8
          try clear c8b0
          try clear c9
          try clear c9b0
          try clear c10
          try clear c10b0
          try clear c12
          try clear c12b0
          try clear c12b1
          try clear c13
          try clear c13b0
          try clear c13b1
          try clear hx234_0
          try clear p2
          try clear p234
          try clear q234
          obtain ⟨kq, x33_10, rfl, HA, HJ10, HB⟩ := hcut
          cases kq with
          | zero => exact absurd HA.out (by simp [wire_TakeVary.j1])
          | succ kj10 =>
           have H := HA.out
           clear HA
           simp only [wire_TakeVary.j1] at H
           by_cases c16 : x33_10 = true
           ·subst c16
            have H1 : (some (0, 0, 4)) = some (r1, r2, r3) := by rw [if_pos rfl] at H; exact H
            clear H
            have H := H1
            clear H1
            simp only [Option.some.injEq, Prod.mk.injEq] at H
            obtain ⟨rfl, rfl, rfl⟩ := H
            go_wp2
            go_ret3
            exact ⟨by first | rfl | (simp [errW_none, errW_some] <;> rfl) | (simp only [← hji4]; first | rfl | (simp [errW_none, errW_some] <;> rfl)) | (simp [*, errW_none, errW_some] <;> rfl), by repeat (first | (with_reducible first | exact HB.out | apply below_alloc | apply pw_below_drewN | apply below_drew1) | exact HB.out)⟩
           ·replace c16 := Bool.eq_false_iff.mpr c16
            subst c16
            have H1 : (if (Go.bits .and .u8 (rd (l0.drop ((ji4) : Int).toNat) x18_1) 128) = 0 then (some (Go.bits .or .u64 (IntKind.u64.wrap (x4_1 * 128)) (IntKind.u64.wrap (Go.bits .and .u8 (rd (l0.drop ((ji4) : Int).toNat) x18_1) 127)), wrap64 ((wrap64 (a1 + x18_1)) + 1), 0)) else (wire_TakeVary.l0 kj10 a1 (Go.bits .or .u64 (IntKind.u64.wrap (x4_1 * 128)) (IntKind.u64.wrap (Go.bits .and .u8 (rd (l0.drop ((ji4) : Int).toNat) x18_1) 127))) (l0.drop ((ji4) : Int).toNat) ((l0.drop ((ji4) : Int).toNat).length : Int) (wrap64 (x18_1 + 1)))) = some (r1, r2, r3) := by rw [if_neg (show ¬ (false = true) by decide)] at H; exact H
            clear H
            have H := H1
            clear H1
            by_cases c17 : (Go.bits .and .u8 (rd (l0.drop ((ji4) : Int).toNat) x18_1) 128) = 0
            ·rw [if_pos c17] at H
             have c17b0 : ((Go.bits .and .u8 (rd (l0.drop ((ji4) : Int).toNat) x18_1) 128) == 0) = true := beq_iff_eq.mpr c17
             have c17b1 : ((Go.bits .and .u8 (rd (l0.drop ((ji4) : Int).toNat) x18_1) 128) != 0) = false := bne_eq_false_iff_eq.mpr c17
             clear c17
             simp only [Option.some.injEq, Prod.mk.injEq] at H
             obtain ⟨rfl, rfl, rfl⟩ := H
             go_wp2
             go_ret3
             exact ⟨by first | rfl | (simp [errW_none, errW_some] <;> rfl) | (simp only [← hji4]; first | rfl | (simp [errW_none, errW_some] <;> rfl)) | (simp [*, errW_none, errW_some] <;> rfl), by repeat (first | (with_reducible first | exact HB.out | apply below_alloc | apply pw_below_drewN | apply below_drew1) | exact HB.out)⟩
            ·rw [if_neg c17] at H
             have c17b0 : ((Go.bits .and .u8 (rd (l0.drop ((ji4) : Int).toNat) x18_1) 128) == 0) = false := beq_eq_false_iff_ne.mpr c17
             have c17b1 : ((Go.bits .and .u8 (rd (l0.drop ((ji4) : Int).toNat) x18_1) 128) != 0) = true := bne_iff_ne.mpr c17
             have H' := Aside0.mk H
             clear H
             go_wp2
             go_roundg kj10
             case measure => have := HK1.out; have := HJ10.out; omega
             case rel => exact ⟨(Go.bits .or .u64 (IntKind.u64.wrap (x4_1 * 128)) (IntKind.u64.wrap (Go.bits .and .u8 (rd (l0.drop ((ji4) : Int).toNat) x18_1) 127))), (wrap64 (x18_1 + 1)), (by first | rfl | (simp; done) | (simp only [← hji4] <;> (first | rfl | simp)) | (simp [*]; done)), (by first | rfl | (simp; done) | (simp [*]; done)), H', ⟨by have := HK1.out; have := HJ10.out; omega⟩, ⟨by repeat (first | (with_reducible first | exact HB.out | apply below_alloc | apply pw_below_drewN | apply below_drew1) | exact HB.out)⟩⟩
        ·rw [if_neg c10] at H
         exact absurd H (by simp)
       ·rw [if_neg c9] at H
        exact absurd H (by simp)
      ·rw [if_neg c8] at H
       have c8b0 : decide (x18_1 < ((l0.drop ((ji4) : Int).toNat).length : Int)) = false := decide_eq_false c8
       (try have c8n0 : decide (x18_1 < ((l0.length - ((ji4) : Int).toNat : Nat) : Int)) = false := by have h_ := of_decide_eq_false c8b0; rw [List.length_drop] at h_; exact decide_eq_false (by omega))
       clear c8
       simp only [Option.some.injEq, Prod.mk.injEq] at H
       obtain ⟨rfl, rfl, rfl⟩ := H
       go_wp2
       go_ret3
       exact ⟨by first | rfl | (simp [errW_none, errW_some] <;> rfl) | (simp only [← hji4]; first | rfl | (simp [errW_none, errW_some] <;> rfl)) | (simp [*, errW_none, errW_some] <;> rfl), by repeat (first | (with_reducible first | exact HB.out | apply below_alloc | apply pw_below_drewN | apply below_drew1) | exact HB.out)⟩
   ·rw [if_neg c6] at H
    exact absurd H (by simp)
  ·rw [if_neg c5] at H
   exact absurd H (by simp)

/-! ### wire_span: function 67 -/
def wire_span.f (k : Nat) (l0 : List Int) (a1 : Int) : Option (Int × Int × Int) := if a1 < 0 then (some (0, 0, 1)) else (if a1 ≥ (l0.length : Int) then (some (0, 0, 3)) else ((wire_TakeVary.f k l0 (wrap64 (a1 + 1))).bind fun bt237 => (if bt237.2.2 = 0 then (if bt237.1 > 1048576 then (some (0, 0, 6)) else (if (wrap64 (bt237.1)) > (wrap64 ((l0.length : Int) - bt237.2.1)) then (some (0, 0, 3)) else (some (bt237.2.1, wrap64 (bt237.2.1 + (wrap64 (bt237.1))), 0)))) else (some (0, 0, bt237.2.2)))))
theorem wire_span.mono : ∀ a0 a1 k, LeO (wire_span.f k a0 a1) (wire_span.f (k + 1) a0 a1) := by
 intro a0 a1 k
 unfold wire_span.f
 repeat' first
   | (with_reducible exact wire_TakeVary.mono _ _ _)
   | (with_reducible exact LeO.refl _)
   | (with_reducible exact LeO.none _)
   | (with_reducible refine LeO.ite ?_ ?_)
   | (with_reducible refine LeO.bind ?_ (fun _ => ?_))
   | exact wire_TakeVary.mono _ _ _
   | exact LeO.none _
   | refine LeO.ite ?_ ?_
   | refine LeO.bind ?_ (fun _ => ?_)
set_option maxHeartbeats 8000000 in
set_option maxRecDepth 100000 in
theorem wire_span.calls (k : Nat) (A0 : Option Addr) (c0 : Nat) (l0 : List Int) (a1 : Int) (r1 : Int) (r2 : Int) (r3 : Int) (w : World) (hr0 : Kd.C (Kd.int .u8) w A0 l0.length l0) (hc0 : l0.length ≤ c0) (h : wire_span.f k l0 a1 = some (r1, r2, r3)) :
  Calls Tryd.prog 67 #[.slice A0 l0.length c0, .int .i64 a1] w fun e w' => e = .returned (.tuple #[.int .i64 r1, .int .i64 r2, .int .i64 r3]) ∧ Below w.heap.size w w' := by
 have HR0 := Aside0.mk hr0
 have HC0 := Aside0.mk hc0
 clear hr0 hc0
 have HB := Aside0.mk (Below.refl w.heap.size w)
 have H : (if a1 < 0 then (some (0, 0, 1)) else (if a1 ≥ (l0.length : Int) then (some (0, 0, 3)) else ((wire_TakeVary.f k l0 (wrap64 (a1 + 1))).bind fun bt237 => (if bt237.2.2 = 0 then (if bt237.1 > 1048576 then (some (0, 0, 6)) else (if (wrap64 (bt237.1)) > (wrap64 ((l0.length : Int) - bt237.2.1)) then (some (0, 0, 3)) else (some (bt237.2.1, wrap64 (bt237.2.1 + (wrap64 (bt237.1))), 0)))) else (some (0, 0, bt237.2.2)))))) = some (r1, r2, r3) := h
 clear h
 by_cases c3 : a1 < 0
 ·rw [if_pos c3] at H
  have c3b0 : decide (a1 < 0) = true := decide_eq_true c3
  clear c3
  simp only [Option.some.injEq, Prod.mk.injEq] at H
  obtain ⟨rfl, rfl, rfl⟩ := H
  go_enter Tryd.func67, Tryd.ntmps67
  go_wp2
  go_ret3
  exact ⟨by first | rfl | (simp [errW_none, errW_some] <;> rfl) | (simp [*, errW_none, errW_some] <;> rfl), by repeat (first | (with_reducible first | exact HB.out | apply below_alloc | apply pw_below_drewN | apply below_drew1) | exact HB.out)⟩
 ·rw [if_neg c3] at H
  have c3b0 : decide (a1 < 0) = false := decide_eq_false c3
  clear c3
  by_cases c4 : a1 ≥ (l0.length : Int)
  ·rw [if_pos c4] at H
   have c4b0 : decide ((l0.length : Int) ≤ a1) = true := decide_eq_true c4
   clear c4
   simp only [Option.some.injEq, Prod.mk.injEq] at H
   obtain ⟨rfl, rfl, rfl⟩ := H
   go_enter Tryd.func67, Tryd.ntmps67
   go_wp2
   go_ret3
   exact ⟨by first | rfl | (simp [errW_none, errW_some] <;> rfl) | (simp [*, errW_none, errW_some] <;> rfl), by repeat (first | (with_reducible first | exact HB.out | apply below_alloc | apply pw_below_drewN | apply below_drew1) | exact HB.out)⟩
  ·rw [if_neg c4] at H
   have c4b0 : decide ((l0.length : Int) ≤ a1) = false := decide_eq_false c4
   clear c4
   replace H := Option.bind_eq_some_iff.mp H
   obtain ⟨⟨t237, t238, t239⟩, A50, H⟩ := H
   replace H : (if t239 = 0 then (if t237 > 1048576 then (some (0, 0, 6)) else (if (wrap64 (t237)) > (wrap64 ((l0.length : Int) - t238)) then (some (0, 0, 3)) else (some (t238, wrap64 (t238 + (wrap64 (t237))), 0)))) else (some (0, 0, t239))) = some (r1, r2, r3) := H
   have A5 := Aside0.mk A50
   clear A50
   by_cases c6 : t239 = 0
   ·rw [if_pos c6] at H
    have c6b0 : (t239 == 0) = true := beq_iff_eq.mpr c6
    have c6b1 : (t239 != 0) = false := bne_eq_false_iff_eq.mpr c6
    clear c6
    by_cases c7 : t237 > 1048576
    ·rw [if_pos c7] at H
     have c7b0 : decide (1048576 < t237) = true := decide_eq_true c7
     clear c7
     simp only [Option.some.injEq, Prod.mk.injEq] at H
     obtain ⟨rfl, rfl, rfl⟩ := H
     go_enter Tryd.func67, Tryd.ntmps67
     go_wp2_with (first | ((with_reducible refine gate_callee (f := 45) rfl ?_); refine goesL_ (some 20) rfl rfl Tryd.func45 (by kernel_rfl) rfl #[.slice A0 l0.length c0, .int .i64 (wrap64 (a1 + 1))] rfl (by (try simp only [List.map_toArray, List.map_cons, List.map_nil]); first | done | rfl | (simp only [List.length_drop, List.length_take]; first | rfl | (rw [Nat.min_eq_left (Int.toNat_le.2 (of_decide_eq_true (by assumption)))]; rfl))) ?_; (with_reducible refine (wire_TakeVary.calls k _ _ l0 (wrap64 (a1 + 1)) t237 t238 t239 _ ?side1 ?side2 A5.out).mono ?_); (case side1 => repeat (first | exact HR0.out | (with_reducible refine Kd.C_alloc ?_ _) | (with_reducible refine Kd.C_drewN ?_ _) | (with_reducible refine Kd.C_drew ?_))); (case side2 => exact HC0.out); rintro e w8 ⟨rfl, hb⟩; refine ⟨_, rfl, ?_⟩; have n0_ := Aside0.mk (below_step (by repeat (first | (with_reducible first | exact HB.out | apply below_alloc | apply pw_below_drewN | apply below_drew1) | exact HB.out)) hb); clear HB; have HB := n0_; clear n0_; (try clear hb); (try clear hb2); (try clear hk); (try clear hi)))
     go_ret3
     exact ⟨by first | rfl | (simp [errW_none, errW_some] <;> rfl) | (simp [*, errW_none, errW_some] <;> rfl), by repeat (first | (with_reducible first | exact HB.out | apply below_alloc | apply pw_below_drewN | apply below_drew1) | exact HB.out)⟩
    ·rw [if_neg c7] at H
     have c7b0 : decide (1048576 < t237) = false := decide_eq_false c7
     clear c7
     by_cases c9 : (wrap64 (t237)) > (wrap64 ((l0.length : Int) - t238))
     ·rw [if_pos c9] at H
      have c9b0 : decide ((wrap64 ((l0.length : Int) - t238)) < (wrap64 (t237))) = true := decide_eq_true c9
      clear c9
      simp only [Option.some.injEq, Prod.mk.injEq] at H
      obtain ⟨rfl, rfl, rfl⟩ := H
      go_enter Tryd.func67, Tryd.ntmps67
      go_wp2_with (first | ((with_reducible refine gate_callee (f := 45) rfl ?_); refine goesL_ (some 20) rfl rfl Tryd.func45 (by kernel_rfl) rfl #[.slice A0 l0.length c0, .int .i64 (wrap64 (a1 + 1))] rfl (by (try simp only [List.map_toArray, List.map_cons, List.map_nil]); first | done | rfl | (simp only [List.length_drop, List.length_take]; first | rfl | (rw [Nat.min_eq_left (Int.toNat_le.2 (of_decide_eq_true (by assumption)))]; rfl))) ?_; (with_reducible refine (wire_TakeVary.calls k _ _ l0 (wrap64 (a1 + 1)) t237 t238 t239 _ ?side1 ?side2 A5.out).mono ?_); (case side1 => repeat (first | exact HR0.out | (with_reducible refine Kd.C_alloc ?_ _) | (with_reducible refine Kd.C_drewN ?_ _) | (with_reducible refine Kd.C_drew ?_))); (case side2 => exact HC0.out); rintro e w10 ⟨rfl, hb⟩; refine ⟨_, rfl, ?_⟩; have n0_ := Aside0.mk (below_step (by repeat (first | (with_reducible first | exact HB.out | apply below_alloc | apply pw_below_drewN | apply below_drew1) | exact HB.out)) hb); clear HB; have HB := n0_; clear n0_; (try clear hb); (try clear hb2); (try clear hk); (try clear hi)))
      go_ret3
      exact ⟨by first | rfl | (simp [errW_none, errW_some] <;> rfl) | (simp [*, errW_none, errW_some] <;> rfl), by repeat (first | (with_reducible first | exact HB.out | apply below_alloc | apply pw_below_drewN | apply below_drew1) | exact HB.out)⟩
     ·rw [if_neg c9] at H
      have c9b0 : decide ((wrap64 ((l0.length : Int) - t238)) < (wrap64 (t237))) = false := decide_eq_false c9
      clear c9
      simp only [Option.some.injEq, Prod.mk.injEq] at H
      obtain ⟨rfl, rfl, rfl⟩ := H
      go_enter Tryd.func67, Tryd.ntmps67
      go_wp2_with (first | ((with_reducible refine gate_callee (f := 45) rfl ?_); refine goesL_ (some 20) rfl rfl Tryd.func45 (by kernel_rfl) rfl #[.slice A0 l0.length c0, .int .i64 (wrap64 (a1 + 1))] rfl (by (try simp only [List.map_toArray, List.map_cons, List.map_nil]); first | done | rfl | (simp only [List.length_drop, List.length_take]; first | rfl | (rw [Nat.min_eq_left (Int.toNat_le.2 (of_decide_eq_true (by assumption)))]; rfl))) ?_; (with_reducible refine (wire_TakeVary.calls k _ _ l0 (wrap64 (a1 + 1)) t237 t238 t239 _ ?side1 ?side2 A5.out).mono ?_); (case side1 => repeat (first | exact HR0.out | (with_reducible refine Kd.C_alloc ?_ _) | (with_reducible refine Kd.C_drewN ?_ _) | (with_reducible refine Kd.C_drew ?_))); (case side2 => exact HC0.out); rintro e w11 ⟨rfl, hb⟩; refine ⟨_, rfl, ?_⟩; have n0_ := Aside0.mk (below_step (by repeat (first | (with_reducible first | exact HB.out | apply below_alloc | apply pw_below_drewN | apply below_drew1) | exact HB.out)) hb); clear HB; have HB := n0_; clear n0_; (try clear hb); (try clear hb2); (try clear hk); (try clear hi)))
      go_ret3
      exact ⟨by first | rfl | (simp [errW_none, errW_some] <;> rfl) | (simp [*, errW_none, errW_some] <;> rfl), by repeat (first | (with_reducible first | exact HB.out | apply below_alloc | apply pw_below_drewN | apply below_drew1) | exact HB.out)⟩
   ·rw [if_neg c6] at H
    have c6b0 : (t239 == 0) = false := beq_eq_false_iff_ne.mpr c6
    have c6b1 : (t239 != 0) = true := bne_iff_ne.mpr c6
    simp only [Option.some.injEq, Prod.mk.injEq] at H
    obtain ⟨rfl, rfl, rfl⟩ := H
    go_enter Tryd.func67, Tryd.ntmps67
    go_wp2_with (first | ((with_reducible refine gate_callee (f := 45) rfl ?_); refine goesL_ (some 20) rfl rfl Tryd.func45 (by kernel_rfl) rfl #[.slice A0 l0.length c0, .int .i64 (wrap64 (a1 + 1))] rfl (by (try simp only [List.map_toArray, List.map_cons, List.map_nil]); first | done | rfl | (simp only [List.length_drop, List.length_take]; first | rfl | (rw [Nat.min_eq_left (Int.toNat_le.2 (of_decide_eq_true (by assumption)))]; rfl))) ?_; (with_reducible refine (wire_TakeVary.calls k _ _ l0 (wrap64 (a1 + 1)) t237 t238 t239 _ ?side1 ?side2 A5.out).mono ?_); (case side1 => repeat (first | exact HR0.out | (with_reducible refine Kd.C_alloc ?_ _) | (with_reducible refine Kd.C_drewN ?_ _) | (with_reducible refine Kd.C_drew ?_))); (case side2 => exact HC0.out); rintro e w12 ⟨rfl, hb⟩; refine ⟨_, rfl, ?_⟩; have n0_ := Aside0.mk (below_step (by repeat (first | (with_reducible first | exact HB.out | apply below_alloc | apply pw_below_drewN | apply below_drew1) | exact HB.out)) hb); clear HB; have HB := n0_; clear n0_; (try clear hb); (try clear hb2); (try clear hk); (try clear hi)))
    go_ret3
    exact ⟨by first | rfl | (simp [errW_none, errW_some] <;> rfl) | (simp [*, errW_none, errW_some] <;> rfl), by repeat (first | (with_reducible first | exact HB.out | apply below_alloc | apply pw_below_drewN | apply below_drew1) | exact HB.out)⟩

end Go.Proofs.YtcbjbgleflbpmaaDoor.Print
