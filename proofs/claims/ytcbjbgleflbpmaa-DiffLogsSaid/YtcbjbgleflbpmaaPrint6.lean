-- PRINTED by print.py (a twelfth state) out of the translation. Not trusted: Lean checks it.
import Derived.Test.YtcbjbgleflbpmaaPrint0
import Derived.Test.YtcbjbgleflbpmaaPrint1
import Derived.Test.YtcbjbgleflbpmaaPrint2
import Derived.Test.YtcbjbgleflbpmaaPrint5
namespace Go.Proofs.Ytcbjbgleflbpmaa.Print
open Go.RowKit Go.Proofs.YtcbjbgleflbpmaaW.PrintWords Go.Proofs.YtcbjbgleflbpmaaW.PrintLast Go.Proofs.YtcbjbgleflbpmaaW.PrintMore Go.Proofs.YtcbjbgleflbpmaaX
attribute [local go_sem] str_lss str_geq max2_int min2_int max_two min_two max_three min_three max_four min_four   -- for this text's walks alone
set_option linter.unusedVariables false
set_option linter.unusedSimpArgs false

attribute [local go_sem high] eqA25 eqA27
/-! ### palletlaw23_live: function 4 -/
def palletlaw23_live.f (k : Nat)  : Option (Bool) := (some (([(⟨1, 1, 0, 0, 0⟩ : S25), (⟨2, 1, 0, 0, 0⟩ : S25)] : List (S25)) : List (S25))).bind fun y110 => ((some (([(⟨1, 1, 0, 0, 0⟩ : S25), (⟨2, 2, 0, 0, 0⟩ : S25)] : List (S25)) : List (S25))).bind fun y113 => ((diff_Events.f k y110 y113).bind fun bt116 => ((diff_Events.f k y110 y110).bind fun bt129 => (if (bt129.1 == 2 && (bt129.2.1 == 0 && ((bt129.2.2.1 == 0 && (bt129.2.2.2.1 == 0 && (bt129.2.2.2.2.1 == 0 && (bt129.2.2.2.2.2.1 == 0 && (bt129.2.2.2.2.2.2.1 == 0))))) && ((bt129.2.2.2.2.2.2.2.1 == 0 && (bt129.2.2.2.2.2.2.2.2.1 == 0 && (bt129.2.2.2.2.2.2.2.2.2.1 == 0 && (bt129.2.2.2.2.2.2.2.2.2.2.1 == 0 && (bt129.2.2.2.2.2.2.2.2.2.2.2 == 0))))))))) = true then (if bt116.1 = 1 then (if bt116.2.1 = 1 then (if 1 < (y110.length : Int) then (if (bt116.2.2.1 == ((rd_T25 y110 1).f0) && (bt116.2.2.2.1 == ((rd_T25 y110 1).f1) && (bt116.2.2.2.2.1 == ((rd_T25 y110 1).f2) && (bt116.2.2.2.2.2.1 == ((rd_T25 y110 1).f3) && (bt116.2.2.2.2.2.2.1 == ((rd_T25 y110 1).f4)))))) = true then (if 1 < (y113.length : Int) then (some (bt116.2.2.2.2.2.2.2.1 == ((rd_T25 y113 1).f0) && (bt116.2.2.2.2.2.2.2.2.1 == ((rd_T25 y113 1).f1) && (bt116.2.2.2.2.2.2.2.2.2.1 == ((rd_T25 y113 1).f2) && (bt116.2.2.2.2.2.2.2.2.2.2.1 == ((rd_T25 y113 1).f3) && (bt116.2.2.2.2.2.2.2.2.2.2.2 == ((rd_T25 y113 1).f4))))))) else (none)) else (none)) else (none)) else (none)) else (none)) else (none)))))
theorem palletlaw23_live.mono : ∀ k, LeO (palletlaw23_live.f k ) (palletlaw23_live.f (k + 1) ) := by
 intro  k
 unfold palletlaw23_live.f
 repeat' first
   | (with_reducible exact diff_Events.mono _ _ _)
   | (with_reducible exact LeO.refl _)
   | (with_reducible exact LeO.none _)
   | (with_reducible refine LeO.ite ?_ ?_)
   | (with_reducible refine LeO.bind ?_ (fun _ => ?_))
   | exact diff_Events.mono _ _ _
   | exact LeO.none _
   | refine LeO.ite ?_ ?_
   | refine LeO.bind ?_ (fun _ => ?_)
def palletlaw23_live.T4 : Bool × List (List Nat × List Nat) := (true, [([], []), ([], []), ([0, 1], [0, 1]), ([], []), ([2, 3], [2, 3]), ([4, 2], [4]), ([5], [5]), ([6, 5], [5, 6]), ([7, 5], [5, 7]), ([5, 8], [5, 8]), ([9, 5], [9]), ([10], [10]), ([11, 10], [10, 11]), ([12, 10], [10, 12]), ([10, 13], [10, 13]), ([14, 10], [14]), ([15], [15]), ([16, 15], [15, 16]), ([15], [15]), ([18, 15], [15, 18]), ([19, 15], [15, 19]), ([17, 20, 15], [15, 17, 20]), ([15, 21], [15, 21]), ([22, 15], [22]), ([23], [23]), ([24, 23], [23, 24]), ([23], [23]), ([26, 23], [23, 26]), ([27, 23], [23, 27]), ([25, 28, 23], [23, 25, 28]), ([23, 29], [23, 29]), ([30, 23, 0, 1, 2, 3, 4, 5, 6, 7, 8, 9, 10, 11, 12, 13, 14, 15, 16, 17, 18, 19, 20, 21, 22, 23, 24, 25, 26, 27, 28, 29, 30], [30])])
def palletlaw23_live.B4 : List Nat := [0, 0, 3, 0, 15, 31, 63, 127, 255, 511, 1023, 2047, 4095, 8191, 16383, 32767, 65535, 131071, 65535, 327679, 851967, 2097151, 4194303, 8388607, 16777215, 33554431, 16777215, 83886079, 218103807, 536870911, 1073741823, 2147483647]
theorem palletlaw23_live.tab4 : rtab .any (opsOf Try.f4 4) = palletlaw23_live.T4 := by kernel_rfl
theorem palletlaw23_live.bits4 : waitsOk palletlaw23_live.T4.2 palletlaw23_live.B4 = true := by kernel_rfl
set_option maxHeartbeats 8000000 in
set_option maxRecDepth 100000 in
theorem palletlaw23_live.calls (k : Nat)  (r : Bool) (w : World) (h : palletlaw23_live.f k  = some r) :
  Calls Try.prog 4 #[] w fun e w' => e = .returned (.bool r) ∧ Below w.heap.size w w' := by
 have hu25 := Try.underlying25
 have hu27 := Try.underlying27
 have HB := Aside0.mk (Below.refl w.heap.size w)
 have H : ((some (([(⟨1, 1, 0, 0, 0⟩ : S25), (⟨2, 1, 0, 0, 0⟩ : S25)] : List (S25)) : List (S25))).bind fun y110 => ((some (([(⟨1, 1, 0, 0, 0⟩ : S25), (⟨2, 2, 0, 0, 0⟩ : S25)] : List (S25)) : List (S25))).bind fun y113 => ((diff_Events.f k y110 y113).bind fun bt116 => ((diff_Events.f k y110 y110).bind fun bt129 => (if (bt129.1 == 2 && (bt129.2.1 == 0 && ((bt129.2.2.1 == 0 && (bt129.2.2.2.1 == 0 && (bt129.2.2.2.2.1 == 0 && (bt129.2.2.2.2.2.1 == 0 && (bt129.2.2.2.2.2.2.1 == 0))))) && ((bt129.2.2.2.2.2.2.2.1 == 0 && (bt129.2.2.2.2.2.2.2.2.1 == 0 && (bt129.2.2.2.2.2.2.2.2.2.1 == 0 && (bt129.2.2.2.2.2.2.2.2.2.2.1 == 0 && (bt129.2.2.2.2.2.2.2.2.2.2.2 == 0))))))))) = true then (if bt116.1 = 1 then (if bt116.2.1 = 1 then (if 1 < (y110.length : Int) then (if (bt116.2.2.1 == ((rd_T25 y110 1).f0) && (bt116.2.2.2.1 == ((rd_T25 y110 1).f1) && (bt116.2.2.2.2.1 == ((rd_T25 y110 1).f2) && (bt116.2.2.2.2.2.1 == ((rd_T25 y110 1).f3) && (bt116.2.2.2.2.2.2.1 == ((rd_T25 y110 1).f4)))))) = true then (if 1 < (y113.length : Int) then (some (bt116.2.2.2.2.2.2.2.1 == ((rd_T25 y113 1).f0) && (bt116.2.2.2.2.2.2.2.2.1 == ((rd_T25 y113 1).f1) && (bt116.2.2.2.2.2.2.2.2.2.1 == ((rd_T25 y113 1).f2) && (bt116.2.2.2.2.2.2.2.2.2.2.1 == ((rd_T25 y113 1).f3) && (bt116.2.2.2.2.2.2.2.2.2.2.2 == ((rd_T25 y113 1).f4))))))) else (none)) else (none)) else (none)) else (none)) else (none)) else (none)))))) = some r := h
 clear h
 obtain ⟨y110, hy110⟩ : ∃ y_ : List (S25), y_ = (([(⟨1, 1, 0, 0, 0⟩ : S25), (⟨2, 1, 0, 0, 0⟩ : S25)] : List (S25))) := ⟨_, rfl⟩
 replace H : ((some (([(⟨1, 1, 0, 0, 0⟩ : S25), (⟨2, 2, 0, 0, 0⟩ : S25)] : List (S25)) : List (S25))).bind fun y113 => ((diff_Events.f k y110 y113).bind fun bt116 => ((diff_Events.f k y110 y110).bind fun bt129 => (if (bt129.1 == 2 && (bt129.2.1 == 0 && ((bt129.2.2.1 == 0 && (bt129.2.2.2.1 == 0 && (bt129.2.2.2.2.1 == 0 && (bt129.2.2.2.2.2.1 == 0 && (bt129.2.2.2.2.2.2.1 == 0))))) && ((bt129.2.2.2.2.2.2.2.1 == 0 && (bt129.2.2.2.2.2.2.2.2.1 == 0 && (bt129.2.2.2.2.2.2.2.2.2.1 == 0 && (bt129.2.2.2.2.2.2.2.2.2.2.1 == 0 && (bt129.2.2.2.2.2.2.2.2.2.2.2 == 0))))))))) = true then (if bt116.1 = 1 then (if bt116.2.1 = 1 then (if 1 < (y110.length : Int) then (if (bt116.2.2.1 == ((rd_T25 y110 1).f0) && (bt116.2.2.2.1 == ((rd_T25 y110 1).f1) && (bt116.2.2.2.2.1 == ((rd_T25 y110 1).f2) && (bt116.2.2.2.2.2.1 == ((rd_T25 y110 1).f3) && (bt116.2.2.2.2.2.2.1 == ((rd_T25 y110 1).f4)))))) = true then (if 1 < (y113.length : Int) then (some (bt116.2.2.2.2.2.2.2.1 == ((rd_T25 y113 1).f0) && (bt116.2.2.2.2.2.2.2.2.1 == ((rd_T25 y113 1).f1) && (bt116.2.2.2.2.2.2.2.2.2.1 == ((rd_T25 y113 1).f2) && (bt116.2.2.2.2.2.2.2.2.2.2.1 == ((rd_T25 y113 1).f3) && (bt116.2.2.2.2.2.2.2.2.2.2.2 == ((rd_T25 y113 1).f4))))))) else (none)) else (none)) else (none)) else (none)) else (none)) else (none))))) = some r := by first | (rw [hy110]; with_reducible exact H) | (have H2_ := (Option.bind_some _ _).symm.trans H; rw [hy110]; with_reducible exact H2_) | (have H2_ := (Option.bind_some _ _).symm.trans H; with_reducible exact H2_) | with_reducible exact H | (rw [hy110]; exact H) | exact H
 have Ny110 := Aside0.mk hy110
 clear hy110
 obtain ⟨y113, hy113⟩ : ∃ y_ : List (S25), y_ = (([(⟨1, 1, 0, 0, 0⟩ : S25), (⟨2, 2, 0, 0, 0⟩ : S25)] : List (S25))) := ⟨_, rfl⟩
 replace H : ((diff_Events.f k y110 y113).bind fun bt116 => ((diff_Events.f k y110 y110).bind fun bt129 => (if (bt129.1 == 2 && (bt129.2.1 == 0 && ((bt129.2.2.1 == 0 && (bt129.2.2.2.1 == 0 && (bt129.2.2.2.2.1 == 0 && (bt129.2.2.2.2.2.1 == 0 && (bt129.2.2.2.2.2.2.1 == 0))))) && ((bt129.2.2.2.2.2.2.2.1 == 0 && (bt129.2.2.2.2.2.2.2.2.1 == 0 && (bt129.2.2.2.2.2.2.2.2.2.1 == 0 && (bt129.2.2.2.2.2.2.2.2.2.2.1 == 0 && (bt129.2.2.2.2.2.2.2.2.2.2.2 == 0))))))))) = true then (if bt116.1 = 1 then (if bt116.2.1 = 1 then (if 1 < (y110.length : Int) then (if (bt116.2.2.1 == ((rd_T25 y110 1).f0) && (bt116.2.2.2.1 == ((rd_T25 y110 1).f1) && (bt116.2.2.2.2.1 == ((rd_T25 y110 1).f2) && (bt116.2.2.2.2.2.1 == ((rd_T25 y110 1).f3) && (bt116.2.2.2.2.2.2.1 == ((rd_T25 y110 1).f4)))))) = true then (if 1 < (y113.length : Int) then (some (bt116.2.2.2.2.2.2.2.1 == ((rd_T25 y113 1).f0) && (bt116.2.2.2.2.2.2.2.2.1 == ((rd_T25 y113 1).f1) && (bt116.2.2.2.2.2.2.2.2.2.1 == ((rd_T25 y113 1).f2) && (bt116.2.2.2.2.2.2.2.2.2.2.1 == ((rd_T25 y113 1).f3) && (bt116.2.2.2.2.2.2.2.2.2.2.2 == ((rd_T25 y113 1).f4))))))) else (none)) else (none)) else (none)) else (none)) else (none)) else (none)))) = some r := by first | (rw [hy113]; with_reducible exact H) | (have H2_ := (Option.bind_some _ _).symm.trans H; rw [hy113]; with_reducible exact H2_) | (have H2_ := (Option.bind_some _ _).symm.trans H; with_reducible exact H2_) | with_reducible exact H | (rw [hy113]; exact H) | exact H
 have Ny113 := Aside0.mk hy113
 clear hy113
 replace H := Option.bind_eq_some_iff.mp H
 obtain ⟨⟨t116, t117, t118, t119, t120, t121, t122, t123, t124, t125, t126, t127⟩, A10, H⟩ := H
 replace H : ((diff_Events.f k y110 y110).bind fun bt129 => (if (bt129.1 == 2 && (bt129.2.1 == 0 && ((bt129.2.2.1 == 0 && (bt129.2.2.2.1 == 0 && (bt129.2.2.2.2.1 == 0 && (bt129.2.2.2.2.2.1 == 0 && (bt129.2.2.2.2.2.2.1 == 0))))) && ((bt129.2.2.2.2.2.2.2.1 == 0 && (bt129.2.2.2.2.2.2.2.2.1 == 0 && (bt129.2.2.2.2.2.2.2.2.2.1 == 0 && (bt129.2.2.2.2.2.2.2.2.2.2.1 == 0 && (bt129.2.2.2.2.2.2.2.2.2.2.2 == 0))))))))) = true then (if t116 = 1 then (if t117 = 1 then (if 1 < (y110.length : Int) then (if (t118 == ((rd_T25 y110 1).f0) && (t119 == ((rd_T25 y110 1).f1) && (t120 == ((rd_T25 y110 1).f2) && (t121 == ((rd_T25 y110 1).f3) && (t122 == ((rd_T25 y110 1).f4)))))) = true then (if 1 < (y113.length : Int) then (some (t123 == ((rd_T25 y113 1).f0) && (t124 == ((rd_T25 y113 1).f1) && (t125 == ((rd_T25 y113 1).f2) && (t126 == ((rd_T25 y113 1).f3) && (t127 == ((rd_T25 y113 1).f4))))))) else (none)) else (none)) else (none)) else (none)) else (none)) else (none))) = some r := H
 have A1 := Aside0.mk A10
 clear A10
 replace H := Option.bind_eq_some_iff.mp H
 obtain ⟨⟨t129, t130, t131, t132, t133, t134, t135, t136, t137, t138, t139, t140⟩, A20, H⟩ := H
 replace H : (if (t129 == 2 && (t130 == 0 && ((t131 == 0 && (t132 == 0 && (t133 == 0 && (t134 == 0 && (t135 == 0))))) && ((t136 == 0 && (t137 == 0 && (t138 == 0 && (t139 == 0 && (t140 == 0))))))))) = true then (if t116 = 1 then (if t117 = 1 then (if 1 < (y110.length : Int) then (if (t118 == ((rd_T25 y110 1).f0) && (t119 == ((rd_T25 y110 1).f1) && (t120 == ((rd_T25 y110 1).f2) && (t121 == ((rd_T25 y110 1).f3) && (t122 == ((rd_T25 y110 1).f4)))))) = true then (if 1 < (y113.length : Int) then (some (t123 == ((rd_T25 y113 1).f0) && (t124 == ((rd_T25 y113 1).f1) && (t125 == ((rd_T25 y113 1).f2) && (t126 == ((rd_T25 y113 1).f3) && (t127 == ((rd_T25 y113 1).f4))))))) else (none)) else (none)) else (none)) else (none)) else (none)) else (none)) = some r := H
 have A2 := Aside0.mk A20
 clear A20
 by_cases c3 : (t129 == 2 && (t130 == 0 && ((t131 == 0 && (t132 == 0 && (t133 == 0 && (t134 == 0 && (t135 == 0))))) && ((t136 == 0 && (t137 == 0 && (t138 == 0 && (t139 == 0 && (t140 == 0))))))))) = true
 ·rw [if_pos c3] at H
  have c3b0 : (t129 == 2 && (t130 == 0 && ((t131 == 0 && (t132 == 0 && (t133 == 0 && (t134 == 0 && (t135 == 0))))) && ((t136 == 0 && (t137 == 0 && (t138 == 0 && (t139 == 0 && (t140 == 0))))))))) = true := c3
  (try (have c3b1 : decide (t129 = 2 && (t130 == 0 && ((t131 == 0 && (t132 == 0 && (t133 == 0 && (t134 == 0 && (t135 == 0))))) && ((t136 == 0 && (t137 == 0 && (t138 == 0 && (t139 == 0 && (t140 == 0))))))))) = true := by simpa using c3))
  (try (have c3b2 : (t129 == 2 && (t130 == 0 && ((t131 == 0 && (t132 == 0 && (t133 == 0 && (t134 == 0 && (t135 == 0))))) && ((t136 == 0 && (t137 == 0 && (t138 == 0 && (t139 == 0 && (t140 == 0))))))))) = true := by simpa using c3))
  clear c3
  by_cases c4 : t116 = 1
  ·rw [if_pos c4] at H
   have c4b0 : (t116 == 1) = true := beq_iff_eq.mpr c4
   have c4b1 : (t116 != 1) = false := bne_eq_false_iff_eq.mpr c4
   clear c4
   by_cases c5 : t117 = 1
   ·rw [if_pos c5] at H
    have c5b0 : (t117 == 1) = true := beq_iff_eq.mpr c5
    have c5b1 : (t117 != 1) = false := bne_eq_false_iff_eq.mpr c5
    clear c5
    by_cases c6 : 1 < (y110.length : Int)
    ·rw [if_pos c6] at H
     have c6b0 : decide (1 < (y110.length : Int)) = true := decide_eq_true c6
     have c6b1 : decide (1 < y110.length) = true := decide_eq_true (by omega)
     clear c6
     by_cases c7 : (t118 == ((rd_T25 y110 1).f0) && (t119 == ((rd_T25 y110 1).f1) && (t120 == ((rd_T25 y110 1).f2) && (t121 == ((rd_T25 y110 1).f3) && (t122 == ((rd_T25 y110 1).f4)))))) = true
     ·rw [if_pos c7] at H
      have c7b0 : (t118 == ((rd_T25 y110 1).f0) && (t119 == ((rd_T25 y110 1).f1) && (t120 == ((rd_T25 y110 1).f2) && (t121 == ((rd_T25 y110 1).f3) && (t122 == ((rd_T25 y110 1).f4)))))) = true := c7
      (try (have c7b1 : decide (t118 = ((rd_T25 y110 1).f0) && (t119 == ((rd_T25 y110 1).f1) && (t120 == ((rd_T25 y110 1).f2) && (t121 == ((rd_T25 y110 1).f3) && (t122 == ((rd_T25 y110 1).f4)))))) = true := by simpa using c7))
      (try (have c7b2 : (t118 == ((rd_T25 y110 1).f0) && (t119 == ((rd_T25 y110 1).f1) && (t120 == ((rd_T25 y110 1).f2) && (t121 == ((rd_T25 y110 1).f3) && (t122 == ((rd_T25 y110 1).f4)))))) = true := by simpa using c7))
      clear c7
      by_cases c8 : 1 < (y113.length : Int)
      ·rw [if_pos c8] at H
       have c8b0 : decide (1 < (y113.length : Int)) = true := decide_eq_true c8
       have c8b1 : decide (1 < y113.length) = true := decide_eq_true (by omega)
       clear c8
       obtain rfl := Option.some.inj H
       go_enter Try.func4, Try.ntmps4
       try go_wp2_with (first | ((with_reducible refine gate_dst (N := 6) rfl ?_); refine Kd.R_lit k25 _ 25 ?hg (N := 6) ?hd (xs := ([(⟨1, 1, 0, 0, 0⟩ : S25), (⟨2, 1, 0, 0, 0⟩ : S25)] : List (S25))) (inner := [.int .i64 1, .int .i64 1, .int .i64 0, .int .i64 0, .int .i64 0, .int .i64 2, .int .i64 1, .int .i64 0, .int .i64 0, .int .i64 0]) (ok := fun _ => True) (okp := fun _ => True) ?hr ?hp (fun _ hk => hk) trivial (Below.refl _ _) (Nat.le_refl _) (by simp) ?_; (case hd => rfl); (case hg => rfl); (case hr => first | (go_simp; done) | (go_simp; rfl)); (case hp => exact (Reps.c5 (show Kd.M k25 _ _ _ (⟨1, 1, 0, 0, 0⟩ : S25) [.int .i64 1, .int .i64 1, .int .i64 0, .int .i64 0, .int .i64 0] from (k25_mkM _ _ _ (⟨1, 1, 0, 0, 0⟩ : S25) )) (Reps.c5 (show Kd.M k25 _ _ _ (⟨2, 1, 0, 0, 0⟩ : S25) [.int .i64 2, .int .i64 1, .int .i64 0, .int .i64 0, .int .i64 0] from (k25_mkM _ _ _ (⟨2, 1, 0, 0, 0⟩ : S25) )) (Reps.none _ _)))); intro v111 w9 ho10 hb hg_ hnew_; clear hg_ hnew_; (first | rw [← Ny110.out] at ho10 | (simp only [Int.reduceToNat] at ho10; rw [← Ny110.out] at ho10)); have n0_ := Aside0.mk (Kd.R_lower ho10 (below_size (by repeat (first | (with_reducible first | exact HB.out | apply below_alloc | apply pw_below_drewN | apply below_drew1) | exact HB.out)))); have n1_ := Aside0.mk (below_step (by repeat (first | (with_reducible first | exact HB.out | apply below_alloc | apply pw_below_drewN | apply below_drew1) | exact HB.out)) hb); clear HB; have HO112 := n0_; have HB := n1_; clear n0_ n1_; clear hb ho10) | ((with_reducible refine gate_dst (N := 9) rfl ?_); refine Kd.R_lit k25 _ 25 ?hg (N := 9) ?hd (xs := ([(⟨1, 1, 0, 0, 0⟩ : S25), (⟨2, 2, 0, 0, 0⟩ : S25)] : List (S25))) (inner := [.int .i64 1, .int .i64 1, .int .i64 0, .int .i64 0, .int .i64 0, .int .i64 2, .int .i64 2, .int .i64 0, .int .i64 0, .int .i64 0]) (ok := fun _ => True) (okp := fun _ => True) ?hr ?hp (fun _ hk => hk) trivial (Below.refl _ _) (Nat.le_refl _) (by simp) ?_; (case hd => rfl); (case hg => rfl); (case hr => first | (go_simp; done) | (go_simp; rfl)); (case hp => exact (Reps.c5 (show Kd.M k25 _ _ _ (⟨1, 1, 0, 0, 0⟩ : S25) [.int .i64 1, .int .i64 1, .int .i64 0, .int .i64 0, .int .i64 0] from (k25_mkM _ _ _ (⟨1, 1, 0, 0, 0⟩ : S25) )) (Reps.c5 (show Kd.M k25 _ _ _ (⟨2, 2, 0, 0, 0⟩ : S25) [.int .i64 2, .int .i64 2, .int .i64 0, .int .i64 0, .int .i64 0] from (k25_mkM _ _ _ (⟨2, 2, 0, 0, 0⟩ : S25) )) (Reps.none _ _)))); intro v114 w11 ho12 hb hg_ hnew_; clear hg_ hnew_; (first | rw [← Ny113.out] at ho12 | (simp only [Int.reduceToNat] at ho12; rw [← Ny113.out] at ho12)); have n0_ := Aside0.mk (Kd.R_elder' (by (with_reducible repeat (first | apply Kd.R_alloc | apply Kd.R_drewN | apply Kd.R_drew)); exact HO112.out) (Kd.R_base ho12) hb); have n1_ := Aside0.mk (Kd.R_lower (Kd.R_new' ho12 (Kd.R_lt (by (with_reducible repeat (first | apply Kd.R_alloc | apply Kd.R_drewN | apply Kd.R_drew)); exact HO112.out))) (below_size (by repeat (first | (with_reducible first | exact HB.out | apply below_alloc | apply pw_below_drewN | apply below_drew1) | exact HB.out)))); have n2_ := Aside0.mk (below_step (by repeat (first | (with_reducible first | exact HB.out | apply below_alloc | apply pw_below_drewN | apply below_drew1) | exact HB.out)) hb); clear HO112; clear HB; have HO112 := n0_; have HO115 := n1_; have HB := n2_; clear n0_ n1_ n2_; clear hb ho12; obtain ⟨Ao13, co13, eo13⟩ := Kd.R_slice HO112.out; subst eo13; obtain ⟨Ao14, co14, eo14⟩ := Kd.R_slice HO115.out; subst eo14) | ((with_reducible refine gate_callee (f := 7) rfl ?_); refine goesL_ (some 12) rfl rfl Try.func7 (by kernel_rfl) rfl #[.slice Ao13 y110.length co13, .slice Ao14 y113.length co14] rfl (by (try simp only [List.map_toArray, List.map_cons, List.map_nil]); first | done | rfl | (simp only [List.length_drop, List.length_take]; first | rfl | (rw [Nat.min_eq_left (Int.toNat_le.2 (of_decide_eq_true (by assumption)))]; rfl))) ?_; (with_reducible refine (diff_Events.calls k _ _ y110 _ _ y113 t116 t117 t118 t119 t120 t121 t122 t123 t124 t125 t126 t127 _ ?side1 ?side2 ?side3 ?side4 A1.out).mono ?_); (case side1 => repeat (first | exact (Kd.R_reads' HO112.out).2.2 | (with_reducible refine Kd.C_alloc ?_ _) | (with_reducible refine Kd.C_drewN ?_ _) | (with_reducible refine Kd.C_drew ?_))); (case side2 => exact (Kd.R_reads' HO112.out).2.1); (case side3 => repeat (first | exact (Kd.R_reads' HO115.out).2.2 | (with_reducible refine Kd.C_alloc ?_ _) | (with_reducible refine Kd.C_drewN ?_ _) | (with_reducible refine Kd.C_drew ?_))); (case side4 => exact (Kd.R_reads' HO115.out).2.1); rintro e w15 ⟨rfl, hb⟩; refine ⟨_, rfl, ?_⟩; have n0_ := Aside0.mk (Kd.R_below (by (with_reducible repeat (first | apply Kd.R_alloc | apply Kd.R_drewN | apply Kd.R_drew)); exact HO112.out) hb); have n1_ := Aside0.mk (Kd.R_below (by (with_reducible repeat (first | apply Kd.R_alloc | apply Kd.R_drewN | apply Kd.R_drew)); exact HO115.out) hb); have n2_ := Aside0.mk (below_step (by repeat (first | (with_reducible first | exact HB.out | apply below_alloc | apply pw_below_drewN | apply below_drew1) | exact HB.out)) hb); clear HO112; clear HO115; clear HB; have HO112 := n0_; have HO115 := n1_; have HB := n2_; clear n0_ n1_ n2_; (try clear hb); (try clear hb2); (try clear hk); (try clear hi)) | ((with_reducible refine gate_dst (N := 3) rfl ?_); refine box_event ?hg (N := 3) ?hd (cs := #[.int .i64 0, .int .i64 0, .int .i64 0, .int .i64 0, .int .i64 0, .int .i64 0, .int .i64 0, .int .i64 0, .int .i64 0, .int .i64 0, .int .i64 0, .int .i64 0]) (t := 27) ?hr ?_; (case hd => rfl); (case hg => rfl); (case hr => first | (go_simp; done) | (go_simp; rfl)); intro gb128 hg w16 hbox hb; have n0_ := Aside0.mk (Kd.R_below (by (with_reducible repeat (first | apply Kd.R_alloc | apply Kd.R_drewN | apply Kd.R_drew)); exact HO112.out) hb); have n1_ := Aside0.mk (Kd.R_below (by (with_reducible repeat (first | apply Kd.R_alloc | apply Kd.R_drewN | apply Kd.R_drew)); exact HO115.out) hb); have n2_ := Aside0.mk (below_step (by repeat (first | (with_reducible first | exact HB.out | apply below_alloc | apply pw_below_drewN | apply below_drew1) | exact HB.out)) hb); have n3_ := Aside0.mk (hbox); have n4_ := Aside0.mk ((by rw [hg]; exact (below_size (by repeat (first | (with_reducible first | exact HB.out | apply below_alloc | apply pw_below_drewN | apply below_drew1) | exact HB.out))) : w.heap.size ≤ gb128)); have n5_ := Aside0.mk ((by rw [hg]; exact (below_size (by repeat (first | (with_reducible first | exact HB.out | apply below_alloc | apply pw_below_drewN | apply below_drew1) | exact HB.out))) : w.heap.size ≤ gb128)); clear HO112; clear HO115; clear HB; have HO112 := n0_; have HO115 := n1_; have HB := n2_; have BK128 := n3_; have GW128 := n4_; have GE128 := n5_; clear n0_ n1_ n2_ n3_ n4_ n5_; clear hb hbox hg; have hcz17_0 : w16.cell? ⟨gb128, 0, none⟩ = some (.int .i64 0) := (blk_cell BK128.out 0).trans rfl; have hcz17_1 : w16.cell? ⟨gb128, 1, none⟩ = some (.int .i64 0) := (blk_cell BK128.out 1).trans rfl; have hcz17_2 : w16.cell? ⟨gb128, 2, none⟩ = some (.int .i64 0) := (blk_cell BK128.out 2).trans rfl; have hcz17_3 : w16.cell? ⟨gb128, 3, none⟩ = some (.int .i64 0) := (blk_cell BK128.out 3).trans rfl; have hcz17_4 : w16.cell? ⟨gb128, 4, none⟩ = some (.int .i64 0) := (blk_cell BK128.out 4).trans rfl; have hcz17_5 : w16.cell? ⟨gb128, 5, none⟩ = some (.int .i64 0) := (blk_cell BK128.out 5).trans rfl; have hcz17_6 : w16.cell? ⟨gb128, 6, none⟩ = some (.int .i64 0) := (blk_cell BK128.out 6).trans rfl; have hcz17_7 : w16.cell? ⟨gb128, 7, none⟩ = some (.int .i64 0) := (blk_cell BK128.out 7).trans rfl; have hcz17_8 : w16.cell? ⟨gb128, 8, none⟩ = some (.int .i64 0) := (blk_cell BK128.out 8).trans rfl; have hcz17_9 : w16.cell? ⟨gb128, 9, none⟩ = some (.int .i64 0) := (blk_cell BK128.out 9).trans rfl; have hcz17_10 : w16.cell? ⟨gb128, 10, none⟩ = some (.int .i64 0) := (blk_cell BK128.out 10).trans rfl; have hcz17_11 : w16.cell? ⟨gb128, 11, none⟩ = some (.int .i64 0) := (blk_cell BK128.out 11).trans rfl; have hfz17_0 := blk_frozen BK128.out 0; have hfz17_1 := blk_frozen BK128.out 1; have hfz17_2 := blk_frozen BK128.out 2; have hfz17_3 := blk_frozen BK128.out 3; have hfz17_4 := blk_frozen BK128.out 4; have hfz17_5 := blk_frozen BK128.out 5; have hfz17_6 := blk_frozen BK128.out 6; have hfz17_7 := blk_frozen BK128.out 7; have hfz17_8 := blk_frozen BK128.out 8; have hfz17_9 := blk_frozen BK128.out 9; have hfz17_10 := blk_frozen BK128.out 10; have hfz17_11 := blk_frozen BK128.out 11))
       have n0_ : Aside0 (Kd.R k25 25 ((((((((((((w16.setCell ⟨gb128, 0, none⟩ (.int .i64 t116)).setCell ⟨gb128, 1, none⟩ (.int .i64 t117)).setCell ⟨gb128, 2, none⟩ (.int .i64 t118)).setCell ⟨gb128, 3, none⟩ (.int .i64 t119)).setCell ⟨gb128, 4, none⟩ (.int .i64 t120)).setCell ⟨gb128, 5, none⟩ (.int .i64 t121)).setCell ⟨gb128, 6, none⟩ (.int .i64 t122)).setCell ⟨gb128, 7, none⟩ (.int .i64 t123)).setCell ⟨gb128, 8, none⟩ (.int .i64 t124)).setCell ⟨gb128, 9, none⟩ (.int .i64 t125)).setCell ⟨gb128, 10, none⟩ (.int .i64 t126)).setCell ⟨gb128, 11, none⟩ (.int .i64 t127)) w.heap.size (fun k_ => some k_ ≠ (.slice Ao14 y113.length co14 : Value).ownBlock) (.slice Ao13 y110.length co13) y110) := ⟨by (with_reducible repeat (first | apply Kd.R_alloc | apply Kd.R_drewN | apply Kd.R_drew)); exact Kd.R_mono (Kd.R_far (p := ⟨gb128, 11, none⟩) (Kd.R_far (p := ⟨gb128, 10, none⟩) (Kd.R_far (p := ⟨gb128, 9, none⟩) (Kd.R_far (p := ⟨gb128, 8, none⟩) (Kd.R_far (p := ⟨gb128, 7, none⟩) (Kd.R_far (p := ⟨gb128, 6, none⟩) (Kd.R_far (p := ⟨gb128, 5, none⟩) (Kd.R_far (p := ⟨gb128, 4, none⟩) (Kd.R_far (p := ⟨gb128, 3, none⟩) (Kd.R_far (p := ⟨gb128, 2, none⟩) (Kd.R_far (p := ⟨gb128, 1, none⟩) (Kd.R_far (p := ⟨gb128, 0, none⟩) (Kd.R_types HO112.out BK128.out (by decide)) (fun _ hk => hk.2) (.int .i64 t116)) (fun _ hk => hk.2) (.int .i64 t117)) (fun _ hk => hk.2) (.int .i64 t118)) (fun _ hk => hk.2) (.int .i64 t119)) (fun _ hk => hk.2) (.int .i64 t120)) (fun _ hk => hk.2) (.int .i64 t121)) (fun _ hk => hk.2) (.int .i64 t122)) (fun _ hk => hk.2) (.int .i64 t123)) (fun _ hk => hk.2) (.int .i64 t124)) (fun _ hk => hk.2) (.int .i64 t125)) (fun _ hk => hk.2) (.int .i64 t126)) (fun _ hk => hk.2) (.int .i64 t127)) (fun _ hk => hk.1.2)⟩
       have n1_ : Aside0 (Kd.R k25 25 ((((((((((((w16.setCell ⟨gb128, 0, none⟩ (.int .i64 t116)).setCell ⟨gb128, 1, none⟩ (.int .i64 t117)).setCell ⟨gb128, 2, none⟩ (.int .i64 t118)).setCell ⟨gb128, 3, none⟩ (.int .i64 t119)).setCell ⟨gb128, 4, none⟩ (.int .i64 t120)).setCell ⟨gb128, 5, none⟩ (.int .i64 t121)).setCell ⟨gb128, 6, none⟩ (.int .i64 t122)).setCell ⟨gb128, 7, none⟩ (.int .i64 t123)).setCell ⟨gb128, 8, none⟩ (.int .i64 t124)).setCell ⟨gb128, 9, none⟩ (.int .i64 t125)).setCell ⟨gb128, 10, none⟩ (.int .i64 t126)).setCell ⟨gb128, 11, none⟩ (.int .i64 t127)) w.heap.size (fun k_ => some k_ ≠ (.slice Ao13 y110.length co13 : Value).ownBlock) (.slice Ao14 y113.length co14) y113) := ⟨by (with_reducible repeat (first | apply Kd.R_alloc | apply Kd.R_drewN | apply Kd.R_drew)); exact Kd.R_mono (Kd.R_far (p := ⟨gb128, 11, none⟩) (Kd.R_far (p := ⟨gb128, 10, none⟩) (Kd.R_far (p := ⟨gb128, 9, none⟩) (Kd.R_far (p := ⟨gb128, 8, none⟩) (Kd.R_far (p := ⟨gb128, 7, none⟩) (Kd.R_far (p := ⟨gb128, 6, none⟩) (Kd.R_far (p := ⟨gb128, 5, none⟩) (Kd.R_far (p := ⟨gb128, 4, none⟩) (Kd.R_far (p := ⟨gb128, 3, none⟩) (Kd.R_far (p := ⟨gb128, 2, none⟩) (Kd.R_far (p := ⟨gb128, 1, none⟩) (Kd.R_far (p := ⟨gb128, 0, none⟩) (Kd.R_types HO115.out BK128.out (by decide)) (fun _ hk => hk.2) (.int .i64 t116)) (fun _ hk => hk.2) (.int .i64 t117)) (fun _ hk => hk.2) (.int .i64 t118)) (fun _ hk => hk.2) (.int .i64 t119)) (fun _ hk => hk.2) (.int .i64 t120)) (fun _ hk => hk.2) (.int .i64 t121)) (fun _ hk => hk.2) (.int .i64 t122)) (fun _ hk => hk.2) (.int .i64 t123)) (fun _ hk => hk.2) (.int .i64 t124)) (fun _ hk => hk.2) (.int .i64 t125)) (fun _ hk => hk.2) (.int .i64 t126)) (fun _ hk => hk.2) (.int .i64 t127)) (fun _ hk => hk.1.2)⟩
       have n2_ : Aside0 (((((((((((((w16.setCell ⟨gb128, 0, none⟩ (.int .i64 t116)).setCell ⟨gb128, 1, none⟩ (.int .i64 t117)).setCell ⟨gb128, 2, none⟩ (.int .i64 t118)).setCell ⟨gb128, 3, none⟩ (.int .i64 t119)).setCell ⟨gb128, 4, none⟩ (.int .i64 t120)).setCell ⟨gb128, 5, none⟩ (.int .i64 t121)).setCell ⟨gb128, 6, none⟩ (.int .i64 t122)).setCell ⟨gb128, 7, none⟩ (.int .i64 t123)).setCell ⟨gb128, 8, none⟩ (.int .i64 t124)).setCell ⟨gb128, 9, none⟩ (.int .i64 t125)).setCell ⟨gb128, 10, none⟩ (.int .i64 t126)).setCell ⟨gb128, 11, none⟩ (.int .i64 t127)).heap[gb128]? = some (.cells #[.int .i64 t116, .int .i64 t117, .int .i64 t118, .int .i64 t119, .int .i64 t120, .int .i64 t121, .int .i64 t122, .int .i64 t123, .int .i64 t124, .int .i64 t125, .int .i64 t126, .int .i64 t127] 27 (0, 0))) := ⟨by (with_reducible repeat (first | refine blk_drewN ?_ _ | refine blk_drew ?_ | refine blk_alloc ?_ _)); refine blk_put (cs := #[.int .i64 t116, .int .i64 t117, .int .i64 t118, .int .i64 t119, .int .i64 t120, .int .i64 t121, .int .i64 t122, .int .i64 t123, .int .i64 t124, .int .i64 t125, .int .i64 t126, .int .i64 0]) ?_ 11 _ rfl; (with_reducible repeat (first | refine blk_drewN ?_ _ | refine blk_drew ?_ | refine blk_alloc ?_ _)); refine blk_put (cs := #[.int .i64 t116, .int .i64 t117, .int .i64 t118, .int .i64 t119, .int .i64 t120, .int .i64 t121, .int .i64 t122, .int .i64 t123, .int .i64 t124, .int .i64 t125, .int .i64 0, .int .i64 0]) ?_ 10 _ rfl; (with_reducible repeat (first | refine blk_drewN ?_ _ | refine blk_drew ?_ | refine blk_alloc ?_ _)); refine blk_put (cs := #[.int .i64 t116, .int .i64 t117, .int .i64 t118, .int .i64 t119, .int .i64 t120, .int .i64 t121, .int .i64 t122, .int .i64 t123, .int .i64 t124, .int .i64 0, .int .i64 0, .int .i64 0]) ?_ 9 _ rfl; (with_reducible repeat (first | refine blk_drewN ?_ _ | refine blk_drew ?_ | refine blk_alloc ?_ _)); refine blk_put (cs := #[.int .i64 t116, .int .i64 t117, .int .i64 t118, .int .i64 t119, .int .i64 t120, .int .i64 t121, .int .i64 t122, .int .i64 t123, .int .i64 0, .int .i64 0, .int .i64 0, .int .i64 0]) ?_ 8 _ rfl; (with_reducible repeat (first | refine blk_drewN ?_ _ | refine blk_drew ?_ | refine blk_alloc ?_ _)); refine blk_put (cs := #[.int .i64 t116, .int .i64 t117, .int .i64 t118, .int .i64 t119, .int .i64 t120, .int .i64 t121, .int .i64 t122, .int .i64 0, .int .i64 0, .int .i64 0, .int .i64 0, .int .i64 0]) ?_ 7 _ rfl; (with_reducible repeat (first | refine blk_drewN ?_ _ | refine blk_drew ?_ | refine blk_alloc ?_ _)); refine blk_put (cs := #[.int .i64 t116, .int .i64 t117, .int .i64 t118, .int .i64 t119, .int .i64 t120, .int .i64 t121, .int .i64 0, .int .i64 0, .int .i64 0, .int .i64 0, .int .i64 0, .int .i64 0]) ?_ 6 _ rfl; (with_reducible repeat (first | refine blk_drewN ?_ _ | refine blk_drew ?_ | refine blk_alloc ?_ _)); refine blk_put (cs := #[.int .i64 t116, .int .i64 t117, .int .i64 t118, .int .i64 t119, .int .i64 t120, .int .i64 0, .int .i64 0, .int .i64 0, .int .i64 0, .int .i64 0, .int .i64 0, .int .i64 0]) ?_ 5 _ rfl; (with_reducible repeat (first | refine blk_drewN ?_ _ | refine blk_drew ?_ | refine blk_alloc ?_ _)); refine blk_put (cs := #[.int .i64 t116, .int .i64 t117, .int .i64 t118, .int .i64 t119, .int .i64 0, .int .i64 0, .int .i64 0, .int .i64 0, .int .i64 0, .int .i64 0, .int .i64 0, .int .i64 0]) ?_ 4 _ rfl; (with_reducible repeat (first | refine blk_drewN ?_ _ | refine blk_drew ?_ | refine blk_alloc ?_ _)); refine blk_put (cs := #[.int .i64 t116, .int .i64 t117, .int .i64 t118, .int .i64 0, .int .i64 0, .int .i64 0, .int .i64 0, .int .i64 0, .int .i64 0, .int .i64 0, .int .i64 0, .int .i64 0]) ?_ 3 _ rfl; (with_reducible repeat (first | refine blk_drewN ?_ _ | refine blk_drew ?_ | refine blk_alloc ?_ _)); refine blk_put (cs := #[.int .i64 t116, .int .i64 t117, .int .i64 0, .int .i64 0, .int .i64 0, .int .i64 0, .int .i64 0, .int .i64 0, .int .i64 0, .int .i64 0, .int .i64 0, .int .i64 0]) ?_ 2 _ rfl; (with_reducible repeat (first | refine blk_drewN ?_ _ | refine blk_drew ?_ | refine blk_alloc ?_ _)); refine blk_put (cs := #[.int .i64 t116, .int .i64 0, .int .i64 0, .int .i64 0, .int .i64 0, .int .i64 0, .int .i64 0, .int .i64 0, .int .i64 0, .int .i64 0, .int .i64 0, .int .i64 0]) ?_ 1 _ rfl; (with_reducible repeat (first | refine blk_drewN ?_ _ | refine blk_drew ?_ | refine blk_alloc ?_ _)); refine blk_put (cs := #[.int .i64 0, .int .i64 0, .int .i64 0, .int .i64 0, .int .i64 0, .int .i64 0, .int .i64 0, .int .i64 0, .int .i64 0, .int .i64 0, .int .i64 0, .int .i64 0]) ?_ 0 _ rfl; (with_reducible repeat (first | refine blk_drewN ?_ _ | refine blk_drew ?_ | refine blk_alloc ?_ _)); exact BK128.out⟩
       have n3_ : Aside0 (Below w.heap.size w ((((((((((((w16.setCell ⟨gb128, 0, none⟩ (.int .i64 t116)).setCell ⟨gb128, 1, none⟩ (.int .i64 t117)).setCell ⟨gb128, 2, none⟩ (.int .i64 t118)).setCell ⟨gb128, 3, none⟩ (.int .i64 t119)).setCell ⟨gb128, 4, none⟩ (.int .i64 t120)).setCell ⟨gb128, 5, none⟩ (.int .i64 t121)).setCell ⟨gb128, 6, none⟩ (.int .i64 t122)).setCell ⟨gb128, 7, none⟩ (.int .i64 t123)).setCell ⟨gb128, 8, none⟩ (.int .i64 t124)).setCell ⟨gb128, 9, none⟩ (.int .i64 t125)).setCell ⟨gb128, 10, none⟩ (.int .i64 t126)).setCell ⟨gb128, 11, none⟩ (.int .i64 t127))) := ⟨by repeat (first | (with_reducible first | exact HB.out | apply below_alloc | apply pw_below_drewN | apply below_drew1 | refine below_set ?_ GE128.out) | exact HB.out)⟩
       (try clear HO112)
       (try clear HO115)
       (try clear BK128)
       (try clear HB)
       generalize ((((((((((((w16.setCell ⟨gb128, 0, none⟩ (.int .i64 t116)).setCell ⟨gb128, 1, none⟩ (.int .i64 t117)).setCell ⟨gb128, 2, none⟩ (.int .i64 t118)).setCell ⟨gb128, 3, none⟩ (.int .i64 t119)).setCell ⟨gb128, 4, none⟩ (.int .i64 t120)).setCell ⟨gb128, 5, none⟩ (.int .i64 t121)).setCell ⟨gb128, 6, none⟩ (.int .i64 t122)).setCell ⟨gb128, 7, none⟩ (.int .i64 t123)).setCell ⟨gb128, 8, none⟩ (.int .i64 t124)).setCell ⟨gb128, 9, none⟩ (.int .i64 t125)).setCell ⟨gb128, 10, none⟩ (.int .i64 t126)).setCell ⟨gb128, 11, none⟩ (.int .i64 t127)) = w18 at n0_ n1_ n2_ n3_ ⊢
       have HO112 := n0_
       have HO115 := n1_
       have BK128 := n2_
       have HB := n3_
       clear n0_ n1_ n2_ n3_
       have n0_ := Aside0.mk (Kd.R_drew HO112.out)
       have n1_ := Aside0.mk (Kd.R_drew HO115.out)
       have n2_ := Aside0.mk (blk_drew BK128.out)
       have n3_ := Aside0.mk (below_drew1 HB.out)
       clear HO112
       clear HO115
       clear BK128
       clear HB
       have HO112 := n0_
       have HO115 := n1_
       have BK128 := n2_
       have HB := n3_
       clear n0_ n1_ n2_ n3_
       have p141 : 0 ≤ (1 : Int) := (by omega)
       have q141 : 1 < (y110.length : Int) := of_decide_eq_true (by first | (with_reducible assumption) | assumption)
       obtain ⟨ad141, e141, hx141_0, hx141_1, hx141_2, hx141_3, hx141_4⟩ := at_T25 (Kd.R_reads' HO112.out).2.2 1 p141 q141
       cases e141
       (try simp only [show (1 : Int).toNat = 1 from rfl, Nat.reduceMul, Nat.reduceEqDiff, Go.Addr.add, ↓reduceIte] at hx141_0)
       (try simp only [show (1 : Int).toNat = 1 from rfl, Nat.reduceMul, Nat.reduceEqDiff, Go.Addr.add, ↓reduceIte] at hx141_1)
       (try simp only [show (1 : Int).toNat = 1 from rfl, Nat.reduceMul, Nat.reduceEqDiff, Go.Addr.add, ↓reduceIte] at hx141_2)
       (try simp only [show (1 : Int).toNat = 1 from rfl, Nat.reduceMul, Nat.reduceEqDiff, Go.Addr.add, ↓reduceIte] at hx141_3)
       (try simp only [show (1 : Int).toNat = 1 from rfl, Nat.reduceMul, Nat.reduceEqDiff, Go.Addr.add, ↓reduceIte] at hx141_4)
       have qi141 : (1 < y110.length) = True := eq_true (by omega)
       (try rw [show ((1 : Int)).toNat = 1 from rfl] at hx141_0)
       (try rw [show 1 * 5 = 5 from rfl] at hx141_0)
       (try rw [show ((1 : Int)).toNat = 1 from rfl] at hx141_1)
       (try rw [show 1 * 5 = 5 from rfl] at hx141_1)
       (try rw [show ((1 : Int)).toNat = 1 from rfl] at hx141_2)
       (try rw [show 1 * 5 = 5 from rfl] at hx141_2)
       (try rw [show ((1 : Int)).toNat = 1 from rfl] at hx141_3)
       (try rw [show 1 * 5 = 5 from rfl] at hx141_3)
       (try rw [show ((1 : Int)).toNat = 1 from rfl] at hx141_4)
       (try rw [show 1 * 5 = 5 from rfl] at hx141_4)
       replace p141 := eq_true p141
       replace q141 := eq_true q141
       have p142 : 0 ≤ (1 : Int) := (by omega)
       have q142 : 1 < (y113.length : Int) := of_decide_eq_true (by first | (with_reducible assumption) | assumption)
       obtain ⟨ad142, e142, hx142_0, hx142_1, hx142_2, hx142_3, hx142_4⟩ := at_T25 (Kd.R_reads' HO115.out).2.2 1 p142 q142
       cases e142
       (try simp only [show (1 : Int).toNat = 1 from rfl, Nat.reduceMul, Nat.reduceEqDiff, Go.Addr.add, ↓reduceIte] at hx142_0)
       (try simp only [show (1 : Int).toNat = 1 from rfl, Nat.reduceMul, Nat.reduceEqDiff, Go.Addr.add, ↓reduceIte] at hx142_1)
       (try simp only [show (1 : Int).toNat = 1 from rfl, Nat.reduceMul, Nat.reduceEqDiff, Go.Addr.add, ↓reduceIte] at hx142_2)
       (try simp only [show (1 : Int).toNat = 1 from rfl, Nat.reduceMul, Nat.reduceEqDiff, Go.Addr.add, ↓reduceIte] at hx142_3)
       (try simp only [show (1 : Int).toNat = 1 from rfl, Nat.reduceMul, Nat.reduceEqDiff, Go.Addr.add, ↓reduceIte] at hx142_4)
       have qi142 : (1 < y113.length) = True := eq_true (by omega)
       (try rw [show ((1 : Int)).toNat = 1 from rfl] at hx142_0)
       (try rw [show 1 * 5 = 5 from rfl] at hx142_0)
       (try rw [show ((1 : Int)).toNat = 1 from rfl] at hx142_1)
       (try rw [show 1 * 5 = 5 from rfl] at hx142_1)
       (try rw [show ((1 : Int)).toNat = 1 from rfl] at hx142_2)
       (try rw [show 1 * 5 = 5 from rfl] at hx142_2)
       (try rw [show ((1 : Int)).toNat = 1 from rfl] at hx142_3)
       (try rw [show 1 * 5 = 5 from rfl] at hx142_3)
       (try rw [show ((1 : Int)).toNat = 1 from rfl] at hx142_4)
       (try rw [show 1 * 5 = 5 from rfl] at hx142_4)
       replace p142 := eq_true p142
       replace q142 := eq_true q142
       refine start_ (n := 32) (S := fun w' => w'.cell? ⟨gb128, 0, none⟩ = some (.int .i64 t116) ∧ w'.cell? ⟨gb128, 1, none⟩ = some (.int .i64 t117) ∧ w'.cell? ⟨gb128, 2, none⟩ = some (.int .i64 t118) ∧ w'.cell? ⟨gb128, 3, none⟩ = some (.int .i64 t119) ∧ w'.cell? ⟨gb128, 4, none⟩ = some (.int .i64 t120) ∧ w'.cell? ⟨gb128, 5, none⟩ = some (.int .i64 t121) ∧ w'.cell? ⟨gb128, 6, none⟩ = some (.int .i64 t122) ∧ w'.cell? ⟨gb128, 7, none⟩ = some (.int .i64 t123) ∧ w'.cell? ⟨gb128, 8, none⟩ = some (.int .i64 t124) ∧ w'.cell? ⟨gb128, 9, none⟩ = some (.int .i64 t125) ∧ w'.cell? ⟨gb128, 10, none⟩ = some (.int .i64 t126) ∧ w'.cell? ⟨gb128, 11, none⟩ = some (.int .i64 t127) ∧ w'.cell? ⟨ad141.block, ad141.off + 5, none⟩ = some (.int .i64 ((rd_T25 y110 1).f0)) ∧ w'.cell? ⟨ad141.block, ad141.off + 5 + 1, none⟩ = some (.int .i64 ((rd_T25 y110 1).f1)) ∧ w'.cell? ⟨ad141.block, ad141.off + 5 + 2, none⟩ = some (.int .i64 ((rd_T25 y110 1).f2)) ∧ w'.cell? ⟨ad141.block, ad141.off + 5 + 3, none⟩ = some (.int .i64 ((rd_T25 y110 1).f3)) ∧ w'.cell? ⟨ad141.block, ad141.off + 5 + 4, none⟩ = some (.int .i64 ((rd_T25 y110 1).f4)) ∧ w'.cell? ⟨ad142.block, ad142.off + 5, none⟩ = some (.int .i64 ((rd_T25 y113 1).f0)) ∧ w'.cell? ⟨ad142.block, ad142.off + 5 + 1, none⟩ = some (.int .i64 ((rd_T25 y113 1).f1)) ∧ w'.cell? ⟨ad142.block, ad142.off + 5 + 2, none⟩ = some (.int .i64 ((rd_T25 y113 1).f2)) ∧ w'.cell? ⟨ad142.block, ad142.off + 5 + 3, none⟩ = some (.int .i64 ((rd_T25 y113 1).f3)) ∧ w'.cell? ⟨ad142.block, ad142.off + 5 + 4, none⟩ = some (.int .i64 ((rd_T25 y113 1).f4))) (ds := []) #[false, false, false, false, false, false, false, false, false, false, false, false, false, false, false, false, false, false, false, false, false, false, false, false, false, false, false, false, false, false, false, false] (by kernel_rfl) rfl rfl ⟨(blk_cell BK128.out 0).trans rfl, (blk_cell BK128.out 1).trans rfl, (blk_cell BK128.out 2).trans rfl, (blk_cell BK128.out 3).trans rfl, (blk_cell BK128.out 4).trans rfl, (blk_cell BK128.out 5).trans rfl, (blk_cell BK128.out 6).trans rfl, (blk_cell BK128.out 7).trans rfl, (blk_cell BK128.out 8).trans rfl, (blk_cell BK128.out 9).trans rfl, (blk_cell BK128.out 10).trans rfl, (blk_cell BK128.out 11).trans rfl, hx141_0, hx141_1, hx141_2, hx141_3, hx141_4, hx142_0, hx142_1, hx142_2, hx142_3, hx142_4⟩ (fun hHeld => ?_); refine with_tabW palletlaw23_live.tab4 palletlaw23_live.bits4 (fun HT_ HW_ => ?_)
       generalize w18.drew = w19 at HO112 HO115 BK128 HB hx141_0 hx141_1 hx141_2 hx141_3 hx141_4 hx142_0 hx142_1 hx142_2 hx142_3 hx142_4 hHeld ⊢
       refine pure_ (i := 0) (N := some 13) (v := ?_) (a' := ?_) #[true, false, false, false, false, false, false, false, false, false, false, false, false, false, false, false, false, false, false, false, false, false, false, false, false, false, false, false, false, false, false, false] rfl rfl (any_of HT_.out (by kernel_rfl)) (fun _ _ _ h => h) (Or.inl ⟨by rfl, ?_⟩) ?_ ?_
       rotate_left
       ·intro w'
        go_simp
        with_reducible rfl
       rotate_left
       ·simp only [Act.put, List.setIfInBounds_toArray, List.set_cons_zero, List.set_cons_succ, i64_w, i32_w]
        rfl
       refine pure_ (i := 1) (N := some 14) (v := ?_) (a' := ?_) #[true, true, false, false, false, false, false, false, false, false, false, false, false, false, false, false, false, false, false, false, false, false, false, false, false, false, false, false, false, false, false, false] rfl rfl (any_of HT_.out (by kernel_rfl)) (fun _ _ _ h => h) (Or.inl ⟨by rfl, ?_⟩) ?_ ?_
       rotate_left
       ·intro w'
        go_simp
        with_reducible rfl
       rotate_left
       ·simp only [Act.put, List.setIfInBounds_toArray, List.set_cons_zero, List.set_cons_succ, i64_w, i32_w]
        rfl
       refine pure_ (i := 3) (N := some 16) (v := ?_) (a' := ?_) #[true, true, false, true, false, false, false, false, false, false, false, false, false, false, false, false, false, false, false, false, false, false, false, false, false, false, false, false, false, false, false, false] rfl rfl (any_of HT_.out (by kernel_rfl)) (fun _ _ _ h => h) (Or.inl ⟨by rfl, ?_⟩) ?_ ?_
       rotate_left
       ·intro w'
        go_simp
        with_reducible rfl
       rotate_left
       ·simp only [Act.put, List.setIfInBounds_toArray, List.set_cons_zero, List.set_cons_succ, i64_w, i32_w]
        rfl
       refine one_ (i := 2) (N := some 15) #[true, true, true, true, false, false, false, false, false, false, false, false, false, false, false, false, false, false, false, false, false, false, false, false, false, false, false, false, false, false, false, false] rfl rfl (one_of HT_.out (by kernel_rfl)) (by decide) (fun K hK => ?_)
       refine goes_ Try.func7 (by kernel_rfl) rfl #[.slice (some ad141) y110.length co13, .slice (some ad141) y110.length co13] (by rfl) rfl rfl (by (try simp only [List.map_toArray, List.map_cons, List.map_nil]); first | done | rfl | (simp only [List.length_drop, List.length_take]; first | rfl | (rw [Nat.min_eq_left (Int.toNat_le.2 (of_decide_eq_true (by assumption)))]; rfl))) ?_
       with_reducible refine (diff_Events.calls k _ _ y110 _ _ y110 t129 t130 t131 t132 t133 t134 t135 t136 t137 t138 t139 t140 _ ?side1 ?side2 ?side3 ?side4 A2.out).mono ?_
       (case side1 => repeat (first | exact (Kd.R_reads' HO112.out).2.2 | (with_reducible refine Kd.C_alloc ?_ _) | (with_reducible refine Kd.C_drewN ?_ _) | (with_reducible refine Kd.C_drew ?_)))
       (case side2 => exact (Kd.R_reads' HO112.out).2.1)
       (case side3 => repeat (first | exact (Kd.R_reads' HO112.out).2.2 | (with_reducible refine Kd.C_alloc ?_ _) | (with_reducible refine Kd.C_drewN ?_ _) | (with_reducible refine Kd.C_drew ?_)))
       (case side4 => exact (Kd.R_reads' HO112.out).2.1)
       rintro e w20 ⟨rfl, hb⟩
       have HS12_ := (hb.cell (World.block_lt_of_cell? _ _ (hHeld.2.2.2.2.2.2.2.2.2.2.2.2.1))).trans (hHeld.2.2.2.2.2.2.2.2.2.2.2.2.1)
       have HS13_ := (hb.cell (World.block_lt_of_cell? _ _ (hHeld.2.2.2.2.2.2.2.2.2.2.2.2.2.1))).trans (hHeld.2.2.2.2.2.2.2.2.2.2.2.2.2.1)
       have HS14_ := (hb.cell (World.block_lt_of_cell? _ _ (hHeld.2.2.2.2.2.2.2.2.2.2.2.2.2.2.1))).trans (hHeld.2.2.2.2.2.2.2.2.2.2.2.2.2.2.1)
       have HS15_ := (hb.cell (World.block_lt_of_cell? _ _ (hHeld.2.2.2.2.2.2.2.2.2.2.2.2.2.2.2.1))).trans (hHeld.2.2.2.2.2.2.2.2.2.2.2.2.2.2.2.1)
       have HS16_ := (hb.cell (World.block_lt_of_cell? _ _ (hHeld.2.2.2.2.2.2.2.2.2.2.2.2.2.2.2.2.1))).trans (hHeld.2.2.2.2.2.2.2.2.2.2.2.2.2.2.2.2.1)
       have HS17_ := (hb.cell (World.block_lt_of_cell? _ _ (hHeld.2.2.2.2.2.2.2.2.2.2.2.2.2.2.2.2.2.1))).trans (hHeld.2.2.2.2.2.2.2.2.2.2.2.2.2.2.2.2.2.1)
       have HS18_ := (hb.cell (World.block_lt_of_cell? _ _ (hHeld.2.2.2.2.2.2.2.2.2.2.2.2.2.2.2.2.2.2.1))).trans (hHeld.2.2.2.2.2.2.2.2.2.2.2.2.2.2.2.2.2.2.1)
       have HS19_ := (hb.cell (World.block_lt_of_cell? _ _ (hHeld.2.2.2.2.2.2.2.2.2.2.2.2.2.2.2.2.2.2.2.1))).trans (hHeld.2.2.2.2.2.2.2.2.2.2.2.2.2.2.2.2.2.2.2.1)
       have HS20_ := (hb.cell (World.block_lt_of_cell? _ _ (hHeld.2.2.2.2.2.2.2.2.2.2.2.2.2.2.2.2.2.2.2.2.1))).trans (hHeld.2.2.2.2.2.2.2.2.2.2.2.2.2.2.2.2.2.2.2.2.1)
       have HS21_ := (hb.cell (World.block_lt_of_cell? _ _ (hHeld.2.2.2.2.2.2.2.2.2.2.2.2.2.2.2.2.2.2.2.2.2))).trans (hHeld.2.2.2.2.2.2.2.2.2.2.2.2.2.2.2.2.2.2.2.2.2)
       refine ⟨_, rfl, ?_⟩
       have n0_ := Aside0.mk (Kd.R_below (by (with_reducible repeat (first | apply Kd.R_alloc | apply Kd.R_drewN | apply Kd.R_drew)); exact HO112.out) hb)
       have n1_ := Aside0.mk (Kd.R_below (by (with_reducible repeat (first | apply Kd.R_alloc | apply Kd.R_drewN | apply Kd.R_drew)); exact HO115.out) hb)
       have n2_ := Aside0.mk (blk_below (g := gb128) (o := .cells #[.int .i64 t116, .int .i64 t117, .int .i64 t118, .int .i64 t119, .int .i64 t120, .int .i64 t121, .int .i64 t122, .int .i64 t123, .int .i64 t124, .int .i64 t125, .int .i64 t126, .int .i64 t127] 27 (0, 0)) (by (with_reducible repeat (first | refine blk_drewN ?_ _ | refine blk_drew ?_ | refine blk_alloc ?_ _)); exact BK128.out) hb)
       have n3_ := Aside0.mk (below_step (by repeat (first | (with_reducible first | exact HB.out | apply below_alloc | apply pw_below_drewN | apply below_drew1 | refine below_set ?_ GE128.out) | exact HB.out)) hb)
       clear HO112
       clear HO115
       clear BK128
       clear HB
       have HO112 := n0_
       have HO115 := n1_
       have BK128 := n2_
       have HB := n3_
       clear n0_ n1_ n2_ n3_
       (try clear hb)
       (try clear hb2)
       (try clear hk)
       (try clear hi)
       refine hK.out _ _ ⟨(blk_cell BK128.out 0).trans rfl, (blk_cell BK128.out 1).trans rfl, (blk_cell BK128.out 2).trans rfl, (blk_cell BK128.out 3).trans rfl, (blk_cell BK128.out 4).trans rfl, (blk_cell BK128.out 5).trans rfl, (blk_cell BK128.out 6).trans rfl, (blk_cell BK128.out 7).trans rfl, (blk_cell BK128.out 8).trans rfl, (blk_cell BK128.out 9).trans rfl, (blk_cell BK128.out 10).trans rfl, (blk_cell BK128.out 11).trans rfl, HS12_, HS13_, HS14_, HS15_, HS16_, HS17_, HS18_, HS19_, HS20_, HS21_⟩ (fun hHeld => ?_)
       clear hK K
       refine norm_ (a' := ?_) ?_ ?_
       rotate_left
       ·show Act.put _ (some 15) _ = _
        simp only [Act.put, List.setIfInBounds_toArray, List.set_cons_zero, List.set_cons_succ, i64_w, i32_w]
        rfl
       refine pure_ (i := 4) (N := some 17) (v := ?_) (a' := ?_) #[true, true, true, true, true, false, false, false, false, false, false, false, false, false, false, false, false, false, false, false, false, false, false, false, false, false, false, false, false, false, false, false] rfl rfl (any_of HT_.out (by kernel_rfl)) (fun _ _ _ h => h) (Or.inl ⟨by rfl, ?_⟩) ?_ ?_
       rotate_left
       ·intro w'
        go_simp
        with_reducible rfl
       rotate_left
       ·simp only [Act.put, List.setIfInBounds_toArray, List.set_cons_zero, List.set_cons_succ, i64_w, i32_w]
        rfl
       refine pure_ (i := 5) (N := some 18) (v := ?_) (a' := ?_) #[true, true, true, true, true, true, false, false, false, false, false, false, false, false, false, false, false, false, false, false, false, false, false, false, false, false, false, false, false, false, false, false] rfl rfl (any_of HT_.out (by kernel_rfl)) (fun _ _ _ h => h) (Or.inl ⟨by rfl, ?_⟩) ?_ ?_
       rotate_left
       ·intro w'
        go_simp
        with_reducible rfl
       rotate_left
       ·simp only [Act.put, List.setIfInBounds_toArray, List.set_cons_zero, List.set_cons_succ, i64_w, i32_w]
        rfl
       refine pure_ (i := 6) (N := some 19) (v := ?_) (a' := ?_) #[true, true, true, true, true, true, true, false, false, false, false, false, false, false, false, false, false, false, false, false, false, false, false, false, false, false, false, false, false, false, false, false] rfl rfl (any_of HT_.out (by kernel_rfl)) (fun _ _ _ h => h) (Or.inl ⟨by rfl, ?_⟩) ?_ ?_
       rotate_left
       ·intro w'
        go_simp
        with_reducible rfl
       rotate_left
       ·simp only [Act.put, List.setIfInBounds_toArray, List.set_cons_zero, List.set_cons_succ, i64_w, i32_w]
        rfl
       refine take_ (i := 7) (N := some 20) (v := ?_) (a' := ?_) #[true, true, true, true, true, true, true, true, false, false, false, false, false, false, false, false, false, false, false, false, false, false, false, false, false, false, false, false, false, false, false, false] rfl rfl (take_ofW HT_.out HW_.out (by kernel_rfl)) (fun _ _ _ h => h) (Or.inl ⟨by rfl, ?_⟩) hHeld ?_ ?_
       rotate_left
       ·rintro w' ⟨s0, s1, s2, s3, s4, s5, s6, s7, s8, s9, s10, s11, s12, s13, s14, s15, s16, s17, s18, s19, s20, s21⟩
        go_simp
        with_reducible rfl
       rotate_left
       ·simp only [Act.put, List.setIfInBounds_toArray, List.set_cons_zero, List.set_cons_succ, i64_w, i32_w]
        rfl
       refine pure_ (i := 8) (N := some 21) (v := ?_) (a' := ?_) #[true, true, true, true, true, true, true, true, true, false, false, false, false, false, false, false, false, false, false, false, false, false, false, false, false, false, false, false, false, false, false, false] rfl rfl (any_of HT_.out (by kernel_rfl)) (fun _ _ _ h => h) (Or.inl ⟨by rfl, ?_⟩) ?_ ?_
       rotate_left
       ·intro w'
        go_simp
        with_reducible rfl
       rotate_left
       ·simp only [Act.put, List.setIfInBounds_toArray, List.set_cons_zero, List.set_cons_succ, i64_w, i32_w]
        rfl
       refine pure_ (i := 9) (N := some 22) (v := ?_) (a' := ?_) #[true, true, true, true, true, true, true, true, true, true, false, false, false, false, false, false, false, false, false, false, false, false, false, false, false, false, false, false, false, false, false, false] rfl rfl (any_of HT_.out (by kernel_rfl)) (fun _ _ _ h => h) (Or.inl ⟨by rfl, ?_⟩) ?_ ?_
       rotate_left
       ·intro w'
        go_simp
        with_reducible rfl
       rotate_left
       ·simp only [Act.put, List.setIfInBounds_toArray, List.set_cons_zero, List.set_cons_succ, i64_w, i32_w]
        rfl
       refine pure_ (i := 10) (N := some 23) (v := ?_) (a' := ?_) #[true, true, true, true, true, true, true, true, true, true, true, false, false, false, false, false, false, false, false, false, false, false, false, false, false, false, false, false, false, false, false, false] rfl rfl (any_of HT_.out (by kernel_rfl)) (fun _ _ _ h => h) (Or.inl ⟨by rfl, ?_⟩) ?_ ?_
       rotate_left
       ·intro w'
        go_simp
        with_reducible rfl
       rotate_left
       ·simp only [Act.put, List.setIfInBounds_toArray, List.set_cons_zero, List.set_cons_succ, i64_w, i32_w]
        rfl
       refine pure_ (i := 11) (N := some 24) (v := ?_) (a' := ?_) #[true, true, true, true, true, true, true, true, true, true, true, true, false, false, false, false, false, false, false, false, false, false, false, false, false, false, false, false, false, false, false, false] rfl rfl (any_of HT_.out (by kernel_rfl)) (fun _ _ _ h => h) (Or.inl ⟨by rfl, ?_⟩) ?_ ?_
       rotate_left
       ·intro w'
        go_simp
        with_reducible rfl
       rotate_left
       ·simp only [Act.put, List.setIfInBounds_toArray, List.set_cons_zero, List.set_cons_succ, i64_w, i32_w]
        rfl
       refine take_ (i := 12) (N := some 25) (v := ?_) (a' := ?_) #[true, true, true, true, true, true, true, true, true, true, true, true, true, false, false, false, false, false, false, false, false, false, false, false, false, false, false, false, false, false, false, false] rfl rfl (take_ofW HT_.out HW_.out (by kernel_rfl)) (fun _ _ _ h => h) (Or.inl ⟨by rfl, ?_⟩) hHeld ?_ ?_
       rotate_left
       ·rintro w' ⟨s0, s1, s2, s3, s4, s5, s6, s7, s8, s9, s10, s11, s12, s13, s14, s15, s16, s17, s18, s19, s20, s21⟩
        go_simp
        with_reducible rfl
       rotate_left
       ·simp only [Act.put, List.setIfInBounds_toArray, List.set_cons_zero, List.set_cons_succ, i64_w, i32_w]
        rfl
       refine pure_ (i := 13) (N := some 26) (v := ?_) (a' := ?_) #[true, true, true, true, true, true, true, true, true, true, true, true, true, true, false, false, false, false, false, false, false, false, false, false, false, false, false, false, false, false, false, false] rfl rfl (any_of HT_.out (by kernel_rfl)) (fun _ _ _ h => h) (Or.inl ⟨by rfl, ?_⟩) ?_ ?_
       rotate_left
       ·intro w'
        go_simp
        with_reducible rfl
       rotate_left
       ·simp only [Act.put, List.setIfInBounds_toArray, List.set_cons_zero, List.set_cons_succ, i64_w, i32_w]
        rfl
       refine pure_ (i := 14) (N := some 27) (v := ?_) (a' := ?_) #[true, true, true, true, true, true, true, true, true, true, true, true, true, true, true, false, false, false, false, false, false, false, false, false, false, false, false, false, false, false, false, false] rfl rfl (any_of HT_.out (by kernel_rfl)) (fun _ _ _ h => h) (Or.inl ⟨by rfl, ?_⟩) ?_ ?_
       rotate_left
       ·intro w'
        go_simp
        with_reducible rfl
       rotate_left
       ·simp only [Act.put, List.setIfInBounds_toArray, List.set_cons_zero, List.set_cons_succ, i64_w, i32_w]
        rfl
       refine pure_ (i := 15) (N := some 28) (v := ?_) (a' := ?_) #[true, true, true, true, true, true, true, true, true, true, true, true, true, true, true, true, false, false, false, false, false, false, false, false, false, false, false, false, false, false, false, false] rfl rfl (any_of HT_.out (by kernel_rfl)) (fun _ _ _ h => h) (Or.inl ⟨by rfl, ?_⟩) ?_ ?_
       rotate_left
       ·intro w'
        go_simp
        with_reducible rfl
       rotate_left
       ·simp only [Act.put, List.setIfInBounds_toArray, List.set_cons_zero, List.set_cons_succ, i64_w, i32_w]
        rfl
       refine pure_ (i := 16) (N := some 29) (v := ?_) (a' := ?_) #[true, true, true, true, true, true, true, true, true, true, true, true, true, true, true, true, true, false, false, false, false, false, false, false, false, false, false, false, false, false, false, false] rfl rfl (any_of HT_.out (by kernel_rfl)) (fun _ _ _ h => h) (Or.inl ⟨by rfl, ?_⟩) ?_ ?_
       rotate_left
       ·intro w'
        go_simp
        with_reducible rfl
       rotate_left
       ·simp only [Act.put, List.setIfInBounds_toArray, List.set_cons_zero, List.set_cons_succ, i64_w, i32_w]
        rfl
       refine pure_ (i := 18) (N := some 31) (v := ?_) (a' := ?_) #[true, true, true, true, true, true, true, true, true, true, true, true, true, true, true, true, true, false, true, false, false, false, false, false, false, false, false, false, false, false, false, false] rfl rfl (any_of HT_.out (by kernel_rfl)) (fun _ _ _ h => h) (Or.inl ⟨by rfl, ?_⟩) ?_ ?_
       rotate_left
       ·intro w'
        go_simp
        with_reducible rfl
       rotate_left
       ·simp only [Act.put, List.setIfInBounds_toArray, List.set_cons_zero, List.set_cons_succ, i64_w, i32_w]
        rfl
       refine pure_ (i := 19) (N := some 32) (v := ?_) (a' := ?_) #[true, true, true, true, true, true, true, true, true, true, true, true, true, true, true, true, true, false, true, true, false, false, false, false, false, false, false, false, false, false, false, false] rfl rfl (any_of HT_.out (by kernel_rfl)) (fun _ _ _ h => h) (Or.inl ⟨by rfl, ?_⟩) ?_ ?_
       rotate_left
       ·intro w'
        go_simp
        with_reducible rfl
       rotate_left
       ·simp only [Act.put, List.setIfInBounds_toArray, List.set_cons_zero, List.set_cons_succ, i64_w, i32_w]
        rfl
       refine take_ (i := 17) (N := some 30) (v := ?_) (a' := ?_) #[true, true, true, true, true, true, true, true, true, true, true, true, true, true, true, true, true, true, true, true, false, false, false, false, false, false, false, false, false, false, false, false] rfl rfl (take_ofW HT_.out HW_.out (by kernel_rfl)) (fun _ _ _ h => h) (Or.inl ⟨by rfl, ?_⟩) hHeld ?_ ?_
       rotate_left
       ·rintro w' ⟨s0, s1, s2, s3, s4, s5, s6, s7, s8, s9, s10, s11, s12, s13, s14, s15, s16, s17, s18, s19, s20, s21⟩
        go_simp
        with_reducible rfl
       rotate_left
       ·simp only [Act.put, List.setIfInBounds_toArray, List.set_cons_zero, List.set_cons_succ, i64_w, i32_w]
        rfl
       refine take_ (i := 20) (N := some 33) (v := ?_) (a' := ?_) #[true, true, true, true, true, true, true, true, true, true, true, true, true, true, true, true, true, true, true, true, true, false, false, false, false, false, false, false, false, false, false, false] rfl rfl (take_ofW HT_.out HW_.out (by kernel_rfl)) (fun _ _ _ h => h) (Or.inl ⟨by rfl, ?_⟩) hHeld ?_ ?_
       rotate_left
       ·rintro w' ⟨s0, s1, s2, s3, s4, s5, s6, s7, s8, s9, s10, s11, s12, s13, s14, s15, s16, s17, s18, s19, s20, s21⟩
        go_simp
        with_reducible rfl
       rotate_left
       ·simp only [Act.put, List.setIfInBounds_toArray, List.set_cons_zero, List.set_cons_succ, i64_w, i32_w]
        rfl
       refine pure_ (i := 21) (N := some 34) (v := ?_) (a' := ?_) #[true, true, true, true, true, true, true, true, true, true, true, true, true, true, true, true, true, true, true, true, true, true, false, false, false, false, false, false, false, false, false, false] rfl rfl (any_of HT_.out (by kernel_rfl)) (fun _ _ _ h => h) (Or.inl ⟨by rfl, ?_⟩) ?_ ?_
       rotate_left
       ·intro w'
        go_simp
        with_reducible rfl
       rotate_left
       ·simp only [Act.put, List.setIfInBounds_toArray, List.set_cons_zero, List.set_cons_succ, i64_w, i32_w]
        rfl
       refine pure_ (i := 22) (N := some 35) (v := ?_) (a' := ?_) #[true, true, true, true, true, true, true, true, true, true, true, true, true, true, true, true, true, true, true, true, true, true, true, false, false, false, false, false, false, false, false, false] rfl rfl (any_of HT_.out (by kernel_rfl)) (fun _ _ _ h => h) (Or.inl ⟨by rfl, ?_⟩) ?_ ?_
       rotate_left
       ·intro w'
        go_simp
        with_reducible rfl
       rotate_left
       ·simp only [Act.put, List.setIfInBounds_toArray, List.set_cons_zero, List.set_cons_succ, i64_w, i32_w]
        rfl
       refine pure_ (i := 23) (N := some 36) (v := ?_) (a' := ?_) #[true, true, true, true, true, true, true, true, true, true, true, true, true, true, true, true, true, true, true, true, true, true, true, true, false, false, false, false, false, false, false, false] rfl rfl (any_of HT_.out (by kernel_rfl)) (fun _ _ _ h => h) (Or.inl ⟨by rfl, ?_⟩) ?_ ?_
       rotate_left
       ·intro w'
        go_simp
        with_reducible rfl
       rotate_left
       ·simp only [Act.put, List.setIfInBounds_toArray, List.set_cons_zero, List.set_cons_succ, i64_w, i32_w]
        rfl
       refine pure_ (i := 24) (N := some 37) (v := ?_) (a' := ?_) #[true, true, true, true, true, true, true, true, true, true, true, true, true, true, true, true, true, true, true, true, true, true, true, true, true, false, false, false, false, false, false, false] rfl rfl (any_of HT_.out (by kernel_rfl)) (fun _ _ _ h => h) (Or.inl ⟨by rfl, ?_⟩) ?_ ?_
       rotate_left
       ·intro w'
        go_simp
        with_reducible rfl
       rotate_left
       ·simp only [Act.put, List.setIfInBounds_toArray, List.set_cons_zero, List.set_cons_succ, i64_w, i32_w]
        rfl
       refine pure_ (i := 26) (N := some 39) (v := ?_) (a' := ?_) #[true, true, true, true, true, true, true, true, true, true, true, true, true, true, true, true, true, true, true, true, true, true, true, true, true, false, true, false, false, false, false, false] rfl rfl (any_of HT_.out (by kernel_rfl)) (fun _ _ _ h => h) (Or.inl ⟨by rfl, ?_⟩) ?_ ?_
       rotate_left
       ·intro w'
        go_simp
        with_reducible rfl
       rotate_left
       ·simp only [Act.put, List.setIfInBounds_toArray, List.set_cons_zero, List.set_cons_succ, i64_w, i32_w]
        rfl
       refine pure_ (i := 27) (N := some 40) (v := ?_) (a' := ?_) #[true, true, true, true, true, true, true, true, true, true, true, true, true, true, true, true, true, true, true, true, true, true, true, true, true, false, true, true, false, false, false, false] rfl rfl (any_of HT_.out (by kernel_rfl)) (fun _ _ _ h => h) (Or.inl ⟨by rfl, ?_⟩) ?_ ?_
       rotate_left
       ·intro w'
        go_simp
        with_reducible rfl
       rotate_left
       ·simp only [Act.put, List.setIfInBounds_toArray, List.set_cons_zero, List.set_cons_succ, i64_w, i32_w]
        rfl
       refine take_ (i := 25) (N := some 38) (v := ?_) (a' := ?_) #[true, true, true, true, true, true, true, true, true, true, true, true, true, true, true, true, true, true, true, true, true, true, true, true, true, true, true, true, false, false, false, false] rfl rfl (take_ofW HT_.out HW_.out (by kernel_rfl)) (fun _ _ _ h => h) (Or.inl ⟨by rfl, ?_⟩) hHeld ?_ ?_
       rotate_left
       ·rintro w' ⟨s0, s1, s2, s3, s4, s5, s6, s7, s8, s9, s10, s11, s12, s13, s14, s15, s16, s17, s18, s19, s20, s21⟩
        go_simp
        with_reducible rfl
       rotate_left
       ·simp only [Act.put, List.setIfInBounds_toArray, List.set_cons_zero, List.set_cons_succ, i64_w, i32_w]
        rfl
       refine take_ (i := 28) (N := some 41) (v := ?_) (a' := ?_) #[true, true, true, true, true, true, true, true, true, true, true, true, true, true, true, true, true, true, true, true, true, true, true, true, true, true, true, true, true, false, false, false] rfl rfl (take_ofW HT_.out HW_.out (by kernel_rfl)) (fun _ _ _ h => h) (Or.inl ⟨by rfl, ?_⟩) hHeld ?_ ?_
       rotate_left
       ·rintro w' ⟨s0, s1, s2, s3, s4, s5, s6, s7, s8, s9, s10, s11, s12, s13, s14, s15, s16, s17, s18, s19, s20, s21⟩
        go_simp
        with_reducible rfl
       rotate_left
       ·simp only [Act.put, List.setIfInBounds_toArray, List.set_cons_zero, List.set_cons_succ, i64_w, i32_w]
        rfl
       refine pure_ (i := 29) (N := some 42) (v := ?_) (a' := ?_) #[true, true, true, true, true, true, true, true, true, true, true, true, true, true, true, true, true, true, true, true, true, true, true, true, true, true, true, true, true, true, false, false] rfl rfl (any_of HT_.out (by kernel_rfl)) (fun _ _ _ h => h) (Or.inl ⟨by rfl, ?_⟩) ?_ ?_
       rotate_left
       ·intro w'
        go_simp
        with_reducible rfl
       rotate_left
       ·simp only [Act.put, List.setIfInBounds_toArray, List.set_cons_zero, List.set_cons_succ, i64_w, i32_w]
        rfl
       refine pure_ (i := 30) (N := some 43) (v := ?_) (a' := ?_) #[true, true, true, true, true, true, true, true, true, true, true, true, true, true, true, true, true, true, true, true, true, true, true, true, true, true, true, true, true, true, true, false] rfl rfl (any_of HT_.out (by kernel_rfl)) (fun _ _ _ h => h) (Or.inl ⟨by rfl, ?_⟩) ?_ ?_
       rotate_left
       ·intro w'
        go_simp
        with_reducible rfl
       rotate_left
       ·simp only [Act.put, List.setIfInBounds_toArray, List.set_cons_zero, List.set_cons_succ, i64_w, i32_w]
        rfl
       refine pure_ (i := 31) (N := some 0) (v := ?_) (a' := ?_) #[true, true, true, true, true, true, true, true, true, true, true, true, true, true, true, true, true, true, true, true, true, true, true, true, true, true, true, true, true, true, true, true] rfl rfl (any_of HT_.out (by kernel_rfl)) (fun _ _ _ h => h) (Or.inl ⟨by rfl, ?_⟩) ?_ ?_
       rotate_left
       ·intro w'
        go_simp
        with_reducible rfl
       rotate_left
       ·simp only [Act.put, List.setIfInBounds_toArray, List.set_cons_zero, List.set_cons_succ, i64_w, i32_w]
        rfl
       refine done_ (done_of HT_.out (by kernel_rfl)) ?_
       try go_wp2
       go_ret
       exact ⟨by first | rfl | (simp [errW_none, errW_some] <;> rfl) | (simp [*, errW_none, errW_some] <;> rfl), by repeat (first | (with_reducible first | exact HB.out | apply below_alloc | apply pw_below_drewN | apply below_drew1 | refine below_set ?_ GE128.out) | exact HB.out)⟩
      ·rw [if_neg c8] at H
       exact absurd H (by simp)
     ·rw [if_neg c7] at H
      exact absurd H (by simp)
    ·rw [if_neg c6] at H
     exact absurd H (by simp)
   ·rw [if_neg c5] at H
    exact absurd H (by simp)
  ·rw [if_neg c4] at H
   exact absurd H (by simp)
 ·rw [if_neg c3] at H
  exact absurd H (by simp)

end Go.Proofs.Ytcbjbgleflbpmaa.Print
