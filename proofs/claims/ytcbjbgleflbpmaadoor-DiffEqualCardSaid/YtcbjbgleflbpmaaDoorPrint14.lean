-- PRINTED by print.py (a twelfth state) out of the translation. Not trusted: Lean checks it.
import Derived.Test.YtcbjbgleflbpmaaDoorPrint0
import Derived.Test.YtcbjbgleflbpmaaDoorPrint1
import Derived.Test.YtcbjbgleflbpmaaDoorPrint2
import Derived.Test.YtcbjbgleflbpmaaDoorPrint13
namespace Go.Proofs.YtcbjbgleflbpmaaDoor.Print
open Go.RowKit Go.Proofs.YtcbjbgleflbpmaaDoorW.PrintWords Go.Proofs.YtcbjbgleflbpmaaDoorW.PrintLast Go.Proofs.YtcbjbgleflbpmaaDoorW.PrintMore Go.Proofs.YtcbjbgleflbpmaaDoorX
attribute [local go_sem] str_lss str_geq max2_int min2_int max_two min_two max_three min_three max_four min_four   -- for this text's walks alone
set_option linter.unusedVariables false
set_option linter.unusedSimpArgs false

attribute [local go_sem high] eqA30 eqA50
/-! ### palletlaw23_live: function 28 -/
def palletlaw23_live.f (k : Nat)  : Option (Bool) := (some (([(⟨1, 1, 0, 0, 0⟩ : S30), (⟨2, 1, 0, 0, 0⟩ : S30)] : List (S30)) : List (S30))).bind fun y200 => ((some (([(⟨1, 1, 0, 0, 0⟩ : S30), (⟨2, 2, 0, 0, 0⟩ : S30)] : List (S30)) : List (S30))).bind fun y203 => ((diff_Events.f k y200 y203).bind fun bt206 => ((diff_Events.f k y200 y200).bind fun bt219 => (if (bt219.1 == 2 && (bt219.2.1 == 0 && ((bt219.2.2.1 == 0 && (bt219.2.2.2.1 == 0 && (bt219.2.2.2.2.1 == 0 && (bt219.2.2.2.2.2.1 == 0 && (bt219.2.2.2.2.2.2.1 == 0))))) && ((bt219.2.2.2.2.2.2.2.1 == 0 && (bt219.2.2.2.2.2.2.2.2.1 == 0 && (bt219.2.2.2.2.2.2.2.2.2.1 == 0 && (bt219.2.2.2.2.2.2.2.2.2.2.1 == 0 && (bt219.2.2.2.2.2.2.2.2.2.2.2 == 0))))))))) = true then (if bt206.1 = 1 then (if bt206.2.1 = 1 then (if 1 < (y200.length : Int) then (if (bt206.2.2.1 == ((rd_T30 y200 1).f0) && (bt206.2.2.2.1 == ((rd_T30 y200 1).f1) && (bt206.2.2.2.2.1 == ((rd_T30 y200 1).f2) && (bt206.2.2.2.2.2.1 == ((rd_T30 y200 1).f3) && (bt206.2.2.2.2.2.2.1 == ((rd_T30 y200 1).f4)))))) = true then (if 1 < (y203.length : Int) then (some (bt206.2.2.2.2.2.2.2.1 == ((rd_T30 y203 1).f0) && (bt206.2.2.2.2.2.2.2.2.1 == ((rd_T30 y203 1).f1) && (bt206.2.2.2.2.2.2.2.2.2.1 == ((rd_T30 y203 1).f2) && (bt206.2.2.2.2.2.2.2.2.2.2.1 == ((rd_T30 y203 1).f3) && (bt206.2.2.2.2.2.2.2.2.2.2.2 == ((rd_T30 y203 1).f4))))))) else (none)) else (none)) else (none)) else (none)) else (none)) else (none)))))
theorem palletlaw23_live.mono : ∀ k, LeO (palletlaw23_live.f k ) (palletlaw23_live.f (k + 1) ) := by
 intro  k
 unfold palletlaw23_live.f
 repeat' first
   | (with_reducible exact diff_Events.mono _ _ _)
   | (with_reducible exact LeO.refl _)
   | (with_reducible exact LeO.none _)
   | (with_reducible refine LeO.ite ?_ ?_)
   | (with_reducible refine LeO.bind ?_ (fun _ => ?_))
   | exact diff_Events.mono _ _ _
   | exact LeO.none _
   | refine LeO.ite ?_ ?_
   | refine LeO.bind ?_ (fun _ => ?_)
def palletlaw23_live.T4 : Bool × List (List Nat × List Nat) := (true, [([], []), ([], []), ([0, 1], [0, 1]), ([], []), ([2, 3], [2, 3]), ([4, 2], [4]), ([5], [5]), ([6, 5], [5, 6]), ([7, 5], [5, 7]), ([5, 8], [5, 8]), ([9, 5], [9]), ([10], [10]), ([11, 10], [10, 11]), ([12, 10], [10, 12]), ([10, 13], [10, 13]), ([14, 10], [14]), ([15], [15]), ([16, 15], [15, 16]), ([15], [15]), ([18, 15], [15, 18]), ([19, 15], [15, 19]), ([17, 20, 15], [15, 17, 20]), ([15, 21], [15, 21]), ([22, 15], [22]), ([23], [23]), ([24, 23], [23, 24]), ([23], [23]), ([26, 23], [23, 26]), ([27, 23], [23, 27]), ([25, 28, 23], [23, 25, 28]), ([23, 29], [23, 29]), ([30, 23, 0, 1, 2, 3, 4, 5, 6, 7, 8, 9, 10, 11, 12, 13, 14, 15, 16, 17, 18, 19, 20, 21, 22, 23, 24, 25, 26, 27, 28, 29, 30], [30])])
def palletlaw23_live.B4 : List Nat := [0, 0, 3, 0, 15, 31, 63, 127, 255, 511, 1023, 2047, 4095, 8191, 16383, 32767, 65535, 131071, 65535, 327679, 851967, 2097151, 4194303, 8388607, 16777215, 33554431, 16777215, 83886079, 218103807, 536870911, 1073741823, 2147483647]
theorem palletlaw23_live.tab4 : rtab .any (opsOf Tryd.f28 4) = palletlaw23_live.T4 := by kernel_rfl
theorem palletlaw23_live.bits4 : waitsOk palletlaw23_live.T4.2 palletlaw23_live.B4 = true := by kernel_rfl
set_option maxHeartbeats 8000000 in
set_option maxRecDepth 100000 in
theorem palletlaw23_live.calls (k : Nat)  (r : Bool) (w : World) (h : palletlaw23_live.f k  = some r) :
  Calls Tryd.prog 28 #[] w fun e w' => e = .returned (.bool r) ∧ Below w.heap.size w w' := by
 have hu30 := Tryd.underlying30
 have hu50 := Tryd.underlying50
 have HB := Aside0.mk (Below.refl w.heap.size w)
 have H : ((some (([(⟨1, 1, 0, 0, 0⟩ : S30), (⟨2, 1, 0, 0, 0⟩ : S30)] : List (S30)) : List (S30))).bind fun y200 => ((some (([(⟨1, 1, 0, 0, 0⟩ : S30), (⟨2, 2, 0, 0, 0⟩ : S30)] : List (S30)) : List (S30))).bind fun y203 => ((diff_Events.f k y200 y203).bind fun bt206 => ((diff_Events.f k y200 y200).bind fun bt219 => (if (bt219.1 == 2 && (bt219.2.1 == 0 && ((bt219.2.2.1 == 0 && (bt219.2.2.2.1 == 0 && (bt219.2.2.2.2.1 == 0 && (bt219.2.2.2.2.2.1 == 0 && (bt219.2.2.2.2.2.2.1 == 0))))) && ((bt219.2.2.2.2.2.2.2.1 == 0 && (bt219.2.2.2.2.2.2.2.2.1 == 0 && (bt219.2.2.2.2.2.2.2.2.2.1 == 0 && (bt219.2.2.2.2.2.2.2.2.2.2.1 == 0 && (bt219.2.2.2.2.2.2.2.2.2.2.2 == 0))))))))) = true then (if bt206.1 = 1 then (if bt206.2.1 = 1 then (if 1 < (y200.length : Int) then (if (bt206.2.2.1 == ((rd_T30 y200 1).f0) && (bt206.2.2.2.1 == ((rd_T30 y200 1).f1) && (bt206.2.2.2.2.1 == ((rd_T30 y200 1).f2) && (bt206.2.2.2.2.2.1 == ((rd_T30 y200 1).f3) && (bt206.2.2.2.2.2.2.1 == ((rd_T30 y200 1).f4)))))) = true then (if 1 < (y203.length : Int) then (some (bt206.2.2.2.2.2.2.2.1 == ((rd_T30 y203 1).f0) && (bt206.2.2.2.2.2.2.2.2.1 == ((rd_T30 y203 1).f1) && (bt206.2.2.2.2.2.2.2.2.2.1 == ((rd_T30 y203 1).f2) && (bt206.2.2.2.2.2.2.2.2.2.2.1 == ((rd_T30 y203 1).f3) && (bt206.2.2.2.2.2.2.2.2.2.2.2 == ((rd_T30 y203 1).f4))))))) else (none)) else (none)) else (none)) else (none)) else (none)) else (none)))))) = some r := h
 clear h
 obtain ⟨y200, hy200⟩ : ∃ y_ : List (S30), y_ = (([(⟨1, 1, 0, 0, 0⟩ : S30), (⟨2, 1, 0, 0, 0⟩ : S30)] : List (S30))) := ⟨_, rfl⟩
 replace H : ((some (([(⟨1, 1, 0, 0, 0⟩ : S30), (⟨2, 2, 0, 0, 0⟩ : S30)] : List (S30)) : List (S30))).bind fun y203 => ((diff_Events.f k y200 y203).bind fun bt206 => ((diff_Events.f k y200 y200).bind fun bt219 => (if (bt219.1 == 2 && (bt219.2.1 == 0 && ((bt219.2.2.1 == 0 && (bt219.2.2.2.1 == 0 && (bt219.2.2.2.2.1 == 0 && (bt219.2.2.2.2.2.1 == 0 && (bt219.2.2.2.2.2.2.1 == 0))))) && ((bt219.2.2.2.2.2.2.2.1 == 0 && (bt219.2.2.2.2.2.2.2.2.1 == 0 && (bt219.2.2.2.2.2.2.2.2.2.1 == 0 && (bt219.2.2.2.2.2.2.2.2.2.2.1 == 0 && (bt219.2.2.2.2.2.2.2.2.2.2.2 == 0))))))))) = true then (if bt206.1 = 1 then (if bt206.2.1 = 1 then (if 1 < (y200.length : Int) then (if (bt206.2.2.1 == ((rd_T30 y200 1).f0) && (bt206.2.2.2.1 == ((rd_T30 y200 1).f1) && (bt206.2.2.2.2.1 == ((rd_T30 y200 1).f2) && (bt206.2.2.2.2.2.1 == ((rd_T30 y200 1).f3) && (bt206.2.2.2.2.2.2.1 == ((rd_T30 y200 1).f4)))))) = true then (if 1 < (y203.length : Int) then (some (bt206.2.2.2.2.2.2.2.1 == ((rd_T30 y203 1).f0) && (bt206.2.2.2.2.2.2.2.2.1 == ((rd_T30 y203 1).f1) && (bt206.2.2.2.2.2.2.2.2.2.1 == ((rd_T30 y203 1).f2) && (bt206.2.2.2.2.2.2.2.2.2.2.1 == ((rd_T30 y203 1).f3) && (bt206.2.2.2.2.2.2.2.2.2.2.2 == ((rd_T30 y203 1).f4))))))) else (none)) else (none)) else (none)) else (none)) else (none)) else (none))))) = some r := by first | (rw [hy200]; with_reducible exact H) | (have H2_ := (Option.bind_some _ _).symm.trans H; rw [hy200]; with_reducible exact H2_) | (have H2_ := (Option.bind_some _ _).symm.trans H; with_reducible exact H2_) | with_reducible exact H | (rw [hy200]; exact H) | exact H
 have Ny200 := Aside0.mk hy200
 clear hy200
 obtain ⟨y203, hy203⟩ : ∃ y_ : List (S30), y_ = (([(⟨1, 1, 0, 0, 0⟩ : S30), (⟨2, 2, 0, 0, 0⟩ : S30)] : List (S30))) := ⟨_, rfl⟩
 replace H : ((diff_Events.f k y200 y203).bind fun bt206 => ((diff_Events.f k y200 y200).bind fun bt219 => (if (bt219.1 == 2 && (bt219.2.1 == 0 && ((bt219.2.2.1 == 0 && (bt219.2.2.2.1 == 0 && (bt219.2.2.2.2.1 == 0 && (bt219.2.2.2.2.2.1 == 0 && (bt219.2.2.2.2.2.2.1 == 0))))) && ((bt219.2.2.2.2.2.2.2.1 == 0 && (bt219.2.2.2.2.2.2.2.2.1 == 0 && (bt219.2.2.2.2.2.2.2.2.2.1 == 0 && (bt219.2.2.2.2.2.2.2.2.2.2.1 == 0 && (bt219.2.2.2.2.2.2.2.2.2.2.2 == 0))))))))) = true then (if bt206.1 = 1 then (if bt206.2.1 = 1 then (if 1 < (y200.length : Int) then (if (bt206.2.2.1 == ((rd_T30 y200 1).f0) && (bt206.2.2.2.1 == ((rd_T30 y200 1).f1) && (bt206.2.2.2.2.1 == ((rd_T30 y200 1).f2) && (bt206.2.2.2.2.2.1 == ((rd_T30 y200 1).f3) && (bt206.2.2.2.2.2.2.1 == ((rd_T30 y200 1).f4)))))) = true then (if 1 < (y203.length : Int) then (some (bt206.2.2.2.2.2.2.2.1 == ((rd_T30 y203 1).f0) && (bt206.2.2.2.2.2.2.2.2.1 == ((rd_T30 y203 1).f1) && (bt206.2.2.2.2.2.2.2.2.2.1 == ((rd_T30 y203 1).f2) && (bt206.2.2.2.2.2.2.2.2.2.2.1 == ((rd_T30 y203 1).f3) && (bt206.2.2.2.2.2.2.2.2.2.2.2 == ((rd_T30 y203 1).f4))))))) else (none)) else (none)) else (none)) else (none)) else (none)) else (none)))) = some r := by first | (rw [hy203]; with_reducible exact H) | (have H2_ := (Option.bind_some _ _).symm.trans H; rw [hy203]; with_reducible exact H2_) | (have H2_ := (Option.bind_some _ _).symm.trans H; with_reducible exact H2_) | with_reducible exact H | (rw [hy203]; exact H) | exact H
 have Ny203 := Aside0.mk hy203
 clear hy203
 replace H := Option.bind_eq_some_iff.mp H
 obtain ⟨⟨t206, t207, t208, t209, t210, t211, t212, t213, t214, t215, t216, t217⟩, A10, H⟩ := H
 replace H : ((diff_Events.f k y200 y200).bind fun bt219 => (if (bt219.1 == 2 && (bt219.2.1 == 0 && ((bt219.2.2.1 == 0 && (bt219.2.2.2.1 == 0 && (bt219.2.2.2.2.1 == 0 && (bt219.2.2.2.2.2.1 == 0 && (bt219.2.2.2.2.2.2.1 == 0))))) && ((bt219.2.2.2.2.2.2.2.1 == 0 && (bt219.2.2.2.2.2.2.2.2.1 == 0 && (bt219.2.2.2.2.2.2.2.2.2.1 == 0 && (bt219.2.2.2.2.2.2.2.2.2.2.1 == 0 && (bt219.2.2.2.2.2.2.2.2.2.2.2 == 0))))))))) = true then (if t206 = 1 then (if t207 = 1 then (if 1 < (y200.length : Int) then (if (t208 == ((rd_T30 y200 1).f0) && (t209 == ((rd_T30 y200 1).f1) && (t210 == ((rd_T30 y200 1).f2) && (t211 == ((rd_T30 y200 1).f3) && (t212 == ((rd_T30 y200 1).f4)))))) = true then (if 1 < (y203.length : Int) then (some (t213 == ((rd_T30 y203 1).f0) && (t214 == ((rd_T30 y203 1).f1) && (t215 == ((rd_T30 y203 1).f2) && (t216 == ((rd_T30 y203 1).f3) && (t217 == ((rd_T30 y203 1).f4))))))) else (none)) else (none)) else (none)) else (none)) else (none)) else (none))) = some r := H
 have A1 := Aside0.mk A10
 clear A10
 replace H := Option.bind_eq_some_iff.mp H
 obtain ⟨⟨t219, t220, t221, t222, t223, t224, t225, t226, t227, t228, t229, t230⟩, A20, H⟩ := H
 replace H : (if (t219 == 2 && (t220 == 0 && ((t221 == 0 && (t222 == 0 && (t223 == 0 && (t224 == 0 && (t225 == 0))))) && ((t226 == 0 && (t227 == 0 && (t228 == 0 && (t229 == 0 && (t230 == 0))))))))) = true then (if t206 = 1 then (if t207 = 1 then (if 1 < (y200.length : Int) then (if (t208 == ((rd_T30 y200 1).f0) && (t209 == ((rd_T30 y200 1).f1) && (t210 == ((rd_T30 y200 1).f2) && (t211 == ((rd_T30 y200 1).f3) && (t212 == ((rd_T30 y200 1).f4)))))) = true then (if 1 < (y203.length : Int) then (some (t213 == ((rd_T30 y203 1).f0) && (t214 == ((rd_T30 y203 1).f1) && (t215 == ((rd_T30 y203 1).f2) && (t216 == ((rd_T30 y203 1).f3) && (t217 == ((rd_T30 y203 1).f4))))))) else (none)) else (none)) else (none)) else (none)) else (none)) else (none)) = some r := H
 have A2 := Aside0.mk A20
 clear A20
 by_cases c3 : (t219 == 2 && (t220 == 0 && ((t221 == 0 && (t222 == 0 && (t223 == 0 && (t224 == 0 && (t225 == 0))))) && ((t226 == 0 && (t227 == 0 && (t228 == 0 && (t229 == 0 && (t230 == 0))))))))) = true
 ·rw [if_pos c3] at H
  have c3b0 : (t219 == 2 && (t220 == 0 && ((t221 == 0 && (t222 == 0 && (t223 == 0 && (t224 == 0 && (t225 == 0))))) && ((t226 == 0 && (t227 == 0 && (t228 == 0 && (t229 == 0 && (t230 == 0))))))))) = true := c3
  (try (have c3b1 : decide (t219 = 2 && (t220 == 0 && ((t221 == 0 && (t222 == 0 && (t223 == 0 && (t224 == 0 && (t225 == 0))))) && ((t226 == 0 && (t227 == 0 && (t228 == 0 && (t229 == 0 && (t230 == 0))))))))) = true := by simpa using c3))
  (try (have c3b2 : (t219 == 2 && (t220 == 0 && ((t221 == 0 && (t222 == 0 && (t223 == 0 && (t224 == 0 && (t225 == 0))))) && ((t226 == 0 && (t227 == 0 && (t228 == 0 && (t229 == 0 && (t230 == 0))))))))) = true := by simpa using c3))
  clear c3
  by_cases c4 : t206 = 1
  ·rw [if_pos c4] at H
   have c4b0 : (t206 == 1) = true := beq_iff_eq.mpr c4
   have c4b1 : (t206 != 1) = false := bne_eq_false_iff_eq.mpr c4
   clear c4
   by_cases c5 : t207 = 1
   ·rw [if_pos c5] at H
    have c5b0 : (t207 == 1) = true := beq_iff_eq.mpr c5
    have c5b1 : (t207 != 1) = false := bne_eq_false_iff_eq.mpr c5
    clear c5
    by_cases c6 : 1 < (y200.length : Int)
    ·rw [if_pos c6] at H
     have c6b0 : decide (1 < (y200.length : Int)) = true := decide_eq_true c6
     have c6b1 : decide (1 < y200.length) = true := decide_eq_true (by omega)
     clear c6
     by_cases c7 : (t208 == ((rd_T30 y200 1).f0) && (t209 == ((rd_T30 y200 1).f1) && (t210 == ((rd_T30 y200 1).f2) && (t211 == ((rd_T30 y200 1).f3) && (t212 == ((rd_T30 y200 1).f4)))))) = true
     ·rw [if_pos c7] at H
      have c7b0 : (t208 == ((rd_T30 y200 1).f0) && (t209 == ((rd_T30 y200 1).f1) && (t210 == ((rd_T30 y200 1).f2) && (t211 == ((rd_T30 y200 1).f3) && (t212 == ((rd_T30 y200 1).f4)))))) = true := c7
      (try (have c7b1 : decide (t208 = ((rd_T30 y200 1).f0) && (t209 == ((rd_T30 y200 1).f1) && (t210 == ((rd_T30 y200 1).f2) && (t211 == ((rd_T30 y200 1).f3) && (t212 == ((rd_T30 y200 1).f4)))))) = true := by simpa using c7))
      (try (have c7b2 : (t208 == ((rd_T30 y200 1).f0) && (t209 == ((rd_T30 y200 1).f1) && (t210 == ((rd_T30 y200 1).f2) && (t211 == ((rd_T30 y200 1).f3) && (t212 == ((rd_T30 y200 1).f4)))))) = true := by simpa using c7))
      clear c7
      by_cases c8 : 1 < (y203.length : Int)
      ·rw [if_pos c8] at H
       have c8b0 : decide (1 < (y203.length : Int)) = true := decide_eq_true c8
       have c8b1 : decide (1 < y203.length) = true := decide_eq_true (by omega)
       clear c8
       obtain rfl := Option.some.inj H
       go_enter Tryd.func28, Tryd.ntmps28
       try go_wp2_with (first | ((with_reducible refine gate_dst (N := 6) rfl ?_); refine Kd.R_lit k30 _ 30 ?hg (N := 6) ?hd (xs := ([(⟨1, 1, 0, 0, 0⟩ : S30), (⟨2, 1, 0, 0, 0⟩ : S30)] : List (S30))) (inner := [.int .i64 1, .int .i64 1, .int .i64 0, .int .i64 0, .int .i64 0, .int .i64 2, .int .i64 1, .int .i64 0, .int .i64 0, .int .i64 0]) (ok := fun _ => True) (okp := fun _ => True) ?hr ?hp (fun _ hk => hk) trivial (Below.refl _ _) (Nat.le_refl _) (by simp) ?_; (case hd => rfl); (case hg => rfl); (case hr => first | (go_simp; done) | (go_simp; rfl)); (case hp => exact (Reps.c5 (show Kd.M k30 _ _ _ (⟨1, 1, 0, 0, 0⟩ : S30) [.int .i64 1, .int .i64 1, .int .i64 0, .int .i64 0, .int .i64 0] from (k30_mkM _ _ _ (⟨1, 1, 0, 0, 0⟩ : S30) )) (Reps.c5 (show Kd.M k30 _ _ _ (⟨2, 1, 0, 0, 0⟩ : S30) [.int .i64 2, .int .i64 1, .int .i64 0, .int .i64 0, .int .i64 0] from (k30_mkM _ _ _ (⟨2, 1, 0, 0, 0⟩ : S30) )) (Reps.none _ _)))); intro v201 w9 ho10 hb hg_ hnew_; clear hg_ hnew_; (first | rw [← Ny200.out] at ho10 | (simp only [Int.reduceToNat] at ho10; rw [← Ny200.out] at ho10)); have n0_ := Aside0.mk (Kd.R_lower ho10 (below_size (by repeat (first | (with_reducible first | exact HB.out | apply below_alloc | apply pw_below_drewN | apply below_drew1) | exact HB.out)))); have n1_ := Aside0.mk (below_step (by repeat (first | (with_reducible first | exact HB.out | apply below_alloc | apply pw_below_drewN | apply below_drew1) | exact HB.out)) hb); clear HB; have HO202 := n0_; have HB := n1_; clear n0_ n1_; clear hb ho10) | ((with_reducible refine gate_dst (N := 9) rfl ?_); refine Kd.R_lit k30 _ 30 ?hg (N := 9) ?hd (xs := ([(⟨1, 1, 0, 0, 0⟩ : S30), (⟨2, 2, 0, 0, 0⟩ : S30)] : List (S30))) (inner := [.int .i64 1, .int .i64 1, .int .i64 0, .int .i64 0, .int .i64 0, .int .i64 2, .int .i64 2, .int .i64 0, .int .i64 0, .int .i64 0]) (ok := fun _ => True) (okp := fun _ => True) ?hr ?hp (fun _ hk => hk) trivial (Below.refl _ _) (Nat.le_refl _) (by simp) ?_; (case hd => rfl); (case hg => rfl); (case hr => first | (go_simp; done) | (go_simp; rfl)); (case hp => exact (Reps.c5 (show Kd.M k30 _ _ _ (⟨1, 1, 0, 0, 0⟩ : S30) [.int .i64 1, .int .i64 1, .int .i64 0, .int .i64 0, .int .i64 0] from (k30_mkM _ _ _ (⟨1, 1, 0, 0, 0⟩ : S30) )) (Reps.c5 (show Kd.M k30 _ _ _ (⟨2, 2, 0, 0, 0⟩ : S30) [.int .i64 2, .int .i64 2, .int .i64 0, .int .i64 0, .int .i64 0] from (k30_mkM _ _ _ (⟨2, 2, 0, 0, 0⟩ : S30) )) (Reps.none _ _)))); intro v204 w11 ho12 hb hg_ hnew_; clear hg_ hnew_; (first | rw [← Ny203.out] at ho12 | (simp only [Int.reduceToNat] at ho12; rw [← Ny203.out] at ho12)); have n0_ := Aside0.mk (Kd.R_elder' (by (with_reducible repeat (first | apply Kd.R_alloc | apply Kd.R_drewN | apply Kd.R_drew)); first | exact HO202.out | exact Kd.R_mono HO202.out (fun _ _ => trivial)) (Kd.R_base ho12) hb); have n1_ := Aside0.mk (Kd.R_lower (Kd.R_new' ho12 (Kd.R_lt (by (with_reducible repeat (first | apply Kd.R_alloc | apply Kd.R_drewN | apply Kd.R_drew)); first | exact HO202.out | exact Kd.R_mono HO202.out (fun _ _ => trivial)))) (below_size (by repeat (first | (with_reducible first | exact HB.out | apply below_alloc | apply pw_below_drewN | apply below_drew1) | exact HB.out)))); have n2_ := Aside0.mk (below_step (by repeat (first | (with_reducible first | exact HB.out | apply below_alloc | apply pw_below_drewN | apply below_drew1) | exact HB.out)) hb); clear HO202; clear HB; have HO202 := n0_; have HO205 := n1_; have HB := n2_; clear n0_ n1_ n2_; clear hb ho12; obtain ⟨Ao13, co13, eo13⟩ := Kd.R_slice HO202.out; subst eo13; obtain ⟨Ao14, co14, eo14⟩ := Kd.R_slice HO205.out; subst eo14) | ((with_reducible refine gate_callee (f := 57) rfl ?_); refine goesL_ (some 12) rfl rfl Tryd.func57 (by kernel_rfl) rfl #[.slice Ao13 y200.length co13, .slice Ao14 y203.length co14] rfl (by (try simp only [List.map_toArray, List.map_cons, List.map_nil]); first | done | rfl | (simp only [List.length_drop, List.length_take]; first | rfl | (rw [Nat.min_eq_left (Int.toNat_le.2 (of_decide_eq_true (by assumption)))]; rfl))) ?_; (with_reducible refine (diff_Events.calls k _ _ y200 _ _ y203 t206 t207 t208 t209 t210 t211 t212 t213 t214 t215 t216 t217 _ ?side1 ?side2 ?side3 ?side4 A1.out).mono ?_); (case side1 => repeat (first | exact (Kd.R_reads' HO202.out).2.2 | (with_reducible refine Kd.C_alloc ?_ _) | (with_reducible refine Kd.C_drewN ?_ _) | (with_reducible refine Kd.C_drew ?_))); (case side2 => exact (Kd.R_reads' HO202.out).2.1); (case side3 => repeat (first | exact (Kd.R_reads' HO205.out).2.2 | (with_reducible refine Kd.C_alloc ?_ _) | (with_reducible refine Kd.C_drewN ?_ _) | (with_reducible refine Kd.C_drew ?_))); (case side4 => exact (Kd.R_reads' HO205.out).2.1); rintro e w15 ⟨rfl, hb⟩; refine ⟨_, rfl, ?_⟩; have n0_ := Aside0.mk (Kd.R_below (by (with_reducible repeat (first | apply Kd.R_alloc | apply Kd.R_drewN | apply Kd.R_drew)); first | exact HO202.out | exact Kd.R_mono HO202.out (fun _ _ => trivial)) hb); have n1_ := Aside0.mk (Kd.R_below (by (with_reducible repeat (first | apply Kd.R_alloc | apply Kd.R_drewN | apply Kd.R_drew)); first | exact HO205.out | exact Kd.R_mono HO205.out (fun _ _ => trivial)) hb); have n2_ := Aside0.mk (below_step (by repeat (first | (with_reducible first | exact HB.out | apply below_alloc | apply pw_below_drewN | apply below_drew1) | exact HB.out)) hb); clear HO202; clear HO205; clear HB; have HO202 := n0_; have HO205 := n1_; have HB := n2_; clear n0_ n1_ n2_; (try clear hb); (try clear hb2); (try clear hk); (try clear hi)) | ((with_reducible refine gate_dst (N := 3) rfl ?_); refine box_event ?hg (N := 3) ?hd (cs := #[.int .i64 0, .int .i64 0, .int .i64 0, .int .i64 0, .int .i64 0, .int .i64 0, .int .i64 0, .int .i64 0, .int .i64 0, .int .i64 0, .int .i64 0, .int .i64 0]) (t := 50) ?hr ?_; (case hd => rfl); (case hg => rfl); (case hr => first | (go_simp; done) | (go_simp; rfl)); intro gb218 hg w16 hbox hb; have n0_ := Aside0.mk (Kd.R_below (by (with_reducible repeat (first | apply Kd.R_alloc | apply Kd.R_drewN | apply Kd.R_drew)); first | exact HO202.out | exact Kd.R_mono HO202.out (fun _ _ => trivial)) hb); have n1_ := Aside0.mk (Kd.R_below (by (with_reducible repeat (first | apply Kd.R_alloc | apply Kd.R_drewN | apply Kd.R_drew)); first | exact HO205.out | exact Kd.R_mono HO205.out (fun _ _ => trivial)) hb); have n2_ := Aside0.mk (below_step (by repeat (first | (with_reducible first | exact HB.out | apply below_alloc | apply pw_below_drewN | apply below_drew1) | exact HB.out)) hb); have n3_ := Aside0.mk (hbox); have n4_ := Aside0.mk ((by rw [hg]; exact (below_size (by repeat (first | (with_reducible first | exact HB.out | apply below_alloc | apply pw_below_drewN | apply below_drew1) | exact HB.out))) : w.heap.size ≤ gb218)); have n5_ := Aside0.mk ((by rw [hg]; exact (below_size (by repeat (first | (with_reducible first | exact HB.out | apply below_alloc | apply pw_below_drewN | apply below_drew1) | exact HB.out))) : w.heap.size ≤ gb218)); clear HO202; clear HO205; clear HB; have HO202 := n0_; have HO205 := n1_; have HB := n2_; have BK218 := n3_; have GW218 := n4_; have GE218 := n5_; clear n0_ n1_ n2_ n3_ n4_ n5_; clear hb hbox hg; have hcz17_0 : w16.cell? ⟨gb218, 0, none⟩ = some (.int .i64 0) := (blk_cell BK218.out 0).trans rfl; have hcz17_1 : w16.cell? ⟨gb218, 1, none⟩ = some (.int .i64 0) := (blk_cell BK218.out 1).trans rfl; have hcz17_2 : w16.cell? ⟨gb218, 2, none⟩ = some (.int .i64 0) := (blk_cell BK218.out 2).trans rfl; have hcz17_3 : w16.cell? ⟨gb218, 3, none⟩ = some (.int .i64 0) := (blk_cell BK218.out 3).trans rfl; have hcz17_4 : w16.cell? ⟨gb218, 4, none⟩ = some (.int .i64 0) := (blk_cell BK218.out 4).trans rfl; have hcz17_5 : w16.cell? ⟨gb218, 5, none⟩ = some (.int .i64 0) := (blk_cell BK218.out 5).trans rfl; have hcz17_6 : w16.cell? ⟨gb218, 6, none⟩ = some (.int .i64 0) := (blk_cell BK218.out 6).trans rfl; have hcz17_7 : w16.cell? ⟨gb218, 7, none⟩ = some (.int .i64 0) := (blk_cell BK218.out 7).trans rfl; have hcz17_8 : w16.cell? ⟨gb218, 8, none⟩ = some (.int .i64 0) := (blk_cell BK218.out 8).trans rfl; have hcz17_9 : w16.cell? ⟨gb218, 9, none⟩ = some (.int .i64 0) := (blk_cell BK218.out 9).trans rfl; have hcz17_10 : w16.cell? ⟨gb218, 10, none⟩ = some (.int .i64 0) := (blk_cell BK218.out 10).trans rfl; have hcz17_11 : w16.cell? ⟨gb218, 11, none⟩ = some (.int .i64 0) := (blk_cell BK218.out 11).trans rfl; have hfz17_0 := blk_frozen BK218.out 0; have hfz17_1 := blk_frozen BK218.out 1; have hfz17_2 := blk_frozen BK218.out 2; have hfz17_3 := blk_frozen BK218.out 3; have hfz17_4 := blk_frozen BK218.out 4; have hfz17_5 := blk_frozen BK218.out 5; have hfz17_6 := blk_frozen BK218.out 6; have hfz17_7 := blk_frozen BK218.out 7; have hfz17_8 := blk_frozen BK218.out 8; have hfz17_9 := blk_frozen BK218.out 9; have hfz17_10 := blk_frozen BK218.out 10; have hfz17_11 := blk_frozen BK218.out 11))
       have n0_ : Aside0 (Kd.R k30 30 ((((((((((((w16.setCell ⟨gb218, 0, none⟩ (.int .i64 t206)).setCell ⟨gb218, 1, none⟩ (.int .i64 t207)).setCell ⟨gb218, 2, none⟩ (.int .i64 t208)).setCell ⟨gb218, 3, none⟩ (.int .i64 t209)).setCell ⟨gb218, 4, none⟩ (.int .i64 t210)).setCell ⟨gb218, 5, none⟩ (.int .i64 t211)).setCell ⟨gb218, 6, none⟩ (.int .i64 t212)).setCell ⟨gb218, 7, none⟩ (.int .i64 t213)).setCell ⟨gb218, 8, none⟩ (.int .i64 t214)).setCell ⟨gb218, 9, none⟩ (.int .i64 t215)).setCell ⟨gb218, 10, none⟩ (.int .i64 t216)).setCell ⟨gb218, 11, none⟩ (.int .i64 t217)) w.heap.size (fun k_ => some k_ ≠ (.slice Ao14 y203.length co14 : Value).ownBlock) (.slice Ao13 y200.length co13) y200) := ⟨by (with_reducible repeat (first | apply Kd.R_alloc | apply Kd.R_drewN | apply Kd.R_drew)); exact Kd.R_mono (Kd.R_far (p := ⟨gb218, 11, none⟩) (Kd.R_far (p := ⟨gb218, 10, none⟩) (Kd.R_far (p := ⟨gb218, 9, none⟩) (Kd.R_far (p := ⟨gb218, 8, none⟩) (Kd.R_far (p := ⟨gb218, 7, none⟩) (Kd.R_far (p := ⟨gb218, 6, none⟩) (Kd.R_far (p := ⟨gb218, 5, none⟩) (Kd.R_far (p := ⟨gb218, 4, none⟩) (Kd.R_far (p := ⟨gb218, 3, none⟩) (Kd.R_far (p := ⟨gb218, 2, none⟩) (Kd.R_far (p := ⟨gb218, 1, none⟩) (Kd.R_far (p := ⟨gb218, 0, none⟩) (Kd.R_types HO202.out BK218.out (by decide)) (fun _ hk => hk.2) (.int .i64 t206)) (fun _ hk => hk.2) (.int .i64 t207)) (fun _ hk => hk.2) (.int .i64 t208)) (fun _ hk => hk.2) (.int .i64 t209)) (fun _ hk => hk.2) (.int .i64 t210)) (fun _ hk => hk.2) (.int .i64 t211)) (fun _ hk => hk.2) (.int .i64 t212)) (fun _ hk => hk.2) (.int .i64 t213)) (fun _ hk => hk.2) (.int .i64 t214)) (fun _ hk => hk.2) (.int .i64 t215)) (fun _ hk => hk.2) (.int .i64 t216)) (fun _ hk => hk.2) (.int .i64 t217)) (fun _ hk => hk.1.2)⟩
       have n1_ : Aside0 (Kd.R k30 30 ((((((((((((w16.setCell ⟨gb218, 0, none⟩ (.int .i64 t206)).setCell ⟨gb218, 1, none⟩ (.int .i64 t207)).setCell ⟨gb218, 2, none⟩ (.int .i64 t208)).setCell ⟨gb218, 3, none⟩ (.int .i64 t209)).setCell ⟨gb218, 4, none⟩ (.int .i64 t210)).setCell ⟨gb218, 5, none⟩ (.int .i64 t211)).setCell ⟨gb218, 6, none⟩ (.int .i64 t212)).setCell ⟨gb218, 7, none⟩ (.int .i64 t213)).setCell ⟨gb218, 8, none⟩ (.int .i64 t214)).setCell ⟨gb218, 9, none⟩ (.int .i64 t215)).setCell ⟨gb218, 10, none⟩ (.int .i64 t216)).setCell ⟨gb218, 11, none⟩ (.int .i64 t217)) w.heap.size (fun k_ => some k_ ≠ (.slice Ao13 y200.length co13 : Value).ownBlock) (.slice Ao14 y203.length co14) y203) := ⟨by (with_reducible repeat (first | apply Kd.R_alloc | apply Kd.R_drewN | apply Kd.R_drew)); exact Kd.R_mono (Kd.R_far (p := ⟨gb218, 11, none⟩) (Kd.R_far (p := ⟨gb218, 10, none⟩) (Kd.R_far (p := ⟨gb218, 9, none⟩) (Kd.R_far (p := ⟨gb218, 8, none⟩) (Kd.R_far (p := ⟨gb218, 7, none⟩) (Kd.R_far (p := ⟨gb218, 6, none⟩) (Kd.R_far (p := ⟨gb218, 5, none⟩) (Kd.R_far (p := ⟨gb218, 4, none⟩) (Kd.R_far (p := ⟨gb218, 3, none⟩) (Kd.R_far (p := ⟨gb218, 2, none⟩) (Kd.R_far (p := ⟨gb218, 1, none⟩) (Kd.R_far (p := ⟨gb218, 0, none⟩) (Kd.R_types HO205.out BK218.out (by decide)) (fun _ hk => hk.2) (.int .i64 t206)) (fun _ hk => hk.2) (.int .i64 t207)) (fun _ hk => hk.2) (.int .i64 t208)) (fun _ hk => hk.2) (.int .i64 t209)) (fun _ hk => hk.2) (.int .i64 t210)) (fun _ hk => hk.2) (.int .i64 t211)) (fun _ hk => hk.2) (.int .i64 t212)) (fun _ hk => hk.2) (.int .i64 t213)) (fun _ hk => hk.2) (.int .i64 t214)) (fun _ hk => hk.2) (.int .i64 t215)) (fun _ hk => hk.2) (.int .i64 t216)) (fun _ hk => hk.2) (.int .i64 t217)) (fun _ hk => hk.1.2)⟩
       have n2_ : Aside0 (((((((((((((w16.setCell ⟨gb218, 0, none⟩ (.int .i64 t206)).setCell ⟨gb218, 1, none⟩ (.int .i64 t207)).setCell ⟨gb218, 2, none⟩ (.int .i64 t208)).setCell ⟨gb218, 3, none⟩ (.int .i64 t209)).setCell ⟨gb218, 4, none⟩ (.int .i64 t210)).setCell ⟨gb218, 5, none⟩ (.int .i64 t211)).setCell ⟨gb218, 6, none⟩ (.int .i64 t212)).setCell ⟨gb218, 7, none⟩ (.int .i64 t213)).setCell ⟨gb218, 8, none⟩ (.int .i64 t214)).setCell ⟨gb218, 9, none⟩ (.int .i64 t215)).setCell ⟨gb218, 10, none⟩ (.int .i64 t216)).setCell ⟨gb218, 11, none⟩ (.int .i64 t217)).heap[gb218]? = some (.cells #[.int .i64 t206, .int .i64 t207, .int .i64 t208, .int .i64 t209, .int .i64 t210, .int .i64 t211, .int .i64 t212, .int .i64 t213, .int .i64 t214, .int .i64 t215, .int .i64 t216, .int .i64 t217] 50 (0, 0))) := ⟨by (with_reducible repeat (first | refine blk_drewN ?_ _ | refine blk_drew ?_ | refine blk_alloc ?_ _)); refine blk_put (cs := #[.int .i64 t206, .int .i64 t207, .int .i64 t208, .int .i64 t209, .int .i64 t210, .int .i64 t211, .int .i64 t212, .int .i64 t213, .int .i64 t214, .int .i64 t215, .int .i64 t216, .int .i64 0]) ?_ 11 _ rfl; (with_reducible repeat (first | refine blk_drewN ?_ _ | refine blk_drew ?_ | refine blk_alloc ?_ _)); refine blk_put (cs := #[.int .i64 t206, .int .i64 t207, .int .i64 t208, .int .i64 t209, .int .i64 t210, .int .i64 t211, .int .i64 t212, .int .i64 t213, .int .i64 t214, .int .i64 t215, .int .i64 0, .int .i64 0]) ?_ 10 _ rfl; (with_reducible repeat (first | refine blk_drewN ?_ _ | refine blk_drew ?_ | refine blk_alloc ?_ _)); refine blk_put (cs := #[.int .i64 t206, .int .i64 t207, .int .i64 t208, .int .i64 t209, .int .i64 t210, .int .i64 t211, .int .i64 t212, .int .i64 t213, .int .i64 t214, .int .i64 0, .int .i64 0, .int .i64 0]) ?_ 9 _ rfl; (with_reducible repeat (first | refine blk_drewN ?_ _ | refine blk_drew ?_ | refine blk_alloc ?_ _)); refine blk_put (cs := #[.int .i64 t206, .int .i64 t207, .int .i64 t208, .int .i64 t209, .int .i64 t210, .int .i64 t211, .int .i64 t212, .int .i64 t213, .int .i64 0, .int .i64 0, .int .i64 0, .int .i64 0]) ?_ 8 _ rfl; (with_reducible repeat (first | refine blk_drewN ?_ _ | refine blk_drew ?_ | refine blk_alloc ?_ _)); refine blk_put (cs := #[.int .i64 t206, .int .i64 t207, .int .i64 t208, .int .i64 t209, .int .i64 t210, .int .i64 t211, .int .i64 t212, .int .i64 0, .int .i64 0, .int .i64 0, .int .i64 0, .int .i64 0]) ?_ 7 _ rfl; (with_reducible repeat (first | refine blk_drewN ?_ _ | refine blk_drew ?_ | refine blk_alloc ?_ _)); refine blk_put (cs := #[.int .i64 t206, .int .i64 t207, .int .i64 t208, .int .i64 t209, .int .i64 t210, .int .i64 t211, .int .i64 0, .int .i64 0, .int .i64 0, .int .i64 0, .int .i64 0, .int .i64 0]) ?_ 6 _ rfl; (with_reducible repeat (first | refine blk_drewN ?_ _ | refine blk_drew ?_ | refine blk_alloc ?_ _)); refine blk_put (cs := #[.int .i64 t206, .int .i64 t207, .int .i64 t208, .int .i64 t209, .int .i64 t210, .int .i64 0, .int .i64 0, .int .i64 0, .int .i64 0, .int .i64 0, .int .i64 0, .int .i64 0]) ?_ 5 _ rfl; (with_reducible repeat (first | refine blk_drewN ?_ _ | refine blk_drew ?_ | refine blk_alloc ?_ _)); refine blk_put (cs := #[.int .i64 t206, .int .i64 t207, .int .i64 t208, .int .i64 t209, .int .i64 0, .int .i64 0, .int .i64 0, .int .i64 0, .int .i64 0, .int .i64 0, .int .i64 0, .int .i64 0]) ?_ 4 _ rfl; (with_reducible repeat (first | refine blk_drewN ?_ _ | refine blk_drew ?_ | refine blk_alloc ?_ _)); refine blk_put (cs := #[.int .i64 t206, .int .i64 t207, .int .i64 t208, .int .i64 0, .int .i64 0, .int .i64 0, .int .i64 0, .int .i64 0, .int .i64 0, .int .i64 0, .int .i64 0, .int .i64 0]) ?_ 3 _ rfl; (with_reducible repeat (first | refine blk_drewN ?_ _ | refine blk_drew ?_ | refine blk_alloc ?_ _)); refine blk_put (cs := #[.int .i64 t206, .int .i64 t207, .int .i64 0, .int .i64 0, .int .i64 0, .int .i64 0, .int .i64 0, .int .i64 0, .int .i64 0, .int .i64 0, .int .i64 0, .int .i64 0]) ?_ 2 _ rfl; (with_reducible repeat (first | refine blk_drewN ?_ _ | refine blk_drew ?_ | refine blk_alloc ?_ _)); refine blk_put (cs := #[.int .i64 t206, .int .i64 0, .int .i64 0, .int .i64 0, .int .i64 0, .int .i64 0, .int .i64 0, .int .i64 0, .int .i64 0, .int .i64 0, .int .i64 0, .int .i64 0]) ?_ 1 _ rfl; (with_reducible repeat (first | refine blk_drewN ?_ _ | refine blk_drew ?_ | refine blk_alloc ?_ _)); refine blk_put (cs := #[.int .i64 0, .int .i64 0, .int .i64 0, .int .i64 0, .int .i64 0, .int .i64 0, .int .i64 0, .int .i64 0, .int .i64 0, .int .i64 0, .int .i64 0, .int .i64 0]) ?_ 0 _ rfl; (with_reducible repeat (first | refine blk_drewN ?_ _ | refine blk_drew ?_ | refine blk_alloc ?_ _)); exact BK218.out⟩
       have n3_ : Aside0 (Below w.heap.size w ((((((((((((w16.setCell ⟨gb218, 0, none⟩ (.int .i64 t206)).setCell ⟨gb218, 1, none⟩ (.int .i64 t207)).setCell ⟨gb218, 2, none⟩ (.int .i64 t208)).setCell ⟨gb218, 3, none⟩ (.int .i64 t209)).setCell ⟨gb218, 4, none⟩ (.int .i64 t210)).setCell ⟨gb218, 5, none⟩ (.int .i64 t211)).setCell ⟨gb218, 6, none⟩ (.int .i64 t212)).setCell ⟨gb218, 7, none⟩ (.int .i64 t213)).setCell ⟨gb218, 8, none⟩ (.int .i64 t214)).setCell ⟨gb218, 9, none⟩ (.int .i64 t215)).setCell ⟨gb218, 10, none⟩ (.int .i64 t216)).setCell ⟨gb218, 11, none⟩ (.int .i64 t217))) := ⟨by repeat (first | (with_reducible first | exact HB.out | apply below_alloc | apply pw_below_drewN | apply below_drew1 | refine below_set ?_ GE218.out) | exact HB.out)⟩
       (try clear HO202)
       (try clear HO205)
       (try clear BK218)
       (try clear HB)
       generalize ((((((((((((w16.setCell ⟨gb218, 0, none⟩ (.int .i64 t206)).setCell ⟨gb218, 1, none⟩ (.int .i64 t207)).setCell ⟨gb218, 2, none⟩ (.int .i64 t208)).setCell ⟨gb218, 3, none⟩ (.int .i64 t209)).setCell ⟨gb218, 4, none⟩ (.int .i64 t210)).setCell ⟨gb218, 5, none⟩ (.int .i64 t211)).setCell ⟨gb218, 6, none⟩ (.int .i64 t212)).setCell ⟨gb218, 7, none⟩ (.int .i64 t213)).setCell ⟨gb218, 8, none⟩ (.int .i64 t214)).setCell ⟨gb218, 9, none⟩ (.int .i64 t215)).setCell ⟨gb218, 10, none⟩ (.int .i64 t216)).setCell ⟨gb218, 11, none⟩ (.int .i64 t217)) = w18 at n0_ n1_ n2_ n3_ ⊢
       have HO202 := n0_
       have HO205 := n1_
       have BK218 := n2_
       have HB := n3_
       clear n0_ n1_ n2_ n3_
       have n0_ := Aside0.mk (Kd.R_drew HO202.out)
       have n1_ := Aside0.mk (Kd.R_drew HO205.out)
       have n2_ := Aside0.mk (blk_drew BK218.out)
       have n3_ := Aside0.mk (below_drew1 HB.out)
       clear HO202
       clear HO205
       clear BK218
       clear HB
       have HO202 := n0_
       have HO205 := n1_
       have BK218 := n2_
       have HB := n3_
       clear n0_ n1_ n2_ n3_
       have p231 : 0 ≤ (1 : Int) := (by omega)
       have q231 : 1 < (y200.length : Int) := of_decide_eq_true (by first | (with_reducible assumption) | assumption)
       obtain ⟨ad231, e231, hx231_0, hx231_1, hx231_2, hx231_3, hx231_4⟩ := at_T30 (Kd.R_reads' HO202.out).2.2 1 p231 q231
       cases e231
       (try simp only [show (1 : Int).toNat = 1 from rfl, Nat.reduceMul, Nat.reduceEqDiff, Go.Addr.add, ↓reduceIte] at hx231_0)
       (try simp only [show (1 : Int).toNat = 1 from rfl, Nat.reduceMul, Nat.reduceEqDiff, Go.Addr.add, ↓reduceIte] at hx231_1)
       (try simp only [show (1 : Int).toNat = 1 from rfl, Nat.reduceMul, Nat.reduceEqDiff, Go.Addr.add, ↓reduceIte] at hx231_2)
       (try simp only [show (1 : Int).toNat = 1 from rfl, Nat.reduceMul, Nat.reduceEqDiff, Go.Addr.add, ↓reduceIte] at hx231_3)
       (try simp only [show (1 : Int).toNat = 1 from rfl, Nat.reduceMul, Nat.reduceEqDiff, Go.Addr.add, ↓reduceIte] at hx231_4)
       have qi231 : (1 < y200.length) = True := eq_true (by omega)
       (try rw [show ((1 : Int)).toNat = 1 from rfl] at hx231_0)
       (try rw [show 1 * 5 = 5 from rfl] at hx231_0)
       (try rw [show ((1 : Int)).toNat = 1 from rfl] at hx231_1)
       (try rw [show 1 * 5 = 5 from rfl] at hx231_1)
       (try rw [show ((1 : Int)).toNat = 1 from rfl] at hx231_2)
       (try rw [show 1 * 5 = 5 from rfl] at hx231_2)
       (try rw [show ((1 : Int)).toNat = 1 from rfl] at hx231_3)
       (try rw [show 1 * 5 = 5 from rfl] at hx231_3)
       (try rw [show ((1 : Int)).toNat = 1 from rfl] at hx231_4)
       (try rw [show 1 * 5 = 5 from rfl] at hx231_4)
       replace p231 := eq_true p231
       replace q231 := eq_true q231
       have p232 : 0 ≤ (1 : Int) := (by omega)
       have q232 : 1 < (y203.length : Int) := of_decide_eq_true (by first | (with_reducible assumption) | assumption)
       obtain ⟨ad232, e232, hx232_0, hx232_1, hx232_2, hx232_3, hx232_4⟩ := at_T30 (Kd.R_reads' HO205.out).2.2 1 p232 q232
       cases e232
       (try simp only [show (1 : Int).toNat = 1 from rfl, Nat.reduceMul, Nat.reduceEqDiff, Go.Addr.add, ↓reduceIte] at hx232_0)
       (try simp only [show (1 : Int).toNat = 1 from rfl, Nat.reduceMul, Nat.reduceEqDiff, Go.Addr.add, ↓reduceIte] at hx232_1)
       (try simp only [show (1 : Int).toNat = 1 from rfl, Nat.reduceMul, Nat.reduceEqDiff, Go.Addr.add, ↓reduceIte] at hx232_2)
       (try simp only [show (1 : Int).toNat = 1 from rfl, Nat.reduceMul, Nat.reduceEqDiff, Go.Addr.add, ↓reduceIte] at hx232_3)
       (try simp only [show (1 : Int).toNat = 1 from rfl, Nat.reduceMul, Nat.reduceEqDiff, Go.Addr.add, ↓reduceIte] at hx232_4)
       have qi232 : (1 < y203.length) = True := eq_true (by omega)
       (try rw [show ((1 : Int)).toNat = 1 from rfl] at hx232_0)
       (try rw [show 1 * 5 = 5 from rfl] at hx232_0)
       (try rw [show ((1 : Int)).toNat = 1 from rfl] at hx232_1)
       (try rw [show 1 * 5 = 5 from rfl] at hx232_1)
       (try rw [show ((1 : Int)).toNat = 1 from rfl] at hx232_2)
       (try rw [show 1 * 5 = 5 from rfl] at hx232_2)
       (try rw [show ((1 : Int)).toNat = 1 from rfl] at hx232_3)
       (try rw [show 1 * 5 = 5 from rfl] at hx232_3)
       (try rw [show ((1 : Int)).toNat = 1 from rfl] at hx232_4)
       (try rw [show 1 * 5 = 5 from rfl] at hx232_4)
       replace p232 := eq_true p232
       replace q232 := eq_true q232
       refine start_ (n := 32) (S := fun w' => w'.cell? ⟨gb218, 0, none⟩ = some (.int .i64 t206) ∧ w'.cell? ⟨gb218, 1, none⟩ = some (.int .i64 t207) ∧ w'.cell? ⟨gb218, 2, none⟩ = some (.int .i64 t208) ∧ w'.cell? ⟨gb218, 3, none⟩ = some (.int .i64 t209) ∧ w'.cell? ⟨gb218, 4, none⟩ = some (.int .i64 t210) ∧ w'.cell? ⟨gb218, 5, none⟩ = some (.int .i64 t211) ∧ w'.cell? ⟨gb218, 6, none⟩ = some (.int .i64 t212) ∧ w'.cell? ⟨gb218, 7, none⟩ = some (.int .i64 t213) ∧ w'.cell? ⟨gb218, 8, none⟩ = some (.int .i64 t214) ∧ w'.cell? ⟨gb218, 9, none⟩ = some (.int .i64 t215) ∧ w'.cell? ⟨gb218, 10, none⟩ = some (.int .i64 t216) ∧ w'.cell? ⟨gb218, 11, none⟩ = some (.int .i64 t217) ∧ w'.cell? ⟨ad231.block, ad231.off + 5, none⟩ = some (.int .i64 ((rd_T30 y200 1).f0)) ∧ w'.cell? ⟨ad231.block, ad231.off + 5 + 1, none⟩ = some (.int .i64 ((rd_T30 y200 1).f1)) ∧ w'.cell? ⟨ad231.block, ad231.off + 5 + 2, none⟩ = some (.int .i64 ((rd_T30 y200 1).f2)) ∧ w'.cell? ⟨ad231.block, ad231.off + 5 + 3, none⟩ = some (.int .i64 ((rd_T30 y200 1).f3)) ∧ w'.cell? ⟨ad231.block, ad231.off + 5 + 4, none⟩ = some (.int .i64 ((rd_T30 y200 1).f4)) ∧ w'.cell? ⟨ad232.block, ad232.off + 5, none⟩ = some (.int .i64 ((rd_T30 y203 1).f0)) ∧ w'.cell? ⟨ad232.block, ad232.off + 5 + 1, none⟩ = some (.int .i64 ((rd_T30 y203 1).f1)) ∧ w'.cell? ⟨ad232.block, ad232.off + 5 + 2, none⟩ = some (.int .i64 ((rd_T30 y203 1).f2)) ∧ w'.cell? ⟨ad232.block, ad232.off + 5 + 3, none⟩ = some (.int .i64 ((rd_T30 y203 1).f3)) ∧ w'.cell? ⟨ad232.block, ad232.off + 5 + 4, none⟩ = some (.int .i64 ((rd_T30 y203 1).f4))) (ds := []) #[false, false, false, false, false, false, false, false, false, false, false, false, false, false, false, false, false, false, false, false, false, false, false, false, false, false, false, false, false, false, false, false] (by kernel_rfl) rfl rfl ⟨(blk_cell BK218.out 0).trans rfl, (blk_cell BK218.out 1).trans rfl, (blk_cell BK218.out 2).trans rfl, (blk_cell BK218.out 3).trans rfl, (blk_cell BK218.out 4).trans rfl, (blk_cell BK218.out 5).trans rfl, (blk_cell BK218.out 6).trans rfl, (blk_cell BK218.out 7).trans rfl, (blk_cell BK218.out 8).trans rfl, (blk_cell BK218.out 9).trans rfl, (blk_cell BK218.out 10).trans rfl, (blk_cell BK218.out 11).trans rfl, hx231_0, hx231_1, hx231_2, hx231_3, hx231_4, hx232_0, hx232_1, hx232_2, hx232_3, hx232_4⟩ (fun hHeld => ?_); refine with_tabW palletlaw23_live.tab4 palletlaw23_live.bits4 (fun HT_ HW_ => ?_)
       generalize w18.drew = w19 at HO202 HO205 BK218 HB hx231_0 hx231_1 hx231_2 hx231_3 hx231_4 hx232_0 hx232_1 hx232_2 hx232_3 hx232_4 hHeld ⊢
       refine pure_ (i := 0) (N := some 13) (v := ?_) (a' := ?_) #[true, false, false, false, false, false, false, false, false, false, false, false, false, false, false, false, false, false, false, false, false, false, false, false, false, false, false, false, false, false, false, false] rfl rfl (any_of HT_.out (by kernel_rfl)) (fun _ _ _ h => h) (Or.inl ⟨by rfl, ?_⟩) ?_ ?_
       rotate_left
       ·intro w'
        go_simp
        with_reducible rfl
       rotate_left
       ·simp only [Act.put, List.setIfInBounds_toArray, List.set_cons_zero, List.set_cons_succ, i64_w, i32_w]
        rfl
       refine pure_ (i := 1) (N := some 14) (v := ?_) (a' := ?_) #[true, true, false, false, false, false, false, false, false, false, false, false, false, false, false, false, false, false, false, false, false, false, false, false, false, false, false, false, false, false, false, false] rfl rfl (any_of HT_.out (by kernel_rfl)) (fun _ _ _ h => h) (Or.inl ⟨by rfl, ?_⟩) ?_ ?_
       rotate_left
       ·intro w'
        go_simp
        with_reducible rfl
       rotate_left
       ·simp only [Act.put, List.setIfInBounds_toArray, List.set_cons_zero, List.set_cons_succ, i64_w, i32_w]
        rfl
       refine pure_ (i := 3) (N := some 16) (v := ?_) (a' := ?_) #[true, true, false, true, false, false, false, false, false, false, false, false, false, false, false, false, false, false, false, false, false, false, false, false, false, false, false, false, false, false, false, false] rfl rfl (any_of HT_.out (by kernel_rfl)) (fun _ _ _ h => h) (Or.inl ⟨by rfl, ?_⟩) ?_ ?_
       rotate_left
       ·intro w'
        go_simp
        with_reducible rfl
       rotate_left
       ·simp only [Act.put, List.setIfInBounds_toArray, List.set_cons_zero, List.set_cons_succ, i64_w, i32_w]
        rfl
       refine one_ (i := 2) (N := some 15) #[true, true, true, true, false, false, false, false, false, false, false, false, false, false, false, false, false, false, false, false, false, false, false, false, false, false, false, false, false, false, false, false] rfl rfl (one_of HT_.out (by kernel_rfl)) (by decide) (fun K hK => ?_)
       refine goes_ Tryd.func57 (by kernel_rfl) rfl #[.slice (some ad231) y200.length co13, .slice (some ad231) y200.length co13] (by rfl) rfl rfl (by (try simp only [List.map_toArray, List.map_cons, List.map_nil]); first | done | rfl | (simp only [List.length_drop, List.length_take]; first | rfl | (rw [Nat.min_eq_left (Int.toNat_le.2 (of_decide_eq_true (by assumption)))]; rfl))) ?_
       with_reducible refine (diff_Events.calls k _ _ y200 _ _ y200 t219 t220 t221 t222 t223 t224 t225 t226 t227 t228 t229 t230 _ ?side1 ?side2 ?side3 ?side4 A2.out).mono ?_
       (case side1 => repeat (first | exact (Kd.R_reads' HO202.out).2.2 | (with_reducible refine Kd.C_alloc ?_ _) | (with_reducible refine Kd.C_drewN ?_ _) | (with_reducible refine Kd.C_drew ?_)))
       (case side2 => exact (Kd.R_reads' HO202.out).2.1)
       (case side3 => repeat (first | exact (Kd.R_reads' HO202.out).2.2 | (with_reducible refine Kd.C_alloc ?_ _) | (with_reducible refine Kd.C_drewN ?_ _) | (with_reducible refine Kd.C_drew ?_)))
       (case side4 => exact (Kd.R_reads' HO202.out).2.1)
       rintro e w20 ⟨rfl, hb⟩
       have HS12_ := (hb.cell (World.block_lt_of_cell? _ _ (hHeld.2.2.2.2.2.2.2.2.2.2.2.2.1))).trans (hHeld.2.2.2.2.2.2.2.2.2.2.2.2.1)
       have HS13_ := (hb.cell (World.block_lt_of_cell? _ _ (hHeld.2.2.2.2.2.2.2.2.2.2.2.2.2.1))).trans (hHeld.2.2.2.2.2.2.2.2.2.2.2.2.2.1)
       have HS14_ := (hb.cell (World.block_lt_of_cell? _ _ (hHeld.2.2.2.2.2.2.2.2.2.2.2.2.2.2.1))).trans (hHeld.2.2.2.2.2.2.2.2.2.2.2.2.2.2.1)
       have HS15_ := (hb.cell (World.block_lt_of_cell? _ _ (hHeld.2.2.2.2.2.2.2.2.2.2.2.2.2.2.2.1))).trans (hHeld.2.2.2.2.2.2.2.2.2.2.2.2.2.2.2.1)
       have HS16_ := (hb.cell (World.block_lt_of_cell? _ _ (hHeld.2.2.2.2.2.2.2.2.2.2.2.2.2.2.2.2.1))).trans (hHeld.2.2.2.2.2.2.2.2.2.2.2.2.2.2.2.2.1)
       have HS17_ := (hb.cell (World.block_lt_of_cell? _ _ (hHeld.2.2.2.2.2.2.2.2.2.2.2.2.2.2.2.2.2.1))).trans (hHeld.2.2.2.2.2.2.2.2.2.2.2.2.2.2.2.2.2.1)
       have HS18_ := (hb.cell (World.block_lt_of_cell? _ _ (hHeld.2.2.2.2.2.2.2.2.2.2.2.2.2.2.2.2.2.2.1))).trans (hHeld.2.2.2.2.2.2.2.2.2.2.2.2.2.2.2.2.2.2.1)
       have HS19_ := (hb.cell (World.block_lt_of_cell? _ _ (hHeld.2.2.2.2.2.2.2.2.2.2.2.2.2.2.2.2.2.2.2.1))).trans (hHeld.2.2.2.2.2.2.2.2.2.2.2.2.2.2.2.2.2.2.2.1)
       have HS20_ := (hb.cell (World.block_lt_of_cell? _ _ (hHeld.2.2.2.2.2.2.2.2.2.2.2.2.2.2.2.2.2.2.2.2.1))).trans (hHeld.2.2.2.2.2.2.2.2.2.2.2.2.2.2.2.2.2.2.2.2.1)
       have HS21_ := (hb.cell (World.block_lt_of_cell? _ _ (hHeld.2.2.2.2.2.2.2.2.2.2.2.2.2.2.2.2.2.2.2.2.2))).trans (hHeld.2.2.2.2.2.2.2.2.2.2.2.2.2.2.2.2.2.2.2.2.2)
       refine ⟨_, rfl, ?_⟩
       have n0_ := Aside0.mk (Kd.R_below (by (with_reducible repeat (first | apply Kd.R_alloc | apply Kd.R_drewN | apply Kd.R_drew)); first | exact HO202.out | exact Kd.R_mono HO202.out (fun _ _ => trivial)) hb)
       have n1_ := Aside0.mk (Kd.R_below (by (with_reducible repeat (first | apply Kd.R_alloc | apply Kd.R_drewN | apply Kd.R_drew)); first | exact HO205.out | exact Kd.R_mono HO205.out (fun _ _ => trivial)) hb)
       have n2_ := Aside0.mk (blk_below (g := gb218) (o := .cells #[.int .i64 t206, .int .i64 t207, .int .i64 t208, .int .i64 t209, .int .i64 t210, .int .i64 t211, .int .i64 t212, .int .i64 t213, .int .i64 t214, .int .i64 t215, .int .i64 t216, .int .i64 t217] 50 (0, 0)) (by (with_reducible repeat (first | refine blk_drewN ?_ _ | refine blk_drew ?_ | refine blk_alloc ?_ _)); exact BK218.out) hb)
       have n3_ := Aside0.mk (below_step (by repeat (first | (with_reducible first | exact HB.out | apply below_alloc | apply pw_below_drewN | apply below_drew1 | refine below_set ?_ GE218.out) | exact HB.out)) hb)
       clear HO202
       clear HO205
       clear BK218
       clear HB
       have HO202 := n0_
       have HO205 := n1_
       have BK218 := n2_
       have HB := n3_
       clear n0_ n1_ n2_ n3_
       (try clear hb)
       (try clear hb2)
       (try clear hk)
       (try clear hi)
       refine hK.out _ _ ⟨(blk_cell BK218.out 0).trans rfl, (blk_cell BK218.out 1).trans rfl, (blk_cell BK218.out 2).trans rfl, (blk_cell BK218.out 3).trans rfl, (blk_cell BK218.out 4).trans rfl, (blk_cell BK218.out 5).trans rfl, (blk_cell BK218.out 6).trans rfl, (blk_cell BK218.out 7).trans rfl, (blk_cell BK218.out 8).trans rfl, (blk_cell BK218.out 9).trans rfl, (blk_cell BK218.out 10).trans rfl, (blk_cell BK218.out 11).trans rfl, HS12_, HS13_, HS14_, HS15_, HS16_, HS17_, HS18_, HS19_, HS20_, HS21_⟩ (fun hHeld => ?_)
       clear hK K
       refine norm_ (a' := ?_) ?_ ?_
       rotate_left
       ·show Act.put _ (some 15) _ = _
        simp only [Act.put, List.setIfInBounds_toArray, List.set_cons_zero, List.set_cons_succ, i64_w, i32_w]
        rfl
       refine pure_ (i := 4) (N := some 17) (v := ?_) (a' := ?_) #[true, true, true, true, true, false, false, false, false, false, false, false, false, false, false, false, false, false, false, false, false, false, false, false, false, false, false, false, false, false, false, false] rfl rfl (any_of HT_.out (by kernel_rfl)) (fun _ _ _ h => h) (Or.inl ⟨by rfl, ?_⟩) ?_ ?_
       rotate_left
       ·intro w'
        go_simp
        with_reducible rfl
       rotate_left
       ·simp only [Act.put, List.setIfInBounds_toArray, List.set_cons_zero, List.set_cons_succ, i64_w, i32_w]
        rfl
       refine pure_ (i := 5) (N := some 18) (v := ?_) (a' := ?_) #[true, true, true, true, true, true, false, false, false, false, false, false, false, false, false, false, false, false, false, false, false, false, false, false, false, false, false, false, false, false, false, false] rfl rfl (any_of HT_.out (by kernel_rfl)) (fun _ _ _ h => h) (Or.inl ⟨by rfl, ?_⟩) ?_ ?_
       rotate_left
       ·intro w'
        go_simp
        with_reducible rfl
       rotate_left
       ·simp only [Act.put, List.setIfInBounds_toArray, List.set_cons_zero, List.set_cons_succ, i64_w, i32_w]
        rfl
       refine pure_ (i := 6) (N := some 19) (v := ?_) (a' := ?_) #[true, true, true, true, true, true, true, false, false, false, false, false, false, false, false, false, false, false, false, false, false, false, false, false, false, false, false, false, false, false, false, false] rfl rfl (any_of HT_.out (by kernel_rfl)) (fun _ _ _ h => h) (Or.inl ⟨by rfl, ?_⟩) ?_ ?_
       rotate_left
       ·intro w'
        go_simp
        with_reducible rfl
       rotate_left
       ·simp only [Act.put, List.setIfInBounds_toArray, List.set_cons_zero, List.set_cons_succ, i64_w, i32_w]
        rfl
       refine take_ (i := 7) (N := some 20) (v := ?_) (a' := ?_) #[true, true, true, true, true, true, true, true, false, false, false, false, false, false, false, false, false, false, false, false, false, false, false, false, false, false, false, false, false, false, false, false] rfl rfl (take_ofW HT_.out HW_.out (by kernel_rfl)) (fun _ _ _ h => h) (Or.inl ⟨by rfl, ?_⟩) hHeld ?_ ?_
       rotate_left
       ·rintro w' ⟨s0, s1, s2, s3, s4, s5, s6, s7, s8, s9, s10, s11, s12, s13, s14, s15, s16, s17, s18, s19, s20, s21⟩
        go_simp
        with_reducible rfl
       rotate_left
       ·simp only [Act.put, List.setIfInBounds_toArray, List.set_cons_zero, List.set_cons_succ, i64_w, i32_w]
        rfl
       refine pure_ (i := 8) (N := some 21) (v := ?_) (a' := ?_) #[true, true, true, true, true, true, true, true, true, false, false, false, false, false, false, false, false, false, false, false, false, false, false, false, false, false, false, false, false, false, false, false] rfl rfl (any_of HT_.out (by kernel_rfl)) (fun _ _ _ h => h) (Or.inl ⟨by rfl, ?_⟩) ?_ ?_
       rotate_left
       ·intro w'
        go_simp
        with_reducible rfl
       rotate_left
       ·simp only [Act.put, List.setIfInBounds_toArray, List.set_cons_zero, List.set_cons_succ, i64_w, i32_w]
        rfl
       refine pure_ (i := 9) (N := some 22) (v := ?_) (a' := ?_) #[true, true, true, true, true, true, true, true, true, true, false, false, false, false, false, false, false, false, false, false, false, false, false, false, false, false, false, false, false, false, false, false] rfl rfl (any_of HT_.out (by kernel_rfl)) (fun _ _ _ h => h) (Or.inl ⟨by rfl, ?_⟩) ?_ ?_
       rotate_left
       ·intro w'
        go_simp
        with_reducible rfl
       rotate_left
       ·simp only [Act.put, List.setIfInBounds_toArray, List.set_cons_zero, List.set_cons_succ, i64_w, i32_w]
        rfl
       refine pure_ (i := 10) (N := some 23) (v := ?_) (a' := ?_) #[true, true, true, true, true, true, true, true, true, true, true, false, false, false, false, false, false, false, false, false, false, false, false, false, false, false, false, false, false, false, false, false] rfl rfl (any_of HT_.out (by kernel_rfl)) (fun _ _ _ h => h) (Or.inl ⟨by rfl, ?_⟩) ?_ ?_
       rotate_left
       ·intro w'
        go_simp
        with_reducible rfl
       rotate_left
       ·simp only [Act.put, List.setIfInBounds_toArray, List.set_cons_zero, List.set_cons_succ, i64_w, i32_w]
        rfl
       refine pure_ (i := 11) (N := some 24) (v := ?_) (a' := ?_) #[true, true, true, true, true, true, true, true, true, true, true, true, false, false, false, false, false, false, false, false, false, false, false, false, false, false, false, false, false, false, false, false] rfl rfl (any_of HT_.out (by kernel_rfl)) (fun _ _ _ h => h) (Or.inl ⟨by rfl, ?_⟩) ?_ ?_
       rotate_left
       ·intro w'
        go_simp
        with_reducible rfl
       rotate_left
       ·simp only [Act.put, List.setIfInBounds_toArray, List.set_cons_zero, List.set_cons_succ, i64_w, i32_w]
        rfl
       refine take_ (i := 12) (N := some 25) (v := ?_) (a' := ?_) #[true, true, true, true, true, true, true, true, true, true, true, true, true, false, false, false, false, false, false, false, false, false, false, false, false, false, false, false, false, false, false, false] rfl rfl (take_ofW HT_.out HW_.out (by kernel_rfl)) (fun _ _ _ h => h) (Or.inl ⟨by rfl, ?_⟩) hHeld ?_ ?_
       rotate_left
       ·rintro w' ⟨s0, s1, s2, s3, s4, s5, s6, s7, s8, s9, s10, s11, s12, s13, s14, s15, s16, s17, s18, s19, s20, s21⟩
        go_simp
        with_reducible rfl
       rotate_left
       ·simp only [Act.put, List.setIfInBounds_toArray, List.set_cons_zero, List.set_cons_succ, i64_w, i32_w]
        rfl
       refine pure_ (i := 13) (N := some 26) (v := ?_) (a' := ?_) #[true, true, true, true, true, true, true, true, true, true, true, true, true, true, false, false, false, false, false, false, false, false, false, false, false, false, false, false, false, false, false, false] rfl rfl (any_of HT_.out (by kernel_rfl)) (fun _ _ _ h => h) (Or.inl ⟨by rfl, ?_⟩) ?_ ?_
       rotate_left
       ·intro w'
        go_simp
        with_reducible rfl
       rotate_left
       ·simp only [Act.put, List.setIfInBounds_toArray, List.set_cons_zero, List.set_cons_succ, i64_w, i32_w]
        rfl
       refine pure_ (i := 14) (N := some 27) (v := ?_) (a' := ?_) #[true, true, true, true, true, true, true, true, true, true, true, true, true, true, true, false, false, false, false, false, false, false, false, false, false, false, false, false, false, false, false, false] rfl rfl (any_of HT_.out (by kernel_rfl)) (fun _ _ _ h => h) (Or.inl ⟨by rfl, ?_⟩) ?_ ?_
       rotate_left
       ·intro w'
        go_simp
        with_reducible rfl
       rotate_left
       ·simp only [Act.put, List.setIfInBounds_toArray, List.set_cons_zero, List.set_cons_succ, i64_w, i32_w]
        rfl
       refine pure_ (i := 15) (N := some 28) (v := ?_) (a' := ?_) #[true, true, true, true, true, true, true, true, true, true, true, true, true, true, true, true, false, false, false, false, false, false, false, false, false, false, false, false, false, false, false, false] rfl rfl (any_of HT_.out (by kernel_rfl)) (fun _ _ _ h => h) (Or.inl ⟨by rfl, ?_⟩) ?_ ?_
       rotate_left
       ·intro w'
        go_simp
        with_reducible rfl
       rotate_left
       ·simp only [Act.put, List.setIfInBounds_toArray, List.set_cons_zero, List.set_cons_succ, i64_w, i32_w]
        rfl
       refine pure_ (i := 16) (N := some 29) (v := ?_) (a' := ?_) #[true, true, true, true, true, true, true, true, true, true, true, true, true, true, true, true, true, false, false, false, false, false, false, false, false, false, false, false, false, false, false, false] rfl rfl (any_of HT_.out (by kernel_rfl)) (fun _ _ _ h => h) (Or.inl ⟨by rfl, ?_⟩) ?_ ?_
       rotate_left
       ·intro w'
        go_simp
        with_reducible rfl
       rotate_left
       ·simp only [Act.put, List.setIfInBounds_toArray, List.set_cons_zero, List.set_cons_succ, i64_w, i32_w]
        rfl
       refine pure_ (i := 18) (N := some 31) (v := ?_) (a' := ?_) #[true, true, true, true, true, true, true, true, true, true, true, true, true, true, true, true, true, false, true, false, false, false, false, false, false, false, false, false, false, false, false, false] rfl rfl (any_of HT_.out (by kernel_rfl)) (fun _ _ _ h => h) (Or.inl ⟨by rfl, ?_⟩) ?_ ?_
       rotate_left
       ·intro w'
        go_simp
        with_reducible rfl
       rotate_left
       ·simp only [Act.put, List.setIfInBounds_toArray, List.set_cons_zero, List.set_cons_succ, i64_w, i32_w]
        rfl
       refine pure_ (i := 19) (N := some 32) (v := ?_) (a' := ?_) #[true, true, true, true, true, true, true, true, true, true, true, true, true, true, true, true, true, false, true, true, false, false, false, false, false, false, false, false, false, false, false, false] rfl rfl (any_of HT_.out (by kernel_rfl)) (fun _ _ _ h => h) (Or.inl ⟨by rfl, ?_⟩) ?_ ?_
       rotate_left
       ·intro w'
        go_simp
        with_reducible rfl
       rotate_left
       ·simp only [Act.put, List.setIfInBounds_toArray, List.set_cons_zero, List.set_cons_succ, i64_w, i32_w]
        rfl
       refine take_ (i := 17) (N := some 30) (v := ?_) (a' := ?_) #[true, true, true, true, true, true, true, true, true, true, true, true, true, true, true, true, true, true, true, true, false, false, false, false, false, false, false, false, false, false, false, false] rfl rfl (take_ofW HT_.out HW_.out (by kernel_rfl)) (fun _ _ _ h => h) (Or.inl ⟨by rfl, ?_⟩) hHeld ?_ ?_
       rotate_left
       ·rintro w' ⟨s0, s1, s2, s3, s4, s5, s6, s7, s8, s9, s10, s11, s12, s13, s14, s15, s16, s17, s18, s19, s20, s21⟩
        go_simp
        with_reducible rfl
       rotate_left
       ·simp only [Act.put, List.setIfInBounds_toArray, List.set_cons_zero, List.set_cons_succ, i64_w, i32_w]
        rfl
       refine take_ (i := 20) (N := some 33) (v := ?_) (a' := ?_) #[true, true, true, true, true, true, true, true, true, true, true, true, true, true, true, true, true, true, true, true, true, false, false, false, false, false, false, false, false, false, false, false] rfl rfl (take_ofW HT_.out HW_.out (by kernel_rfl)) (fun _ _ _ h => h) (Or.inl ⟨by rfl, ?_⟩) hHeld ?_ ?_
       rotate_left
       ·rintro w' ⟨s0, s1, s2, s3, s4, s5, s6, s7, s8, s9, s10, s11, s12, s13, s14, s15, s16, s17, s18, s19, s20, s21⟩
        go_simp
        with_reducible rfl
       rotate_left
       ·simp only [Act.put, List.setIfInBounds_toArray, List.set_cons_zero, List.set_cons_succ, i64_w, i32_w]
        rfl
       refine pure_ (i := 21) (N := some 34) (v := ?_) (a' := ?_) #[true, true, true, true, true, true, true, true, true, true, true, true, true, true, true, true, true, true, true, true, true, true, false, false, false, false, false, false, false, false, false, false] rfl rfl (any_of HT_.out (by kernel_rfl)) (fun _ _ _ h => h) (Or.inl ⟨by rfl, ?_⟩) ?_ ?_
       rotate_left
       ·intro w'
        go_simp
        with_reducible rfl
       rotate_left
       ·simp only [Act.put, List.setIfInBounds_toArray, List.set_cons_zero, List.set_cons_succ, i64_w, i32_w]
        rfl
       refine pure_ (i := 22) (N := some 35) (v := ?_) (a' := ?_) #[true, true, true, true, true, true, true, true, true, true, true, true, true, true, true, true, true, true, true, true, true, true, true, false, false, false, false, false, false, false, false, false] rfl rfl (any_of HT_.out (by kernel_rfl)) (fun _ _ _ h => h) (Or.inl ⟨by rfl, ?_⟩) ?_ ?_
       rotate_left
       ·intro w'
        go_simp
        with_reducible rfl
       rotate_left
       ·simp only [Act.put, List.setIfInBounds_toArray, List.set_cons_zero, List.set_cons_succ, i64_w, i32_w]
        rfl
       refine pure_ (i := 23) (N := some 36) (v := ?_) (a' := ?_) #[true, true, true, true, true, true, true, true, true, true, true, true, true, true, true, true, true, true, true, true, true, true, true, true, false, false, false, false, false, false, false, false] rfl rfl (any_of HT_.out (by kernel_rfl)) (fun _ _ _ h => h) (Or.inl ⟨by rfl, ?_⟩) ?_ ?_
       rotate_left
       ·intro w'
        go_simp
        with_reducible rfl
       rotate_left
       ·simp only [Act.put, List.setIfInBounds_toArray, List.set_cons_zero, List.set_cons_succ, i64_w, i32_w]
        rfl
       refine pure_ (i := 24) (N := some 37) (v := ?_) (a' := ?_) #[true, true, true, true, true, true, true, true, true, true, true, true, true, true, true, true, true, true, true, true, true, true, true, true, true, false, false, false, false, false, false, false] rfl rfl (any_of HT_.out (by kernel_rfl)) (fun _ _ _ h => h) (Or.inl ⟨by rfl, ?_⟩) ?_ ?_
       rotate_left
       ·intro w'
        go_simp
        with_reducible rfl
       rotate_left
       ·simp only [Act.put, List.setIfInBounds_toArray, List.set_cons_zero, List.set_cons_succ, i64_w, i32_w]
        rfl
       refine pure_ (i := 26) (N := some 39) (v := ?_) (a' := ?_) #[true, true, true, true, true, true, true, true, true, true, true, true, true, true, true, true, true, true, true, true, true, true, true, true, true, false, true, false, false, false, false, false] rfl rfl (any_of HT_.out (by kernel_rfl)) (fun _ _ _ h => h) (Or.inl ⟨by rfl, ?_⟩) ?_ ?_
       rotate_left
       ·intro w'
        go_simp
        with_reducible rfl
       rotate_left
       ·simp only [Act.put, List.setIfInBounds_toArray, List.set_cons_zero, List.set_cons_succ, i64_w, i32_w]
        rfl
       refine pure_ (i := 27) (N := some 40) (v := ?_) (a' := ?_) #[true, true, true, true, true, true, true, true, true, true, true, true, true, true, true, true, true, true, true, true, true, true, true, true, true, false, true, true, false, false, false, false] rfl rfl (any_of HT_.out (by kernel_rfl)) (fun _ _ _ h => h) (Or.inl ⟨by rfl, ?_⟩) ?_ ?_
       rotate_left
       ·intro w'
        go_simp
        with_reducible rfl
       rotate_left
       ·simp only [Act.put, List.setIfInBounds_toArray, List.set_cons_zero, List.set_cons_succ, i64_w, i32_w]
        rfl
       refine take_ (i := 25) (N := some 38) (v := ?_) (a' := ?_) #[true, true, true, true, true, true, true, true, true, true, true, true, true, true, true, true, true, true, true, true, true, true, true, true, true, true, true, true, false, false, false, false] rfl rfl (take_ofW HT_.out HW_.out (by kernel_rfl)) (fun _ _ _ h => h) (Or.inl ⟨by rfl, ?_⟩) hHeld ?_ ?_
       rotate_left
       ·rintro w' ⟨s0, s1, s2, s3, s4, s5, s6, s7, s8, s9, s10, s11, s12, s13, s14, s15, s16, s17, s18, s19, s20, s21⟩
        go_simp
        with_reducible rfl
       rotate_left
       ·simp only [Act.put, List.setIfInBounds_toArray, List.set_cons_zero, List.set_cons_succ, i64_w, i32_w]
        rfl
       refine take_ (i := 28) (N := some 41) (v := ?_) (a' := ?_) #[true, true, true, true, true, true, true, true, true, true, true, true, true, true, true, true, true, true, true, true, true, true, true, true, true, true, true, true, true, false, false, false] rfl rfl (take_ofW HT_.out HW_.out (by kernel_rfl)) (fun _ _ _ h => h) (Or.inl ⟨by rfl, ?_⟩) hHeld ?_ ?_
       rotate_left
       ·rintro w' ⟨s0, s1, s2, s3, s4, s5, s6, s7, s8, s9, s10, s11, s12, s13, s14, s15, s16, s17, s18, s19, s20, s21⟩
        go_simp
        with_reducible rfl
       rotate_left
       ·simp only [Act.put, List.setIfInBounds_toArray, List.set_cons_zero, List.set_cons_succ, i64_w, i32_w]
        rfl
       refine pure_ (i := 29) (N := some 42) (v := ?_) (a' := ?_) #[true, true, true, true, true, true, true, true, true, true, true, true, true, true, true, true, true, true, true, true, true, true, true, true, true, true, true, true, true, true, false, false] rfl rfl (any_of HT_.out (by kernel_rfl)) (fun _ _ _ h => h) (Or.inl ⟨by rfl, ?_⟩) ?_ ?_
       rotate_left
       ·intro w'
        go_simp
        with_reducible rfl
       rotate_left
       ·simp only [Act.put, List.setIfInBounds_toArray, List.set_cons_zero, List.set_cons_succ, i64_w, i32_w]
        rfl
       refine pure_ (i := 30) (N := some 43) (v := ?_) (a' := ?_) #[true, true, true, true, true, true, true, true, true, true, true, true, true, true, true, true, true, true, true, true, true, true, true, true, true, true, true, true, true, true, true, false] rfl rfl (any_of HT_.out (by kernel_rfl)) (fun _ _ _ h => h) (Or.inl ⟨by rfl, ?_⟩) ?_ ?_
       rotate_left
       ·intro w'
        go_simp
        with_reducible rfl
       rotate_left
       ·simp only [Act.put, List.setIfInBounds_toArray, List.set_cons_zero, List.set_cons_succ, i64_w, i32_w]
        rfl
       refine pure_ (i := 31) (N := some 0) (v := ?_) (a' := ?_) #[true, true, true, true, true, true, true, true, true, true, true, true, true, true, true, true, true, true, true, true, true, true, true, true, true, true, true, true, true, true, true, true] rfl rfl (any_of HT_.out (by kernel_rfl)) (fun _ _ _ h => h) (Or.inl ⟨by rfl, ?_⟩) ?_ ?_
       rotate_left
       ·intro w'
        go_simp
        with_reducible rfl
       rotate_left
       ·simp only [Act.put, List.setIfInBounds_toArray, List.set_cons_zero, List.set_cons_succ, i64_w, i32_w]
        rfl
       refine done_ (done_of HT_.out (by kernel_rfl)) ?_
       try go_wp2
       go_ret
       exact ⟨by first | rfl | (simp [errW_none, errW_some] <;> rfl) | (simp [*, errW_none, errW_some] <;> rfl), by repeat (first | (with_reducible first | exact HB.out | apply below_alloc | apply pw_below_drewN | apply below_drew1 | refine below_set ?_ GE218.out) | exact HB.out)⟩
      ·rw [if_neg c8] at H
       exact absurd H (by simp)
     ·rw [if_neg c7] at H
      exact absurd H (by simp)
    ·rw [if_neg c6] at H
     exact absurd H (by simp)
   ·rw [if_neg c5] at H
    exact absurd H (by simp)
  ·rw [if_neg c4] at H
   exact absurd H (by simp)
 ·rw [if_neg c3] at H
  exact absurd H (by simp)

end Go.Proofs.YtcbjbgleflbpmaaDoor.Print
