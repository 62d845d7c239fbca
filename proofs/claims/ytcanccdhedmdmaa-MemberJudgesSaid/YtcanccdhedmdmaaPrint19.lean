-- PRINTED by print.py (a twelfth state) out of the translation. Not trusted: Lean checks it.
import Derived.Test.YtcanccdhedmdmaaPrint0
import Derived.Test.YtcanccdhedmdmaaPrint1
import Derived.Test.YtcanccdhedmdmaaPrint5
import Derived.Test.YtcanccdhedmdmaaPrint6
import Derived.Test.YtcanccdhedmdmaaPrint7
import Derived.Test.YtcanccdhedmdmaaPrint9
import Derived.Test.YtcanccdhedmdmaaPrint15
import Derived.Test.YtcanccdhedmdmaaPrint16
import Derived.Test.YtcanccdhedmdmaaPrint17
import Derived.Test.YtcanccdhedmdmaaPrint18
namespace Go.Proofs.Ytcanccdhedmdmaa.Print
open Go.RowKit Go.Proofs.YtcanccdhedmdmaaW.PrintWords Go.Proofs.YtcanccdhedmdmaaW.PrintLast Go.Proofs.YtcanccdhedmdmaaW.PrintMore Go.Proofs.YtcanccdhedmdmaaX
attribute [local go_sem] max2_int min2_int max_two min_two max_three min_three max_four min_four   -- for this text's walks alone
set_option linter.unusedVariables false
set_option linter.unusedSimpArgs false

attribute [local go_sem high] eqA25
/-! ### palletlaw10_MemberJudges: function 6 -/
def palletlaw10_MemberJudges.f (k : Nat) (a0_0 : Int) (a0_1 : Int) (a0_2 : Int) (a0_3 : Int) (a0_4 : Int) (a1 : Int) (a2 : Int) (a3 : Int) (a4_0 : Int) (a4_1 : Int) (a4_2 : Int) (a4_3 : Int) (a5 : Int) (a6_0 : Int) (a6_1 : Int) : Option (Bool) := (palletlaw10_live.f k).bind fun t225 => (if t225 = true then ((member_Judge.f k a0_0 a0_1 a0_2 a0_3 a0_4 a1 a2 a3 a4_0 a4_1 a4_2 a4_3).bind fun bt226 => ((palletref10_Judge.f k a0_0 a0_1 a0_2 a0_3 a0_4 a1 a2 a3 a4_0 a4_1 a4_2 a4_3).bind fun bt228 => ((member_After.f a0_0 a0_1 a0_2 a0_3 a0_4 a1 a2 a3 a5).bind fun bt230 => ((palletref10_After.f k a0_0 a0_1 a0_2 a0_3 a0_4 a1 a2 a3 a5).bind fun bt232 => ((member_Count.f k a6_0 a6_1 a5).bind fun bt234 => ((palletref10_Count.f k a6_0 a6_1 a5).bind fun bt238 => (if bt226.1 = bt228.1 then (if bt226.2 = bt228.2 then (if bt230.1 = bt232.1 then (if bt230.2 = bt232.2 then (if (bt234.1 == bt238.1 && (bt234.2.1 == bt238.2.1)) = true then (if bt234.2.2 = bt238.2.2 then ((member_Clique.f a6_0 a6_1).bind fun t242 => ((palletref10_Clique.f a6_0 a6_1).bind fun t243 => (some (t242 == t243)))) else (some false)) else (some false)) else (some false)) else (some false)) else (some false)) else (some false)))))))) else (some false))
theorem palletlaw10_MemberJudges.mono : ∀ a0 a1 a2 a3 a4 a5 a6 a7 a8 a9 a10 a11 a12 a13 a14 k, LeO (palletlaw10_MemberJudges.f k a0 a1 a2 a3 a4 a5 a6 a7 a8 a9 a10 a11 a12 a13 a14) (palletlaw10_MemberJudges.f (k + 1) a0 a1 a2 a3 a4 a5 a6 a7 a8 a9 a10 a11 a12 a13 a14) := by
 intro a0 a1 a2 a3 a4 a5 a6 a7 a8 a9 a10 a11 a12 a13 a14 k
 unfold palletlaw10_MemberJudges.f
 repeat' first
   | (with_reducible exact member_Count.mono _ _ _ _)
   | (with_reducible exact member_Judge.mono _ _ _ _ _ _ _ _ _ _ _ _ _)
   | (with_reducible exact palletlaw10_live.mono _)
   | (with_reducible exact palletref10_After.mono _ _ _ _ _ _ _ _ _ _)
   | (with_reducible exact palletref10_Count.mono _ _ _ _)
   | (with_reducible exact palletref10_Judge.mono _ _ _ _ _ _ _ _ _ _ _ _ _)
   | (with_reducible exact LeO.refl _)
   | (with_reducible exact LeO.none _)
   | (with_reducible refine LeO.ite ?_ ?_)
   | (with_reducible refine LeO.bind ?_ (fun _ => ?_))
   | exact member_Count.mono _ _ _ _
   | exact member_Judge.mono _ _ _ _ _ _ _ _ _ _ _ _ _
   | exact palletlaw10_live.mono _
   | exact palletref10_After.mono _ _ _ _ _ _ _ _ _ _
   | exact palletref10_Count.mono _ _ _ _
   | exact palletref10_Judge.mono _ _ _ _ _ _ _ _ _ _ _ _ _
   | exact LeO.none _
   | refine LeO.ite ?_ ?_
   | refine LeO.bind ?_ (fun _ => ?_)
def palletlaw10_MemberJudges.T10 : Bool × List (List Nat × List Nat) := (true, [([], []), ([0], [0]), ([1], [1]), ([1], [1]), ([2, 3, 1], [1, 2, 3]), ([1, 4], [1, 4]), ([5, 1], [5]), ([6], [6]), ([6], [6]), ([7, 8, 6], [6, 7, 8]), ([6, 9], [6, 9]), ([10, 6], [10]), ([11], [11]), ([11], [11]), ([12, 13, 11], [11, 12, 13]), ([11, 14], [11, 14]), ([15, 11], [15]), ([16], [16]), ([16], [16]), ([17, 18, 16], [16, 17, 18]), ([16, 19], [16, 19]), ([20, 16], [20]), ([21], [21]), ([21], [21]), ([22, 23, 21], [21, 22, 23]), ([21, 24], [21, 24]), ([25, 21], [25]), ([26], [26]), ([26], [26]), ([27, 28, 26], [26, 27, 28]), ([26, 29], [26, 29]), ([30, 26], [30]), ([31], [31]), ([32, 31, 31], [31, 32]), ([31], [31]), ([34, 33, 31], [31, 34]), ([33, 35, 31], [31, 33, 35]), ([31, 36], [31, 36]), ([37, 35, 0, 1, 2, 3, 4, 5, 6, 7, 8, 9, 10, 11, 12, 13, 14, 15, 16, 17, 18, 19, 20, 21, 22, 23, 24, 25, 26, 27, 28, 29, 30, 31, 32, 33, 34, 35, 36, 37], [37])])
def palletlaw10_MemberJudges.B10 : List Nat := [0, 1, 3, 3, 15, 31, 63, 127, 127, 511, 1023, 2047, 4095, 4095, 16383, 32767, 65535, 131071, 131071, 524287, 1048575, 2097151, 4194303, 4194303, 16777215, 33554431, 67108863, 134217727, 134217727, 536870911, 1073741823, 2147483647, 4294967295, 8589934591, 4294967295, 34359738367, 68719476735, 137438953471, 274877906943]
theorem palletlaw10_MemberJudges.tab10 : rtab .any (opsOf Try.f6 10) = palletlaw10_MemberJudges.T10 := by kernel_rfl
theorem palletlaw10_MemberJudges.bits10 : waitsOk palletlaw10_MemberJudges.T10.2 palletlaw10_MemberJudges.B10 = true := by kernel_rfl
set_option maxHeartbeats 8000000 in
set_option maxRecDepth 100000 in
theorem palletlaw10_MemberJudges.calls (k : Nat) (a0_0 : Int) (a0_1 : Int) (a0_2 : Int) (a0_3 : Int) (a0_4 : Int) (a1 : Int) (a2 : Int) (a3 : Int) (a4_0 : Int) (a4_1 : Int) (a4_2 : Int) (a4_3 : Int) (a5 : Int) (a6_0 : Int) (a6_1 : Int) (r : Bool) (w : World) (hr_ : Aside0 (r = true)) (h : palletlaw10_MemberJudges.f k a0_0 a0_1 a0_2 a0_3 a0_4 a1 a2 a3 a4_0 a4_1 a4_2 a4_3 a5 a6_0 a6_1 = some r) :
  Calls Try.prog 6 #[.agg #[.int .i64 a0_0, .int .i64 a0_1, .int .i64 a0_2, .int .i64 a0_3, .int .i64 a0_4], .int .i64 a1, .int .u16 a2, .int .u64 a3, .agg #[.int .i64 a4_0, .int .i64 a4_1, .int .u64 a4_2, .int .u16 a4_3], .int .i64 a5, .agg #[.int .i64 a6_0, .int .i64 a6_1]] w fun e w' => e = .returned (.bool r) ∧ Below w.heap.size w w' := by
 have hu32 := Try.underlying32
 have hu36 := Try.underlying36
 have hu25 := Try.underlying25
 have HB := Aside0.mk (Below.refl w.heap.size w)
 have H : ((palletlaw10_live.f k).bind fun t225 => (if t225 = true then ((member_Judge.f k a0_0 a0_1 a0_2 a0_3 a0_4 a1 a2 a3 a4_0 a4_1 a4_2 a4_3).bind fun bt226 => ((palletref10_Judge.f k a0_0 a0_1 a0_2 a0_3 a0_4 a1 a2 a3 a4_0 a4_1 a4_2 a4_3).bind fun bt228 => ((member_After.f a0_0 a0_1 a0_2 a0_3 a0_4 a1 a2 a3 a5).bind fun bt230 => ((palletref10_After.f k a0_0 a0_1 a0_2 a0_3 a0_4 a1 a2 a3 a5).bind fun bt232 => ((member_Count.f k a6_0 a6_1 a5).bind fun bt234 => ((palletref10_Count.f k a6_0 a6_1 a5).bind fun bt238 => (if bt226.1 = bt228.1 then (if bt226.2 = bt228.2 then (if bt230.1 = bt232.1 then (if bt230.2 = bt232.2 then (if (bt234.1 == bt238.1 && (bt234.2.1 == bt238.2.1)) = true then (if bt234.2.2 = bt238.2.2 then ((member_Clique.f a6_0 a6_1).bind fun t242 => ((palletref10_Clique.f a6_0 a6_1).bind fun t243 => (some (t242 == t243)))) else (some false)) else (some false)) else (some false)) else (some false)) else (some false)) else (some false)))))))) else (some false))) = some r := h
 clear h
 replace H := Option.bind_eq_some_iff.mp H
 obtain ⟨t225, A80, H⟩ := H
 replace H : (if t225 = true then ((member_Judge.f k a0_0 a0_1 a0_2 a0_3 a0_4 a1 a2 a3 a4_0 a4_1 a4_2 a4_3).bind fun bt226 => ((palletref10_Judge.f k a0_0 a0_1 a0_2 a0_3 a0_4 a1 a2 a3 a4_0 a4_1 a4_2 a4_3).bind fun bt228 => ((member_After.f a0_0 a0_1 a0_2 a0_3 a0_4 a1 a2 a3 a5).bind fun bt230 => ((palletref10_After.f k a0_0 a0_1 a0_2 a0_3 a0_4 a1 a2 a3 a5).bind fun bt232 => ((member_Count.f k a6_0 a6_1 a5).bind fun bt234 => ((palletref10_Count.f k a6_0 a6_1 a5).bind fun bt238 => (if bt226.1 = bt228.1 then (if bt226.2 = bt228.2 then (if bt230.1 = bt232.1 then (if bt230.2 = bt232.2 then (if (bt234.1 == bt238.1 && (bt234.2.1 == bt238.2.1)) = true then (if bt234.2.2 = bt238.2.2 then ((member_Clique.f a6_0 a6_1).bind fun t242 => ((palletref10_Clique.f a6_0 a6_1).bind fun t243 => (some (t242 == t243)))) else (some false)) else (some false)) else (some false)) else (some false)) else (some false)) else (some false)))))))) else (some false)) = some r := H
 have A8 := Aside0.mk A80
 clear A80
 by_cases c9 : t225 = true
 ·subst c9
  have H1 : ((member_Judge.f k a0_0 a0_1 a0_2 a0_3 a0_4 a1 a2 a3 a4_0 a4_1 a4_2 a4_3).bind fun bt226 => ((palletref10_Judge.f k a0_0 a0_1 a0_2 a0_3 a0_4 a1 a2 a3 a4_0 a4_1 a4_2 a4_3).bind fun bt228 => ((member_After.f a0_0 a0_1 a0_2 a0_3 a0_4 a1 a2 a3 a5).bind fun bt230 => ((palletref10_After.f k a0_0 a0_1 a0_2 a0_3 a0_4 a1 a2 a3 a5).bind fun bt232 => ((member_Count.f k a6_0 a6_1 a5).bind fun bt234 => ((palletref10_Count.f k a6_0 a6_1 a5).bind fun bt238 => (if bt226.1 = bt228.1 then (if bt226.2 = bt228.2 then (if bt230.1 = bt232.1 then (if bt230.2 = bt232.2 then (if (bt234.1 == bt238.1 && (bt234.2.1 == bt238.2.1)) = true then (if bt234.2.2 = bt238.2.2 then ((member_Clique.f a6_0 a6_1).bind fun t242 => ((palletref10_Clique.f a6_0 a6_1).bind fun t243 => (some (t242 == t243)))) else (some false)) else (some false)) else (some false)) else (some false)) else (some false)) else (some false)))))))) = some r := by rw [if_pos rfl] at H; exact H
  clear H
  have H := H1
  clear H1
  replace H := Option.bind_eq_some_iff.mp H
  obtain ⟨⟨t226, t227⟩, A100, H⟩ := H
  replace H : ((palletref10_Judge.f k a0_0 a0_1 a0_2 a0_3 a0_4 a1 a2 a3 a4_0 a4_1 a4_2 a4_3).bind fun bt228 => ((member_After.f a0_0 a0_1 a0_2 a0_3 a0_4 a1 a2 a3 a5).bind fun bt230 => ((palletref10_After.f k a0_0 a0_1 a0_2 a0_3 a0_4 a1 a2 a3 a5).bind fun bt232 => ((member_Count.f k a6_0 a6_1 a5).bind fun bt234 => ((palletref10_Count.f k a6_0 a6_1 a5).bind fun bt238 => (if t226 = bt228.1 then (if t227 = bt228.2 then (if bt230.1 = bt232.1 then (if bt230.2 = bt232.2 then (if (bt234.1 == bt238.1 && (bt234.2.1 == bt238.2.1)) = true then (if bt234.2.2 = bt238.2.2 then ((member_Clique.f a6_0 a6_1).bind fun t242 => ((palletref10_Clique.f a6_0 a6_1).bind fun t243 => (some (t242 == t243)))) else (some false)) else (some false)) else (some false)) else (some false)) else (some false)) else (some false))))))) = some r := H
  have A10 := Aside0.mk A100
  clear A100
  replace H := Option.bind_eq_some_iff.mp H
  obtain ⟨⟨t228, t229⟩, A110, H⟩ := H
  replace H : ((member_After.f a0_0 a0_1 a0_2 a0_3 a0_4 a1 a2 a3 a5).bind fun bt230 => ((palletref10_After.f k a0_0 a0_1 a0_2 a0_3 a0_4 a1 a2 a3 a5).bind fun bt232 => ((member_Count.f k a6_0 a6_1 a5).bind fun bt234 => ((palletref10_Count.f k a6_0 a6_1 a5).bind fun bt238 => (if t226 = t228 then (if t227 = t229 then (if bt230.1 = bt232.1 then (if bt230.2 = bt232.2 then (if (bt234.1 == bt238.1 && (bt234.2.1 == bt238.2.1)) = true then (if bt234.2.2 = bt238.2.2 then ((member_Clique.f a6_0 a6_1).bind fun t242 => ((palletref10_Clique.f a6_0 a6_1).bind fun t243 => (some (t242 == t243)))) else (some false)) else (some false)) else (some false)) else (some false)) else (some false)) else (some false)))))) = some r := H
  have A11 := Aside0.mk A110
  clear A110
  replace H := Option.bind_eq_some_iff.mp H
  obtain ⟨⟨t230, t231⟩, A120, H⟩ := H
  replace H : ((palletref10_After.f k a0_0 a0_1 a0_2 a0_3 a0_4 a1 a2 a3 a5).bind fun bt232 => ((member_Count.f k a6_0 a6_1 a5).bind fun bt234 => ((palletref10_Count.f k a6_0 a6_1 a5).bind fun bt238 => (if t226 = t228 then (if t227 = t229 then (if t230 = bt232.1 then (if t231 = bt232.2 then (if (bt234.1 == bt238.1 && (bt234.2.1 == bt238.2.1)) = true then (if bt234.2.2 = bt238.2.2 then ((member_Clique.f a6_0 a6_1).bind fun t242 => ((palletref10_Clique.f a6_0 a6_1).bind fun t243 => (some (t242 == t243)))) else (some false)) else (some false)) else (some false)) else (some false)) else (some false)) else (some false))))) = some r := H
  have A12 := Aside0.mk A120
  clear A120
  replace H := Option.bind_eq_some_iff.mp H
  obtain ⟨⟨t232, t233⟩, A130, H⟩ := H
  replace H : ((member_Count.f k a6_0 a6_1 a5).bind fun bt234 => ((palletref10_Count.f k a6_0 a6_1 a5).bind fun bt238 => (if t226 = t228 then (if t227 = t229 then (if t230 = t232 then (if t231 = t233 then (if (bt234.1 == bt238.1 && (bt234.2.1 == bt238.2.1)) = true then (if bt234.2.2 = bt238.2.2 then ((member_Clique.f a6_0 a6_1).bind fun t242 => ((palletref10_Clique.f a6_0 a6_1).bind fun t243 => (some (t242 == t243)))) else (some false)) else (some false)) else (some false)) else (some false)) else (some false)) else (some false)))) = some r := H
  have A13 := Aside0.mk A130
  clear A130
  replace H := Option.bind_eq_some_iff.mp H
  obtain ⟨⟨t234, t235, t236⟩, A140, H⟩ := H
  replace H : ((palletref10_Count.f k a6_0 a6_1 a5).bind fun bt238 => (if t226 = t228 then (if t227 = t229 then (if t230 = t232 then (if t231 = t233 then (if (t234 == bt238.1 && (t235 == bt238.2.1)) = true then (if t236 = bt238.2.2 then ((member_Clique.f a6_0 a6_1).bind fun t242 => ((palletref10_Clique.f a6_0 a6_1).bind fun t243 => (some (t242 == t243)))) else (some false)) else (some false)) else (some false)) else (some false)) else (some false)) else (some false))) = some r := H
  have A14 := Aside0.mk A140
  clear A140
  replace H := Option.bind_eq_some_iff.mp H
  obtain ⟨⟨t238, t239, t240⟩, A150, H⟩ := H
  replace H : (if t226 = t228 then (if t227 = t229 then (if t230 = t232 then (if t231 = t233 then (if (t234 == t238 && (t235 == t239)) = true then (if t236 = t240 then ((member_Clique.f a6_0 a6_1).bind fun t242 => ((palletref10_Clique.f a6_0 a6_1).bind fun t243 => (some (t242 == t243)))) else (some false)) else (some false)) else (some false)) else (some false)) else (some false)) else (some false)) = some r := H
  have A15 := Aside0.mk A150
  clear A150
  by_cases c16 : t226 = t228
  ·rw [if_pos c16] at H
   have c16b0 : (t226 == t228) = true := beq_iff_eq.mpr c16
   have c16b1 : (t226 != t228) = false := bne_eq_false_iff_eq.mpr c16
   clear c16
   by_cases c17 : t227 = t229
   ·rw [if_pos c17] at H
    have c17b0 : (t227 == t229) = true := beq_iff_eq.mpr c17
    have c17b1 : (t227 != t229) = false := bne_eq_false_iff_eq.mpr c17
    clear c17
    by_cases c18 : t230 = t232
    ·rw [if_pos c18] at H
     have c18b0 : (t230 == t232) = true := beq_iff_eq.mpr c18
     have c18b1 : (t230 != t232) = false := bne_eq_false_iff_eq.mpr c18
     clear c18
     by_cases c19 : t231 = t233
     ·rw [if_pos c19] at H
      have c19b0 : (t231 == t233) = true := beq_iff_eq.mpr c19
      have c19b1 : (t231 != t233) = false := bne_eq_false_iff_eq.mpr c19
      clear c19
      by_cases c20 : (t234 == t238 && (t235 == t239)) = true
      ·rw [if_pos c20] at H
       have c20b0 : (t234 == t238 && (t235 == t239)) = true := c20
       (try (have c20b1 : decide (t234 = t238 && (t235 == t239)) = true := by simpa using c20))
       (try (have c20b2 : (t234 == t238 && (t235 == t239)) = true := by simpa using c20))
       clear c20
       by_cases c21 : t236 = t240
       ·rw [if_pos c21] at H
        have c21b0 : (t236 == t240) = true := beq_iff_eq.mpr c21
        have c21b1 : (t236 != t240) = false := bne_eq_false_iff_eq.mpr c21
        clear c21
        replace H := Option.bind_eq_some_iff.mp H
        obtain ⟨t242, A220, H⟩ := H
        replace H : ((palletref10_Clique.f a6_0 a6_1).bind fun t243 => (some (t242 == t243))) = some r := H
        have A22 := Aside0.mk A220
        clear A220
        replace H := Option.bind_eq_some_iff.mp H
        obtain ⟨t243, A230, H⟩ := H
        replace H : (some (t242 == t243)) = some r := H
        have A23 := Aside0.mk A230
        clear A230
        obtain rfl := Option.some.inj H
        go_enter Try.func6, Try.ntmps6
        try go_wp2_with (first | ((with_reducible refine gate_dst (N := 7) rfl ?_); refine box_event ?hg (N := 7) ?hd (cs := #[.int .i64 a0_0, .int .i64 a0_1, .int .i64 a0_2, .int .i64 a0_3, .int .i64 a0_4]) (t := 32) ?hr ?_; (case hd => rfl); (case hg => rfl); (case hr => first | (go_simp; done) | (go_simp; rfl)); intro gb222 hg w24 hbox hb; have n0_ := Aside0.mk (below_step (by repeat (first | (with_reducible first | exact HB.out | apply below_alloc | apply pw_below_drewN | apply below_drew1) | exact HB.out)) hb); have n1_ := Aside0.mk (hbox); have n2_ := Aside0.mk ((by rw [hg]; exact (below_size (by repeat (first | (with_reducible first | exact HB.out | apply below_alloc | apply pw_below_drewN | apply below_drew1) | exact HB.out))) : w.heap.size ≤ gb222)); have n3_ := Aside0.mk ((by rw [hg]; exact (below_size (by repeat (first | (with_reducible first | exact HB.out | apply below_alloc | apply pw_below_drewN | apply below_drew1) | exact HB.out))) : w.heap.size ≤ gb222)); clear HB; have HB := n0_; have BK222 := n1_; have GW222 := n2_; have GE222 := n3_; clear n0_ n1_ n2_ n3_; clear hb hbox hg) | ((with_reducible refine gate_dst (N := 11) rfl ?_); refine box_event ?hg (N := 11) ?hd (cs := #[.int .i64 a4_0, .int .i64 a4_1, .int .u64 a4_2, .int .u16 a4_3]) (t := 36) ?hr ?_; (case hd => rfl); (case hg => rfl); (case hr => first | (go_simp; done) | (go_simp; rfl)); intro gb223 hg w25 hbox hb; have n0_ := Aside0.mk (blk_below (g := gb222) (o := .cells #[.int .i64 a0_0, .int .i64 a0_1, .int .i64 a0_2, .int .i64 a0_3, .int .i64 a0_4] 32 (0, 0)) (by (with_reducible repeat (first | refine blk_drewN ?_ _ | refine blk_drew ?_ | refine blk_alloc ?_ _)); exact BK222.out) hb); have n1_ := Aside0.mk (below_step (by repeat (first | (with_reducible first | exact HB.out | apply below_alloc | apply pw_below_drewN | apply below_drew1 | refine below_set ?_ GE222.out) | exact HB.out)) hb); have n2_ := Aside0.mk (hbox); have n3_ := Aside0.mk ((by rw [hg]; exact (below_size (by repeat (first | (with_reducible first | exact HB.out | apply below_alloc | apply pw_below_drewN | apply below_drew1 | refine below_set ?_ GE222.out) | exact HB.out))) : w.heap.size ≤ gb223)); have n4_ := Aside0.mk ((by rw [hg]; exact (below_size (by repeat (first | (with_reducible first | exact HB.out | apply below_alloc | apply pw_below_drewN | apply below_drew1 | refine below_set ?_ GE222.out) | exact HB.out))) : w.heap.size ≤ gb223)); have n5_ := Aside0.mk ((by rw [hg]; exact Nat.ne_of_lt (blk_lt (g := gb222) (o := .cells #[.int .i64 a0_0, .int .i64 a0_1, .int .i64 a0_2, .int .i64 a0_3, .int .i64 a0_4] 32 (0, 0)) (by (with_reducible repeat (first | refine blk_drewN ?_ _ | refine blk_drew ?_ | refine blk_alloc ?_ _)); exact BK222.out)) : gb222 ≠ gb223)); have n6_ := Aside0.mk ((by rw [hg]; exact Nat.ne_of_gt (blk_lt (g := gb222) (o := .cells #[.int .i64 a0_0, .int .i64 a0_1, .int .i64 a0_2, .int .i64 a0_3, .int .i64 a0_4] 32 (0, 0)) (by (with_reducible repeat (first | refine blk_drewN ?_ _ | refine blk_drew ?_ | refine blk_alloc ?_ _)); exact BK222.out)) : gb223 ≠ gb222)); clear BK222; clear HB; have BK222 := n0_; have HB := n1_; have BK223 := n2_; have GW223 := n3_; have GE223 := n4_; have NB222_223 := n5_; have NB223_222 := n6_; clear n0_ n1_ n2_ n3_ n4_ n5_ n6_; clear hb hbox hg) | ((with_reducible refine gate_dst (N := 13) rfl ?_); refine box_event ?hg (N := 13) ?hd (cs := #[.int .i64 a6_0, .int .i64 a6_1]) (t := 25) ?hr ?_; (case hd => rfl); (case hg => rfl); (case hr => first | (go_simp; done) | (go_simp; rfl)); intro gb224 hg w26 hbox hb; have n0_ := Aside0.mk (blk_below (g := gb222) (o := .cells #[.int .i64 a0_0, .int .i64 a0_1, .int .i64 a0_2, .int .i64 a0_3, .int .i64 a0_4] 32 (0, 0)) (by (with_reducible repeat (first | refine blk_drewN ?_ _ | refine blk_drew ?_ | refine blk_alloc ?_ _)); exact BK222.out) hb); have n1_ := Aside0.mk (blk_below (g := gb223) (o := .cells #[.int .i64 a4_0, .int .i64 a4_1, .int .u64 a4_2, .int .u16 a4_3] 36 (0, 0)) (by (with_reducible repeat (first | refine blk_drewN ?_ _ | refine blk_drew ?_ | refine blk_alloc ?_ _)); exact BK223.out) hb); have n2_ := Aside0.mk (below_step (by repeat (first | (with_reducible first | exact HB.out | apply below_alloc | apply pw_below_drewN | apply below_drew1 | refine below_set ?_ GE222.out | refine below_set ?_ GE223.out) | exact HB.out)) hb); have n3_ := Aside0.mk (hbox); have n4_ := Aside0.mk ((by rw [hg]; exact (below_size (by repeat (first | (with_reducible first | exact HB.out | apply below_alloc | apply pw_below_drewN | apply below_drew1 | refine below_set ?_ GE222.out | refine below_set ?_ GE223.out) | exact HB.out))) : w.heap.size ≤ gb224)); have n5_ := Aside0.mk ((by rw [hg]; exact (below_size (by repeat (first | (with_reducible first | exact HB.out | apply below_alloc | apply pw_below_drewN | apply below_drew1 | refine below_set ?_ GE222.out | refine below_set ?_ GE223.out) | exact HB.out))) : w.heap.size ≤ gb224)); have n6_ := Aside0.mk ((by rw [hg]; exact Nat.ne_of_lt (blk_lt (g := gb222) (o := .cells #[.int .i64 a0_0, .int .i64 a0_1, .int .i64 a0_2, .int .i64 a0_3, .int .i64 a0_4] 32 (0, 0)) (by (with_reducible repeat (first | refine blk_drewN ?_ _ | refine blk_drew ?_ | refine blk_alloc ?_ _)); exact BK222.out)) : gb222 ≠ gb224)); have n7_ := Aside0.mk ((by rw [hg]; exact Nat.ne_of_gt (blk_lt (g := gb222) (o := .cells #[.int .i64 a0_0, .int .i64 a0_1, .int .i64 a0_2, .int .i64 a0_3, .int .i64 a0_4] 32 (0, 0)) (by (with_reducible repeat (first | refine blk_drewN ?_ _ | refine blk_drew ?_ | refine blk_alloc ?_ _)); exact BK222.out)) : gb224 ≠ gb222)); have n8_ := Aside0.mk ((by rw [hg]; exact Nat.ne_of_lt (blk_lt (g := gb223) (o := .cells #[.int .i64 a4_0, .int .i64 a4_1, .int .u64 a4_2, .int .u16 a4_3] 36 (0, 0)) (by (with_reducible repeat (first | refine blk_drewN ?_ _ | refine blk_drew ?_ | refine blk_alloc ?_ _)); exact BK223.out)) : gb223 ≠ gb224)); have n9_ := Aside0.mk ((by rw [hg]; exact Nat.ne_of_gt (blk_lt (g := gb223) (o := .cells #[.int .i64 a4_0, .int .i64 a4_1, .int .u64 a4_2, .int .u16 a4_3] 36 (0, 0)) (by (with_reducible repeat (first | refine blk_drewN ?_ _ | refine blk_drew ?_ | refine blk_alloc ?_ _)); exact BK223.out)) : gb224 ≠ gb223)); clear BK222; clear BK223; clear HB; have BK222 := n0_; have BK223 := n1_; have HB := n2_; have BK224 := n3_; have GW224 := n4_; have GE224 := n5_; have NB222_224 := n6_; have NB224_222 := n7_; have NB223_224 := n8_; have NB224_223 := n9_; clear n0_ n1_ n2_ n3_ n4_ n5_ n6_ n7_ n8_ n9_; clear hb hbox hg) | ((with_reducible refine gate_callee (f := 10) rfl ?_); refine goesL_ (some 28) rfl rfl Try.func10 (by kernel_rfl) rfl #[] rfl (by (try simp only [List.map_toArray, List.map_cons, List.map_nil]); first | done | rfl | (simp only [List.length_drop, List.length_take]; rfl)) ?_; (with_reducible refine (palletlaw10_live.calls k  true _ A8.out).mono ?_); rintro e w27 ⟨rfl, hb⟩; refine ⟨_, rfl, ?_⟩; have n0_ := Aside0.mk (blk_below (g := gb222) (o := .cells #[.int .i64 a0_0, .int .i64 a0_1, .int .i64 a0_2, .int .i64 a0_3, .int .i64 a0_4] 32 (0, 0)) (by (with_reducible repeat (first | refine blk_drewN ?_ _ | refine blk_drew ?_ | refine blk_alloc ?_ _)); exact BK222.out) hb); have n1_ := Aside0.mk (blk_below (g := gb223) (o := .cells #[.int .i64 a4_0, .int .i64 a4_1, .int .u64 a4_2, .int .u16 a4_3] 36 (0, 0)) (by (with_reducible repeat (first | refine blk_drewN ?_ _ | refine blk_drew ?_ | refine blk_alloc ?_ _)); exact BK223.out) hb); have n2_ := Aside0.mk (blk_below (g := gb224) (o := .cells #[.int .i64 a6_0, .int .i64 a6_1] 25 (0, 0)) (by (with_reducible repeat (first | refine blk_drewN ?_ _ | refine blk_drew ?_ | refine blk_alloc ?_ _)); exact BK224.out) hb); have n3_ := Aside0.mk (below_step (by repeat (first | (with_reducible first | exact HB.out | apply below_alloc | apply pw_below_drewN | apply below_drew1 | refine below_set ?_ GE222.out | refine below_set ?_ GE223.out | refine below_set ?_ GE224.out) | exact HB.out)) hb); clear BK222; clear BK223; clear BK224; clear HB; have BK222 := n0_; have BK223 := n1_; have BK224 := n2_; have HB := n3_; clear n0_ n1_ n2_ n3_; (try clear hb); (try clear hb2); (try clear hk); (try clear hi); have hnb28 := NB222_223.out; have hnc28 := NB223_222.out; have hnb29 := NB222_224.out; have hnc29 := NB224_222.out; have hcz30_0 : w27.cell? ⟨gb222, 0, none⟩ = some (.int .i64 a0_0) := (blk_cell BK222.out 0).trans rfl; have hcz30_1 : w27.cell? ⟨gb222, 1, none⟩ = some (.int .i64 a0_1) := (blk_cell BK222.out 1).trans rfl; have hcz30_2 : w27.cell? ⟨gb222, 2, none⟩ = some (.int .i64 a0_2) := (blk_cell BK222.out 2).trans rfl; have hcz30_3 : w27.cell? ⟨gb222, 3, none⟩ = some (.int .i64 a0_3) := (blk_cell BK222.out 3).trans rfl; have hcz30_4 : w27.cell? ⟨gb222, 4, none⟩ = some (.int .i64 a0_4) := (blk_cell BK222.out 4).trans rfl; have hfz30_0 := blk_frozen BK222.out 0; have hfz30_1 := blk_frozen BK222.out 1; have hfz30_2 := blk_frozen BK222.out 2; have hfz30_3 := blk_frozen BK222.out 3; have hfz30_4 := blk_frozen BK222.out 4; have hnb31 := NB223_224.out; have hnc31 := NB224_223.out; have hcz32_0 : w27.cell? ⟨gb223, 0, none⟩ = some (.int .i64 a4_0) := (blk_cell BK223.out 0).trans rfl; have hcz32_1 : w27.cell? ⟨gb223, 1, none⟩ = some (.int .i64 a4_1) := (blk_cell BK223.out 1).trans rfl; have hcz32_2 : w27.cell? ⟨gb223, 2, none⟩ = some (.int .u64 a4_2) := (blk_cell BK223.out 2).trans rfl; have hcz32_3 : w27.cell? ⟨gb223, 3, none⟩ = some (.int .u16 a4_3) := (blk_cell BK223.out 3).trans rfl; have hfz32_0 := blk_frozen BK223.out 0; have hfz32_1 := blk_frozen BK223.out 1; have hfz32_2 := blk_frozen BK223.out 2; have hfz32_3 := blk_frozen BK223.out 3) | ((with_reducible refine gate_callee (f := 14) rfl ?_); refine goesL_ (some 37) rfl rfl Try.func14 (by kernel_rfl) rfl #[.agg #[.int .i64 a0_0, .int .i64 a0_1, .int .i64 a0_2, .int .i64 a0_3, .int .i64 a0_4], .int .i64 a1, .int .u16 a2, .int .u64 a3, .agg #[.int .i64 a4_0, .int .i64 a4_1, .int .u64 a4_2, .int .u16 a4_3]] rfl (by (try simp only [List.map_toArray, List.map_cons, List.map_nil]); first | done | rfl | (simp only [List.length_drop, List.length_take]; rfl)) ?_; (with_reducible refine (member_Judge.calls k a0_0 a0_1 a0_2 a0_3 a0_4 a1 a2 a3 a4_0 a4_1 a4_2 a4_3 t226 t227 _ A10.out).mono ?_); rintro e w33 ⟨rfl, hb⟩; refine ⟨_, rfl, ?_⟩; have n0_ := Aside0.mk (blk_below (g := gb222) (o := .cells #[.int .i64 a0_0, .int .i64 a0_1, .int .i64 a0_2, .int .i64 a0_3, .int .i64 a0_4] 32 (0, 0)) (by (with_reducible repeat (first | refine blk_drewN ?_ _ | refine blk_drew ?_ | refine blk_alloc ?_ _)); exact BK222.out) hb); have n1_ := Aside0.mk (blk_below (g := gb223) (o := .cells #[.int .i64 a4_0, .int .i64 a4_1, .int .u64 a4_2, .int .u16 a4_3] 36 (0, 0)) (by (with_reducible repeat (first | refine blk_drewN ?_ _ | refine blk_drew ?_ | refine blk_alloc ?_ _)); exact BK223.out) hb); have n2_ := Aside0.mk (blk_below (g := gb224) (o := .cells #[.int .i64 a6_0, .int .i64 a6_1] 25 (0, 0)) (by (with_reducible repeat (first | refine blk_drewN ?_ _ | refine blk_drew ?_ | refine blk_alloc ?_ _)); exact BK224.out) hb); have n3_ := Aside0.mk (below_step (by repeat (first | (with_reducible first | exact HB.out | apply below_alloc | apply pw_below_drewN | apply below_drew1 | refine below_set ?_ GE222.out | refine below_set ?_ GE223.out | refine below_set ?_ GE224.out) | exact HB.out)) hb); clear BK222; clear BK223; clear BK224; clear HB; have BK222 := n0_; have BK223 := n1_; have BK224 := n2_; have HB := n3_; clear n0_ n1_ n2_ n3_; (try clear hb); (try clear hb2); (try clear hk); (try clear hi); have hcz34_0 : w33.cell? ⟨gb222, 0, none⟩ = some (.int .i64 a0_0) := (blk_cell BK222.out 0).trans rfl; have hcz34_1 : w33.cell? ⟨gb222, 1, none⟩ = some (.int .i64 a0_1) := (blk_cell BK222.out 1).trans rfl; have hcz34_2 : w33.cell? ⟨gb222, 2, none⟩ = some (.int .i64 a0_2) := (blk_cell BK222.out 2).trans rfl; have hcz34_3 : w33.cell? ⟨gb222, 3, none⟩ = some (.int .i64 a0_3) := (blk_cell BK222.out 3).trans rfl; have hcz34_4 : w33.cell? ⟨gb222, 4, none⟩ = some (.int .i64 a0_4) := (blk_cell BK222.out 4).trans rfl; have hfz34_0 := blk_frozen BK222.out 0; have hfz34_1 := blk_frozen BK222.out 1; have hfz34_2 := blk_frozen BK222.out 2; have hfz34_3 := blk_frozen BK222.out 3; have hfz34_4 := blk_frozen BK222.out 4; have hcz35_0 : w33.cell? ⟨gb223, 0, none⟩ = some (.int .i64 a4_0) := (blk_cell BK223.out 0).trans rfl; have hcz35_1 : w33.cell? ⟨gb223, 1, none⟩ = some (.int .i64 a4_1) := (blk_cell BK223.out 1).trans rfl; have hcz35_2 : w33.cell? ⟨gb223, 2, none⟩ = some (.int .u64 a4_2) := (blk_cell BK223.out 2).trans rfl; have hcz35_3 : w33.cell? ⟨gb223, 3, none⟩ = some (.int .u16 a4_3) := (blk_cell BK223.out 3).trans rfl; have hfz35_0 := blk_frozen BK223.out 0; have hfz35_1 := blk_frozen BK223.out 1; have hfz35_2 := blk_frozen BK223.out 2; have hfz35_3 := blk_frozen BK223.out 3) | ((with_reducible refine gate_callee (f := 19) rfl ?_); refine goesL_ (some 46) rfl rfl Try.func19 (by kernel_rfl) rfl #[.agg #[.int .i64 a0_0, .int .i64 a0_1, .int .i64 a0_2, .int .i64 a0_3, .int .i64 a0_4], .int .i64 a1, .int .u16 a2, .int .u64 a3, .agg #[.int .i64 a4_0, .int .i64 a4_1, .int .u64 a4_2, .int .u16 a4_3]] rfl (by (try simp only [List.map_toArray, List.map_cons, List.map_nil]); first | done | rfl | (simp only [List.length_drop, List.length_take]; rfl)) ?_; (with_reducible refine (palletref10_Judge.calls k a0_0 a0_1 a0_2 a0_3 a0_4 a1 a2 a3 a4_0 a4_1 a4_2 a4_3 t228 t229 _ A11.out).mono ?_); rintro e w36 ⟨rfl, hb⟩; refine ⟨_, rfl, ?_⟩; have n0_ := Aside0.mk (blk_below (g := gb222) (o := .cells #[.int .i64 a0_0, .int .i64 a0_1, .int .i64 a0_2, .int .i64 a0_3, .int .i64 a0_4] 32 (0, 0)) (by (with_reducible repeat (first | refine blk_drewN ?_ _ | refine blk_drew ?_ | refine blk_alloc ?_ _)); exact BK222.out) hb); have n1_ := Aside0.mk (blk_below (g := gb223) (o := .cells #[.int .i64 a4_0, .int .i64 a4_1, .int .u64 a4_2, .int .u16 a4_3] 36 (0, 0)) (by (with_reducible repeat (first | refine blk_drewN ?_ _ | refine blk_drew ?_ | refine blk_alloc ?_ _)); exact BK223.out) hb); have n2_ := Aside0.mk (blk_below (g := gb224) (o := .cells #[.int .i64 a6_0, .int .i64 a6_1] 25 (0, 0)) (by (with_reducible repeat (first | refine blk_drewN ?_ _ | refine blk_drew ?_ | refine blk_alloc ?_ _)); exact BK224.out) hb); have n3_ := Aside0.mk (below_step (by repeat (first | (with_reducible first | exact HB.out | apply below_alloc | apply pw_below_drewN | apply below_drew1 | refine below_set ?_ GE222.out | refine below_set ?_ GE223.out | refine below_set ?_ GE224.out) | exact HB.out)) hb); clear BK222; clear BK223; clear BK224; clear HB; have BK222 := n0_; have BK223 := n1_; have BK224 := n2_; have HB := n3_; clear n0_ n1_ n2_ n3_; (try clear hb); (try clear hb2); (try clear hk); (try clear hi); have hcz37_0 : w36.cell? ⟨gb222, 0, none⟩ = some (.int .i64 a0_0) := (blk_cell BK222.out 0).trans rfl; have hcz37_1 : w36.cell? ⟨gb222, 1, none⟩ = some (.int .i64 a0_1) := (blk_cell BK222.out 1).trans rfl; have hcz37_2 : w36.cell? ⟨gb222, 2, none⟩ = some (.int .i64 a0_2) := (blk_cell BK222.out 2).trans rfl; have hcz37_3 : w36.cell? ⟨gb222, 3, none⟩ = some (.int .i64 a0_3) := (blk_cell BK222.out 3).trans rfl; have hcz37_4 : w36.cell? ⟨gb222, 4, none⟩ = some (.int .i64 a0_4) := (blk_cell BK222.out 4).trans rfl; have hfz37_0 := blk_frozen BK222.out 0; have hfz37_1 := blk_frozen BK222.out 1; have hfz37_2 := blk_frozen BK222.out 2; have hfz37_3 := blk_frozen BK222.out 3; have hfz37_4 := blk_frozen BK222.out 4) | ((with_reducible refine gate_callee (f := 16) rfl ?_); refine goesL_ (some 55) rfl rfl Try.func16 (by kernel_rfl) rfl #[.agg #[.int .i64 a0_0, .int .i64 a0_1, .int .i64 a0_2, .int .i64 a0_3, .int .i64 a0_4], .int .i64 a1, .int .u16 a2, .int .u64 a3, .int .i64 a5] rfl (by (try simp only [List.map_toArray, List.map_cons, List.map_nil]); first | done | rfl | (simp only [List.length_drop, List.length_take]; rfl)) ?_; (with_reducible refine (member_After.calls a0_0 a0_1 a0_2 a0_3 a0_4 a1 a2 a3 a5 t230 t231 _ A12.out).mono ?_); rintro e w38 ⟨rfl, hb⟩; refine ⟨_, rfl, ?_⟩; have n0_ := Aside0.mk (blk_below (g := gb222) (o := .cells #[.int .i64 a0_0, .int .i64 a0_1, .int .i64 a0_2, .int .i64 a0_3, .int .i64 a0_4] 32 (0, 0)) (by (with_reducible repeat (first | refine blk_drewN ?_ _ | refine blk_drew ?_ | refine blk_alloc ?_ _)); exact BK222.out) hb); have n1_ := Aside0.mk (blk_below (g := gb223) (o := .cells #[.int .i64 a4_0, .int .i64 a4_1, .int .u64 a4_2, .int .u16 a4_3] 36 (0, 0)) (by (with_reducible repeat (first | refine blk_drewN ?_ _ | refine blk_drew ?_ | refine blk_alloc ?_ _)); exact BK223.out) hb); have n2_ := Aside0.mk (blk_below (g := gb224) (o := .cells #[.int .i64 a6_0, .int .i64 a6_1] 25 (0, 0)) (by (with_reducible repeat (first | refine blk_drewN ?_ _ | refine blk_drew ?_ | refine blk_alloc ?_ _)); exact BK224.out) hb); have n3_ := Aside0.mk (below_step (by repeat (first | (with_reducible first | exact HB.out | apply below_alloc | apply pw_below_drewN | apply below_drew1 | refine below_set ?_ GE222.out | refine below_set ?_ GE223.out | refine below_set ?_ GE224.out) | exact HB.out)) hb); clear BK222; clear BK223; clear BK224; clear HB; have BK222 := n0_; have BK223 := n1_; have BK224 := n2_; have HB := n3_; clear n0_ n1_ n2_ n3_; (try clear hb); (try clear hb2); (try clear hk); (try clear hi); have hcz39_0 : w38.cell? ⟨gb222, 0, none⟩ = some (.int .i64 a0_0) := (blk_cell BK222.out 0).trans rfl; have hcz39_1 : w38.cell? ⟨gb222, 1, none⟩ = some (.int .i64 a0_1) := (blk_cell BK222.out 1).trans rfl; have hcz39_2 : w38.cell? ⟨gb222, 2, none⟩ = some (.int .i64 a0_2) := (blk_cell BK222.out 2).trans rfl; have hcz39_3 : w38.cell? ⟨gb222, 3, none⟩ = some (.int .i64 a0_3) := (blk_cell BK222.out 3).trans rfl; have hcz39_4 : w38.cell? ⟨gb222, 4, none⟩ = some (.int .i64 a0_4) := (blk_cell BK222.out 4).trans rfl; have hfz39_0 := blk_frozen BK222.out 0; have hfz39_1 := blk_frozen BK222.out 1; have hfz39_2 := blk_frozen BK222.out 2; have hfz39_3 := blk_frozen BK222.out 3; have hfz39_4 := blk_frozen BK222.out 4) | ((with_reducible refine gate_callee (f := 20) rfl ?_); refine goesL_ (some 64) rfl rfl Try.func20 (by kernel_rfl) rfl #[.agg #[.int .i64 a0_0, .int .i64 a0_1, .int .i64 a0_2, .int .i64 a0_3, .int .i64 a0_4], .int .i64 a1, .int .u16 a2, .int .u64 a3, .int .i64 a5] rfl (by (try simp only [List.map_toArray, List.map_cons, List.map_nil]); first | done | rfl | (simp only [List.length_drop, List.length_take]; rfl)) ?_; (with_reducible refine (palletref10_After.calls k a0_0 a0_1 a0_2 a0_3 a0_4 a1 a2 a3 a5 t232 t233 _ A13.out).mono ?_); rintro e w40 ⟨rfl, hb⟩; refine ⟨_, rfl, ?_⟩; have n0_ := Aside0.mk (blk_below (g := gb222) (o := .cells #[.int .i64 a0_0, .int .i64 a0_1, .int .i64 a0_2, .int .i64 a0_3, .int .i64 a0_4] 32 (0, 0)) (by (with_reducible repeat (first | refine blk_drewN ?_ _ | refine blk_drew ?_ | refine blk_alloc ?_ _)); exact BK222.out) hb); have n1_ := Aside0.mk (blk_below (g := gb223) (o := .cells #[.int .i64 a4_0, .int .i64 a4_1, .int .u64 a4_2, .int .u16 a4_3] 36 (0, 0)) (by (with_reducible repeat (first | refine blk_drewN ?_ _ | refine blk_drew ?_ | refine blk_alloc ?_ _)); exact BK223.out) hb); have n2_ := Aside0.mk (blk_below (g := gb224) (o := .cells #[.int .i64 a6_0, .int .i64 a6_1] 25 (0, 0)) (by (with_reducible repeat (first | refine blk_drewN ?_ _ | refine blk_drew ?_ | refine blk_alloc ?_ _)); exact BK224.out) hb); have n3_ := Aside0.mk (below_step (by repeat (first | (with_reducible first | exact HB.out | apply below_alloc | apply pw_below_drewN | apply below_drew1 | refine below_set ?_ GE222.out | refine below_set ?_ GE223.out | refine below_set ?_ GE224.out) | exact HB.out)) hb); clear BK222; clear BK223; clear BK224; clear HB; have BK222 := n0_; have BK223 := n1_; have BK224 := n2_; have HB := n3_; clear n0_ n1_ n2_ n3_; (try clear hb); (try clear hb2); (try clear hk); (try clear hi); have hcz41_0 : w40.cell? ⟨gb224, 0, none⟩ = some (.int .i64 a6_0) := (blk_cell BK224.out 0).trans rfl; have hcz41_1 : w40.cell? ⟨gb224, 1, none⟩ = some (.int .i64 a6_1) := (blk_cell BK224.out 1).trans rfl; have hfz41_0 := blk_frozen BK224.out 0; have hfz41_1 := blk_frozen BK224.out 1) | ((with_reducible refine gate_callee (f := 11) rfl ?_); refine goesL_ (some 70) rfl rfl Try.func11 (by kernel_rfl) rfl #[.agg #[.int .i64 a6_0, .int .i64 a6_1], .int .i64 a5] rfl (by (try simp only [List.map_toArray, List.map_cons, List.map_nil]); first | done | rfl | (simp only [List.length_drop, List.length_take]; rfl)) ?_; (with_reducible refine (member_Count.calls k a6_0 a6_1 a5 t234 t235 t236 _ A14.out).mono ?_); rintro e w42 ⟨rfl, hb⟩; refine ⟨_, rfl, ?_⟩; have n0_ := Aside0.mk (blk_below (g := gb222) (o := .cells #[.int .i64 a0_0, .int .i64 a0_1, .int .i64 a0_2, .int .i64 a0_3, .int .i64 a0_4] 32 (0, 0)) (by (with_reducible repeat (first | refine blk_drewN ?_ _ | refine blk_drew ?_ | refine blk_alloc ?_ _)); exact BK222.out) hb); have n1_ := Aside0.mk (blk_below (g := gb223) (o := .cells #[.int .i64 a4_0, .int .i64 a4_1, .int .u64 a4_2, .int .u16 a4_3] 36 (0, 0)) (by (with_reducible repeat (first | refine blk_drewN ?_ _ | refine blk_drew ?_ | refine blk_alloc ?_ _)); exact BK223.out) hb); have n2_ := Aside0.mk (blk_below (g := gb224) (o := .cells #[.int .i64 a6_0, .int .i64 a6_1] 25 (0, 0)) (by (with_reducible repeat (first | refine blk_drewN ?_ _ | refine blk_drew ?_ | refine blk_alloc ?_ _)); exact BK224.out) hb); have n3_ := Aside0.mk (below_step (by repeat (first | (with_reducible first | exact HB.out | apply below_alloc | apply pw_below_drewN | apply below_drew1 | refine below_set ?_ GE222.out | refine below_set ?_ GE223.out | refine below_set ?_ GE224.out) | exact HB.out)) hb); clear BK222; clear BK223; clear BK224; clear HB; have BK222 := n0_; have BK223 := n1_; have BK224 := n2_; have HB := n3_; clear n0_ n1_ n2_ n3_; (try clear hb); (try clear hb2); (try clear hk); (try clear hi)) | ((with_reducible refine gate_dst (N := 24) rfl ?_); refine box_event ?hg (N := 24) ?hd (cs := #[.int .i64 0, .int .i64 0]) (t := 25) ?hr ?_; (case hd => rfl); (case hg => rfl); (case hr => first | (go_simp; done) | (go_simp; rfl)); intro gb237 hg w43 hbox hb; have n0_ := Aside0.mk (blk_below (g := gb222) (o := .cells #[.int .i64 a0_0, .int .i64 a0_1, .int .i64 a0_2, .int .i64 a0_3, .int .i64 a0_4] 32 (0, 0)) (by (with_reducible repeat (first | refine blk_drewN ?_ _ | refine blk_drew ?_ | refine blk_alloc ?_ _)); exact BK222.out) hb); have n1_ := Aside0.mk (blk_below (g := gb223) (o := .cells #[.int .i64 a4_0, .int .i64 a4_1, .int .u64 a4_2, .int .u16 a4_3] 36 (0, 0)) (by (with_reducible repeat (first | refine blk_drewN ?_ _ | refine blk_drew ?_ | refine blk_alloc ?_ _)); exact BK223.out) hb); have n2_ := Aside0.mk (blk_below (g := gb224) (o := .cells #[.int .i64 a6_0, .int .i64 a6_1] 25 (0, 0)) (by (with_reducible repeat (first | refine blk_drewN ?_ _ | refine blk_drew ?_ | refine blk_alloc ?_ _)); exact BK224.out) hb); have n3_ := Aside0.mk (below_step (by repeat (first | (with_reducible first | exact HB.out | apply below_alloc | apply pw_below_drewN | apply below_drew1 | refine below_set ?_ GE222.out | refine below_set ?_ GE223.out | refine below_set ?_ GE224.out) | exact HB.out)) hb); have n4_ := Aside0.mk (hbox); have n5_ := Aside0.mk ((by rw [hg]; exact (below_size (by repeat (first | (with_reducible first | exact HB.out | apply below_alloc | apply pw_below_drewN | apply below_drew1 | refine below_set ?_ GE222.out | refine below_set ?_ GE223.out | refine below_set ?_ GE224.out) | exact HB.out))) : w.heap.size ≤ gb237)); have n6_ := Aside0.mk ((by rw [hg]; exact (below_size (by repeat (first | (with_reducible first | exact HB.out | apply below_alloc | apply pw_below_drewN | apply below_drew1 | refine below_set ?_ GE222.out | refine below_set ?_ GE223.out | refine below_set ?_ GE224.out) | exact HB.out))) : w.heap.size ≤ gb237)); have n7_ := Aside0.mk ((by rw [hg]; exact Nat.ne_of_lt (blk_lt (g := gb222) (o := .cells #[.int .i64 a0_0, .int .i64 a0_1, .int .i64 a0_2, .int .i64 a0_3, .int .i64 a0_4] 32 (0, 0)) (by (with_reducible repeat (first | refine blk_drewN ?_ _ | refine blk_drew ?_ | refine blk_alloc ?_ _)); exact BK222.out)) : gb222 ≠ gb237)); have n8_ := Aside0.mk ((by rw [hg]; exact Nat.ne_of_gt (blk_lt (g := gb222) (o := .cells #[.int .i64 a0_0, .int .i64 a0_1, .int .i64 a0_2, .int .i64 a0_3, .int .i64 a0_4] 32 (0, 0)) (by (with_reducible repeat (first | refine blk_drewN ?_ _ | refine blk_drew ?_ | refine blk_alloc ?_ _)); exact BK222.out)) : gb237 ≠ gb222)); have n9_ := Aside0.mk ((by rw [hg]; exact Nat.ne_of_lt (blk_lt (g := gb223) (o := .cells #[.int .i64 a4_0, .int .i64 a4_1, .int .u64 a4_2, .int .u16 a4_3] 36 (0, 0)) (by (with_reducible repeat (first | refine blk_drewN ?_ _ | refine blk_drew ?_ | refine blk_alloc ?_ _)); exact BK223.out)) : gb223 ≠ gb237)); have n10_ := Aside0.mk ((by rw [hg]; exact Nat.ne_of_gt (blk_lt (g := gb223) (o := .cells #[.int .i64 a4_0, .int .i64 a4_1, .int .u64 a4_2, .int .u16 a4_3] 36 (0, 0)) (by (with_reducible repeat (first | refine blk_drewN ?_ _ | refine blk_drew ?_ | refine blk_alloc ?_ _)); exact BK223.out)) : gb237 ≠ gb223)); have n11_ := Aside0.mk ((by rw [hg]; exact Nat.ne_of_lt (blk_lt (g := gb224) (o := .cells #[.int .i64 a6_0, .int .i64 a6_1] 25 (0, 0)) (by (with_reducible repeat (first | refine blk_drewN ?_ _ | refine blk_drew ?_ | refine blk_alloc ?_ _)); exact BK224.out)) : gb224 ≠ gb237)); have n12_ := Aside0.mk ((by rw [hg]; exact Nat.ne_of_gt (blk_lt (g := gb224) (o := .cells #[.int .i64 a6_0, .int .i64 a6_1] 25 (0, 0)) (by (with_reducible repeat (first | refine blk_drewN ?_ _ | refine blk_drew ?_ | refine blk_alloc ?_ _)); exact BK224.out)) : gb237 ≠ gb224)); clear BK222; clear BK223; clear BK224; clear HB; have BK222 := n0_; have BK223 := n1_; have BK224 := n2_; have HB := n3_; have BK237 := n4_; have GW237 := n5_; have GE237 := n6_; have NB222_237 := n7_; have NB237_222 := n8_; have NB223_237 := n9_; have NB237_223 := n10_; have NB224_237 := n11_; have NB237_224 := n12_; clear n0_ n1_ n2_ n3_ n4_ n5_ n6_ n7_ n8_ n9_ n10_ n11_ n12_; clear hb hbox hg; have hnb44 := NB237_222.out; have hnc44 := NB222_237.out; have hnb45 := NB237_223.out; have hnc45 := NB223_237.out; have hnb46 := NB237_224.out; have hnc46 := NB224_237.out; have hcz47_0 : w43.cell? ⟨gb237, 0, none⟩ = some (.int .i64 0) := (blk_cell BK237.out 0).trans rfl; have hcz47_1 : w43.cell? ⟨gb237, 1, none⟩ = some (.int .i64 0) := (blk_cell BK237.out 1).trans rfl; have hfz47_0 := blk_frozen BK237.out 0; have hfz47_1 := blk_frozen BK237.out 1; have hcz48_0 : w43.cell? ⟨gb224, 0, none⟩ = some (.int .i64 a6_0) := (blk_cell BK224.out 0).trans rfl; have hcz48_1 : w43.cell? ⟨gb224, 1, none⟩ = some (.int .i64 a6_1) := (blk_cell BK224.out 1).trans rfl; have hfz48_0 := blk_frozen BK224.out 0; have hfz48_1 := blk_frozen BK224.out 1) | ((with_reducible refine gate_callee (f := 21) rfl ?_); refine goesL_ (some 76) rfl rfl Try.func21 (by kernel_rfl) rfl #[.agg #[.int .i64 a6_0, .int .i64 a6_1], .int .i64 a5] rfl (by (try simp only [List.map_toArray, List.map_cons, List.map_nil]); first | done | rfl | (simp only [List.length_drop, List.length_take]; rfl)) ?_; (with_reducible refine (palletref10_Count.calls k a6_0 a6_1 a5 t238 t239 t240 _ A15.out).mono ?_); rintro e w49 ⟨rfl, hb⟩; refine ⟨_, rfl, ?_⟩; have n0_ := Aside0.mk (blk_below (g := gb222) (o := .cells #[.int .i64 a0_0, .int .i64 a0_1, .int .i64 a0_2, .int .i64 a0_3, .int .i64 a0_4] 32 (0, 0)) (by (with_reducible repeat (first | refine blk_drewN ?_ _ | refine blk_drew ?_ | refine blk_alloc ?_ _)); refine blk_far ?_ NB222_237.out _; (with_reducible repeat (first | refine blk_drewN ?_ _ | refine blk_drew ?_ | refine blk_alloc ?_ _)); refine blk_far ?_ NB222_237.out _; (with_reducible repeat (first | refine blk_drewN ?_ _ | refine blk_drew ?_ | refine blk_alloc ?_ _)); exact BK222.out) hb); have n1_ := Aside0.mk (blk_below (g := gb223) (o := .cells #[.int .i64 a4_0, .int .i64 a4_1, .int .u64 a4_2, .int .u16 a4_3] 36 (0, 0)) (by (with_reducible repeat (first | refine blk_drewN ?_ _ | refine blk_drew ?_ | refine blk_alloc ?_ _)); refine blk_far ?_ NB223_237.out _; (with_reducible repeat (first | refine blk_drewN ?_ _ | refine blk_drew ?_ | refine blk_alloc ?_ _)); refine blk_far ?_ NB223_237.out _; (with_reducible repeat (first | refine blk_drewN ?_ _ | refine blk_drew ?_ | refine blk_alloc ?_ _)); exact BK223.out) hb); have n2_ := Aside0.mk (blk_below (g := gb224) (o := .cells #[.int .i64 a6_0, .int .i64 a6_1] 25 (0, 0)) (by (with_reducible repeat (first | refine blk_drewN ?_ _ | refine blk_drew ?_ | refine blk_alloc ?_ _)); refine blk_far ?_ NB224_237.out _; (with_reducible repeat (first | refine blk_drewN ?_ _ | refine blk_drew ?_ | refine blk_alloc ?_ _)); refine blk_far ?_ NB224_237.out _; (with_reducible repeat (first | refine blk_drewN ?_ _ | refine blk_drew ?_ | refine blk_alloc ?_ _)); exact BK224.out) hb); have n3_ := Aside0.mk (blk_below (g := gb237) (o := .cells #[.int .i64 t234, .int .i64 t235] 25 (0, 0)) (by (with_reducible repeat (first | refine blk_drewN ?_ _ | refine blk_drew ?_ | refine blk_alloc ?_ _)); refine blk_put (cs := #[.int .i64 t234, .int .i64 0]) ?_ 1 _ rfl; (with_reducible repeat (first | refine blk_drewN ?_ _ | refine blk_drew ?_ | refine blk_alloc ?_ _)); refine blk_put (cs := #[.int .i64 0, .int .i64 0]) ?_ 0 _ rfl; (with_reducible repeat (first | refine blk_drewN ?_ _ | refine blk_drew ?_ | refine blk_alloc ?_ _)); exact BK237.out) hb); have n4_ := Aside0.mk (below_step (by repeat (first | (with_reducible first | exact HB.out | apply below_alloc | apply pw_below_drewN | apply below_drew1 | refine below_set ?_ GE222.out | refine below_set ?_ GE223.out | refine below_set ?_ GE224.out | refine below_set ?_ GE237.out) | exact HB.out)) hb); clear BK222; clear BK223; clear BK224; clear BK237; clear HB; have BK222 := n0_; have BK223 := n1_; have BK224 := n2_; have BK237 := n3_; have HB := n4_; clear n0_ n1_ n2_ n3_ n4_; (try clear hb); (try clear hb2); (try clear hk); (try clear hi)) | ((with_reducible refine gate_dst (N := 26) rfl ?_); refine box_event ?hg (N := 26) ?hd (cs := #[.int .i64 0, .int .i64 0]) (t := 25) ?hr ?_; (case hd => rfl); (case hg => rfl); (case hr => first | (go_simp; done) | (go_simp; rfl)); intro gb241 hg w50 hbox hb; have n0_ := Aside0.mk (blk_below (g := gb222) (o := .cells #[.int .i64 a0_0, .int .i64 a0_1, .int .i64 a0_2, .int .i64 a0_3, .int .i64 a0_4] 32 (0, 0)) (by (with_reducible repeat (first | refine blk_drewN ?_ _ | refine blk_drew ?_ | refine blk_alloc ?_ _)); exact BK222.out) hb); have n1_ := Aside0.mk (blk_below (g := gb223) (o := .cells #[.int .i64 a4_0, .int .i64 a4_1, .int .u64 a4_2, .int .u16 a4_3] 36 (0, 0)) (by (with_reducible repeat (first | refine blk_drewN ?_ _ | refine blk_drew ?_ | refine blk_alloc ?_ _)); exact BK223.out) hb); have n2_ := Aside0.mk (blk_below (g := gb224) (o := .cells #[.int .i64 a6_0, .int .i64 a6_1] 25 (0, 0)) (by (with_reducible repeat (first | refine blk_drewN ?_ _ | refine blk_drew ?_ | refine blk_alloc ?_ _)); exact BK224.out) hb); have n3_ := Aside0.mk (blk_below (g := gb237) (o := .cells #[.int .i64 t234, .int .i64 t235] 25 (0, 0)) (by (with_reducible repeat (first | refine blk_drewN ?_ _ | refine blk_drew ?_ | refine blk_alloc ?_ _)); exact BK237.out) hb); have n4_ := Aside0.mk (below_step (by repeat (first | (with_reducible first | exact HB.out | apply below_alloc | apply pw_below_drewN | apply below_drew1 | refine below_set ?_ GE222.out | refine below_set ?_ GE223.out | refine below_set ?_ GE224.out | refine below_set ?_ GE237.out) | exact HB.out)) hb); have n5_ := Aside0.mk (hbox); have n6_ := Aside0.mk ((by rw [hg]; exact (below_size (by repeat (first | (with_reducible first | exact HB.out | apply below_alloc | apply pw_below_drewN | apply below_drew1 | refine below_set ?_ GE222.out | refine below_set ?_ GE223.out | refine below_set ?_ GE224.out | refine below_set ?_ GE237.out) | exact HB.out))) : w.heap.size ≤ gb241)); have n7_ := Aside0.mk ((by rw [hg]; exact (below_size (by repeat (first | (with_reducible first | exact HB.out | apply below_alloc | apply pw_below_drewN | apply below_drew1 | refine below_set ?_ GE222.out | refine below_set ?_ GE223.out | refine below_set ?_ GE224.out | refine below_set ?_ GE237.out) | exact HB.out))) : w.heap.size ≤ gb241)); have n8_ := Aside0.mk ((by rw [hg]; exact Nat.ne_of_lt (blk_lt (g := gb222) (o := .cells #[.int .i64 a0_0, .int .i64 a0_1, .int .i64 a0_2, .int .i64 a0_3, .int .i64 a0_4] 32 (0, 0)) (by (with_reducible repeat (first | refine blk_drewN ?_ _ | refine blk_drew ?_ | refine blk_alloc ?_ _)); exact BK222.out)) : gb222 ≠ gb241)); have n9_ := Aside0.mk ((by rw [hg]; exact Nat.ne_of_gt (blk_lt (g := gb222) (o := .cells #[.int .i64 a0_0, .int .i64 a0_1, .int .i64 a0_2, .int .i64 a0_3, .int .i64 a0_4] 32 (0, 0)) (by (with_reducible repeat (first | refine blk_drewN ?_ _ | refine blk_drew ?_ | refine blk_alloc ?_ _)); exact BK222.out)) : gb241 ≠ gb222)); have n10_ := Aside0.mk ((by rw [hg]; exact Nat.ne_of_lt (blk_lt (g := gb223) (o := .cells #[.int .i64 a4_0, .int .i64 a4_1, .int .u64 a4_2, .int .u16 a4_3] 36 (0, 0)) (by (with_reducible repeat (first | refine blk_drewN ?_ _ | refine blk_drew ?_ | refine blk_alloc ?_ _)); exact BK223.out)) : gb223 ≠ gb241)); have n11_ := Aside0.mk ((by rw [hg]; exact Nat.ne_of_gt (blk_lt (g := gb223) (o := .cells #[.int .i64 a4_0, .int .i64 a4_1, .int .u64 a4_2, .int .u16 a4_3] 36 (0, 0)) (by (with_reducible repeat (first | refine blk_drewN ?_ _ | refine blk_drew ?_ | refine blk_alloc ?_ _)); exact BK223.out)) : gb241 ≠ gb223)); have n12_ := Aside0.mk ((by rw [hg]; exact Nat.ne_of_lt (blk_lt (g := gb224) (o := .cells #[.int .i64 a6_0, .int .i64 a6_1] 25 (0, 0)) (by (with_reducible repeat (first | refine blk_drewN ?_ _ | refine blk_drew ?_ | refine blk_alloc ?_ _)); exact BK224.out)) : gb224 ≠ gb241)); have n13_ := Aside0.mk ((by rw [hg]; exact Nat.ne_of_gt (blk_lt (g := gb224) (o := .cells #[.int .i64 a6_0, .int .i64 a6_1] 25 (0, 0)) (by (with_reducible repeat (first | refine blk_drewN ?_ _ | refine blk_drew ?_ | refine blk_alloc ?_ _)); exact BK224.out)) : gb241 ≠ gb224)); have n14_ := Aside0.mk ((by rw [hg]; exact Nat.ne_of_lt (blk_lt (g := gb237) (o := .cells #[.int .i64 t234, .int .i64 t235] 25 (0, 0)) (by (with_reducible repeat (first | refine blk_drewN ?_ _ | refine blk_drew ?_ | refine blk_alloc ?_ _)); exact BK237.out)) : gb237 ≠ gb241)); have n15_ := Aside0.mk ((by rw [hg]; exact Nat.ne_of_gt (blk_lt (g := gb237) (o := .cells #[.int .i64 t234, .int .i64 t235] 25 (0, 0)) (by (with_reducible repeat (first | refine blk_drewN ?_ _ | refine blk_drew ?_ | refine blk_alloc ?_ _)); exact BK237.out)) : gb241 ≠ gb237)); clear BK222; clear BK223; clear BK224; clear BK237; clear HB; have BK222 := n0_; have BK223 := n1_; have BK224 := n2_; have BK237 := n3_; have HB := n4_; have BK241 := n5_; have GW241 := n6_; have GE241 := n7_; have NB222_241 := n8_; have NB241_222 := n9_; have NB223_241 := n10_; have NB241_223 := n11_; have NB224_241 := n12_; have NB241_224 := n13_; have NB237_241 := n14_; have NB241_237 := n15_; clear n0_ n1_ n2_ n3_ n4_ n5_ n6_ n7_ n8_ n9_ n10_ n11_ n12_ n13_ n14_ n15_; clear hb hbox hg; have hnb51 := NB241_222.out; have hnc51 := NB222_241.out; have hnb52 := NB241_223.out; have hnc52 := NB223_241.out; have hnb53 := NB241_224.out; have hnc53 := NB224_241.out; have hnb54 := NB241_237.out; have hnc54 := NB237_241.out; have hcz55_0 : w50.cell? ⟨gb241, 0, none⟩ = some (.int .i64 0) := (blk_cell BK241.out 0).trans rfl; have hcz55_1 : w50.cell? ⟨gb241, 1, none⟩ = some (.int .i64 0) := (blk_cell BK241.out 1).trans rfl; have hfz55_0 := blk_frozen BK241.out 0; have hfz55_1 := blk_frozen BK241.out 1))
        have n0_ : Aside0 (((w50.setCell ⟨gb241, 0, none⟩ (.int .i64 t238)).setCell ⟨gb241, 1, none⟩ (.int .i64 t239)).heap[gb222]? = some (.cells #[.int .i64 a0_0, .int .i64 a0_1, .int .i64 a0_2, .int .i64 a0_3, .int .i64 a0_4] 32 (0, 0))) := ⟨by (with_reducible repeat (first | refine blk_drewN ?_ _ | refine blk_drew ?_ | refine blk_alloc ?_ _)); refine blk_far ?_ NB222_241.out _; (with_reducible repeat (first | refine blk_drewN ?_ _ | refine blk_drew ?_ | refine blk_alloc ?_ _)); refine blk_far ?_ NB222_241.out _; (with_reducible repeat (first | refine blk_drewN ?_ _ | refine blk_drew ?_ | refine blk_alloc ?_ _)); exact BK222.out⟩
        have n1_ : Aside0 (((w50.setCell ⟨gb241, 0, none⟩ (.int .i64 t238)).setCell ⟨gb241, 1, none⟩ (.int .i64 t239)).heap[gb223]? = some (.cells #[.int .i64 a4_0, .int .i64 a4_1, .int .u64 a4_2, .int .u16 a4_3] 36 (0, 0))) := ⟨by (with_reducible repeat (first | refine blk_drewN ?_ _ | refine blk_drew ?_ | refine blk_alloc ?_ _)); refine blk_far ?_ NB223_241.out _; (with_reducible repeat (first | refine blk_drewN ?_ _ | refine blk_drew ?_ | refine blk_alloc ?_ _)); refine blk_far ?_ NB223_241.out _; (with_reducible repeat (first | refine blk_drewN ?_ _ | refine blk_drew ?_ | refine blk_alloc ?_ _)); exact BK223.out⟩
        have n2_ : Aside0 (((w50.setCell ⟨gb241, 0, none⟩ (.int .i64 t238)).setCell ⟨gb241, 1, none⟩ (.int .i64 t239)).heap[gb224]? = some (.cells #[.int .i64 a6_0, .int .i64 a6_1] 25 (0, 0))) := ⟨by (with_reducible repeat (first | refine blk_drewN ?_ _ | refine blk_drew ?_ | refine blk_alloc ?_ _)); refine blk_far ?_ NB224_241.out _; (with_reducible repeat (first | refine blk_drewN ?_ _ | refine blk_drew ?_ | refine blk_alloc ?_ _)); refine blk_far ?_ NB224_241.out _; (with_reducible repeat (first | refine blk_drewN ?_ _ | refine blk_drew ?_ | refine blk_alloc ?_ _)); exact BK224.out⟩
        have n3_ : Aside0 (((w50.setCell ⟨gb241, 0, none⟩ (.int .i64 t238)).setCell ⟨gb241, 1, none⟩ (.int .i64 t239)).heap[gb237]? = some (.cells #[.int .i64 t234, .int .i64 t235] 25 (0, 0))) := ⟨by (with_reducible repeat (first | refine blk_drewN ?_ _ | refine blk_drew ?_ | refine blk_alloc ?_ _)); refine blk_far ?_ NB237_241.out _; (with_reducible repeat (first | refine blk_drewN ?_ _ | refine blk_drew ?_ | refine blk_alloc ?_ _)); refine blk_far ?_ NB237_241.out _; (with_reducible repeat (first | refine blk_drewN ?_ _ | refine blk_drew ?_ | refine blk_alloc ?_ _)); exact BK237.out⟩
        have n4_ : Aside0 (((w50.setCell ⟨gb241, 0, none⟩ (.int .i64 t238)).setCell ⟨gb241, 1, none⟩ (.int .i64 t239)).heap[gb241]? = some (.cells #[.int .i64 t238, .int .i64 t239] 25 (0, 0))) := ⟨by (with_reducible repeat (first | refine blk_drewN ?_ _ | refine blk_drew ?_ | refine blk_alloc ?_ _)); refine blk_put (cs := #[.int .i64 t238, .int .i64 0]) ?_ 1 _ rfl; (with_reducible repeat (first | refine blk_drewN ?_ _ | refine blk_drew ?_ | refine blk_alloc ?_ _)); refine blk_put (cs := #[.int .i64 0, .int .i64 0]) ?_ 0 _ rfl; (with_reducible repeat (first | refine blk_drewN ?_ _ | refine blk_drew ?_ | refine blk_alloc ?_ _)); exact BK241.out⟩
        have n5_ : Aside0 (Below w.heap.size w ((w50.setCell ⟨gb241, 0, none⟩ (.int .i64 t238)).setCell ⟨gb241, 1, none⟩ (.int .i64 t239))) := ⟨by repeat (first | (with_reducible first | exact HB.out | apply below_alloc | apply pw_below_drewN | apply below_drew1 | refine below_set ?_ GE222.out | refine below_set ?_ GE223.out | refine below_set ?_ GE224.out | refine below_set ?_ GE237.out | refine below_set ?_ GE241.out) | exact HB.out)⟩
        (try clear BK222)
        (try clear BK223)
        (try clear BK224)
        (try clear BK237)
        (try clear BK241)
        (try clear HB)
        generalize ((w50.setCell ⟨gb241, 0, none⟩ (.int .i64 t238)).setCell ⟨gb241, 1, none⟩ (.int .i64 t239)) = w56 at n0_ n1_ n2_ n3_ n4_ n5_ ⊢
        have BK222 := n0_
        have BK223 := n1_
        have BK224 := n2_
        have BK237 := n3_
        have BK241 := n4_
        have HB := n5_
        clear n0_ n1_ n2_ n3_ n4_ n5_
        have n0_ := Aside0.mk (blk_drew BK222.out)
        have n1_ := Aside0.mk (blk_drew BK223.out)
        have n2_ := Aside0.mk (blk_drew BK224.out)
        have n3_ := Aside0.mk (blk_drew BK237.out)
        have n4_ := Aside0.mk (blk_drew BK241.out)
        have n5_ := Aside0.mk (below_drew1 HB.out)
        clear BK222
        clear BK223
        clear BK224
        clear BK237
        clear BK241
        clear HB
        have BK222 := n0_
        have BK223 := n1_
        have BK224 := n2_
        have BK237 := n3_
        have BK241 := n4_
        have HB := n5_
        clear n0_ n1_ n2_ n3_ n4_ n5_
        refine start_ (n := 39) (S := fun w' => w'.cell? ⟨gb237, 0, none⟩ = some (.int .i64 t234) ∧ w'.cell? ⟨gb237, 1, none⟩ = some (.int .i64 t235) ∧ w'.cell? ⟨gb241, 0, none⟩ = some (.int .i64 t238) ∧ w'.cell? ⟨gb241, 1, none⟩ = some (.int .i64 t239) ∧ w'.cell? ⟨gb224, 0, none⟩ = some (.int .i64 a6_0) ∧ w'.cell? ⟨gb224, 1, none⟩ = some (.int .i64 a6_1)) (ds := []) #[false, false, false, false, false, false, false, false, false, false, false, false, false, false, false, false, false, false, false, false, false, false, false, false, false, false, false, false, false, false, false, false, false, false, false, false, false, false, false] (by kernel_rfl) rfl rfl ⟨(blk_cell BK237.out 0).trans rfl, (blk_cell BK237.out 1).trans rfl, (blk_cell BK241.out 0).trans rfl, (blk_cell BK241.out 1).trans rfl, (blk_cell BK224.out 0).trans rfl, (blk_cell BK224.out 1).trans rfl⟩ (fun hHeld => ?_); refine with_tabW palletlaw10_MemberJudges.tab10 palletlaw10_MemberJudges.bits10 (fun HT_ HW_ => ?_)
        generalize w56.drew = w57 at BK222 BK223 BK224 BK237 BK241 HB hHeld ⊢
        refine pure_ (i := 0) (N := some 79) (v := ?_) (a' := ?_) #[true, false, false, false, false, false, false, false, false, false, false, false, false, false, false, false, false, false, false, false, false, false, false, false, false, false, false, false, false, false, false, false, false, false, false, false, false, false, false] rfl rfl (any_of HT_.out (by kernel_rfl)) (fun _ _ _ h => h) (Or.inl ⟨by rfl, ?_⟩) ?_ ?_
        rotate_left
        ·intro w'
         go_simp
         with_reducible rfl
        rotate_left
        ·simp only [Act.put, List.setIfInBounds_toArray, List.set_cons_zero, List.set_cons_succ, i64_w, i32_w]
         rfl
        refine pure_ (i := 1) (N := some 80) (v := ?_) (a' := ?_) #[true, true, false, false, false, false, false, false, false, false, false, false, false, false, false, false, false, false, false, false, false, false, false, false, false, false, false, false, false, false, false, false, false, false, false, false, false, false, false] rfl rfl (any_of HT_.out (by kernel_rfl)) (fun _ _ _ h => h) (Or.inl ⟨by rfl, ?_⟩) ?_ ?_
        rotate_left
        ·intro w'
         go_simp
         with_reducible rfl
        rotate_left
        ·simp only [Act.put, List.setIfInBounds_toArray, List.set_cons_zero, List.set_cons_succ, i64_w, i32_w]
         rfl
        refine pure_ (i := 2) (N := some 81) (v := ?_) (a' := ?_) #[true, true, true, false, false, false, false, false, false, false, false, false, false, false, false, false, false, false, false, false, false, false, false, false, false, false, false, false, false, false, false, false, false, false, false, false, false, false, false] rfl rfl (any_of HT_.out (by kernel_rfl)) (fun _ _ _ h => h) (Or.inl ⟨by rfl, ?_⟩) ?_ ?_
        rotate_left
        ·intro w'
         go_simp
         with_reducible rfl
        rotate_left
        ·simp only [Act.put, List.setIfInBounds_toArray, List.set_cons_zero, List.set_cons_succ, i64_w, i32_w]
         rfl
        refine pure_ (i := 3) (N := some 82) (v := ?_) (a' := ?_) #[true, true, true, true, false, false, false, false, false, false, false, false, false, false, false, false, false, false, false, false, false, false, false, false, false, false, false, false, false, false, false, false, false, false, false, false, false, false, false] rfl rfl (any_of HT_.out (by kernel_rfl)) (fun _ _ _ h => h) (Or.inl ⟨by rfl, ?_⟩) ?_ ?_
        rotate_left
        ·intro w'
         go_simp
         with_reducible rfl
        rotate_left
        ·simp only [Act.put, List.setIfInBounds_toArray, List.set_cons_zero, List.set_cons_succ, i64_w, i32_w]
         rfl
        refine pure_ (i := 4) (N := some 83) (v := ?_) (a' := ?_) #[true, true, true, true, true, false, false, false, false, false, false, false, false, false, false, false, false, false, false, false, false, false, false, false, false, false, false, false, false, false, false, false, false, false, false, false, false, false, false] rfl rfl (any_of HT_.out (by kernel_rfl)) (fun _ _ _ h => h) (Or.inl ⟨by rfl, ?_⟩) ?_ ?_
        rotate_left
        ·intro w'
         go_simp
         with_reducible rfl
        rotate_left
        ·simp only [Act.put, List.setIfInBounds_toArray, List.set_cons_zero, List.set_cons_succ, i64_w, i32_w]
         rfl
        refine pure_ (i := 5) (N := some 84) (v := ?_) (a' := ?_) #[true, true, true, true, true, true, false, false, false, false, false, false, false, false, false, false, false, false, false, false, false, false, false, false, false, false, false, false, false, false, false, false, false, false, false, false, false, false, false] rfl rfl (any_of HT_.out (by kernel_rfl)) (fun _ _ _ h => h) (Or.inl ⟨by rfl, ?_⟩) ?_ ?_
        rotate_left
        ·intro w'
         go_simp
         with_reducible rfl
        rotate_left
        ·simp only [Act.put, List.setIfInBounds_toArray, List.set_cons_zero, List.set_cons_succ, i64_w, i32_w]
         rfl
        refine pure_ (i := 6) (N := some 85) (v := ?_) (a' := ?_) #[true, true, true, true, true, true, true, false, false, false, false, false, false, false, false, false, false, false, false, false, false, false, false, false, false, false, false, false, false, false, false, false, false, false, false, false, false, false, false] rfl rfl (any_of HT_.out (by kernel_rfl)) (fun _ _ _ h => h) (Or.inl ⟨by rfl, ?_⟩) ?_ ?_
        rotate_left
        ·intro w'
         go_simp
         with_reducible rfl
        rotate_left
        ·simp only [Act.put, List.setIfInBounds_toArray, List.set_cons_zero, List.set_cons_succ, i64_w, i32_w]
         rfl
        refine pure_ (i := 7) (N := some 86) (v := ?_) (a' := ?_) #[true, true, true, true, true, true, true, true, false, false, false, false, false, false, false, false, false, false, false, false, false, false, false, false, false, false, false, false, false, false, false, false, false, false, false, false, false, false, false] rfl rfl (any_of HT_.out (by kernel_rfl)) (fun _ _ _ h => h) (Or.inl ⟨by rfl, ?_⟩) ?_ ?_
        rotate_left
        ·intro w'
         go_simp
         with_reducible rfl
        rotate_left
        ·simp only [Act.put, List.setIfInBounds_toArray, List.set_cons_zero, List.set_cons_succ, i64_w, i32_w]
         rfl
        refine pure_ (i := 8) (N := some 87) (v := ?_) (a' := ?_) #[true, true, true, true, true, true, true, true, true, false, false, false, false, false, false, false, false, false, false, false, false, false, false, false, false, false, false, false, false, false, false, false, false, false, false, false, false, false, false] rfl rfl (any_of HT_.out (by kernel_rfl)) (fun _ _ _ h => h) (Or.inl ⟨by rfl, ?_⟩) ?_ ?_
        rotate_left
        ·intro w'
         go_simp
         with_reducible rfl
        rotate_left
        ·simp only [Act.put, List.setIfInBounds_toArray, List.set_cons_zero, List.set_cons_succ, i64_w, i32_w]
         rfl
        refine pure_ (i := 9) (N := some 88) (v := ?_) (a' := ?_) #[true, true, true, true, true, true, true, true, true, true, false, false, false, false, false, false, false, false, false, false, false, false, false, false, false, false, false, false, false, false, false, false, false, false, false, false, false, false, false] rfl rfl (any_of HT_.out (by kernel_rfl)) (fun _ _ _ h => h) (Or.inl ⟨by rfl, ?_⟩) ?_ ?_
        rotate_left
        ·intro w'
         go_simp
         with_reducible rfl
        rotate_left
        ·simp only [Act.put, List.setIfInBounds_toArray, List.set_cons_zero, List.set_cons_succ, i64_w, i32_w]
         rfl
        refine pure_ (i := 10) (N := some 89) (v := ?_) (a' := ?_) #[true, true, true, true, true, true, true, true, true, true, true, false, false, false, false, false, false, false, false, false, false, false, false, false, false, false, false, false, false, false, false, false, false, false, false, false, false, false, false] rfl rfl (any_of HT_.out (by kernel_rfl)) (fun _ _ _ h => h) (Or.inl ⟨by rfl, ?_⟩) ?_ ?_
        rotate_left
        ·intro w'
         go_simp
         with_reducible rfl
        rotate_left
        ·simp only [Act.put, List.setIfInBounds_toArray, List.set_cons_zero, List.set_cons_succ, i64_w, i32_w]
         rfl
        refine pure_ (i := 11) (N := some 90) (v := ?_) (a' := ?_) #[true, true, true, true, true, true, true, true, true, true, true, true, false, false, false, false, false, false, false, false, false, false, false, false, false, false, false, false, false, false, false, false, false, false, false, false, false, false, false] rfl rfl (any_of HT_.out (by kernel_rfl)) (fun _ _ _ h => h) (Or.inl ⟨by rfl, ?_⟩) ?_ ?_
        rotate_left
        ·intro w'
         go_simp
         with_reducible rfl
        rotate_left
        ·simp only [Act.put, List.setIfInBounds_toArray, List.set_cons_zero, List.set_cons_succ, i64_w, i32_w]
         rfl
        refine pure_ (i := 12) (N := some 91) (v := ?_) (a' := ?_) #[true, true, true, true, true, true, true, true, true, true, true, true, true, false, false, false, false, false, false, false, false, false, false, false, false, false, false, false, false, false, false, false, false, false, false, false, false, false, false] rfl rfl (any_of HT_.out (by kernel_rfl)) (fun _ _ _ h => h) (Or.inl ⟨by rfl, ?_⟩) ?_ ?_
        rotate_left
        ·intro w'
         go_simp
         with_reducible rfl
        rotate_left
        ·simp only [Act.put, List.setIfInBounds_toArray, List.set_cons_zero, List.set_cons_succ, i64_w, i32_w]
         rfl
        refine pure_ (i := 13) (N := some 92) (v := ?_) (a' := ?_) #[true, true, true, true, true, true, true, true, true, true, true, true, true, true, false, false, false, false, false, false, false, false, false, false, false, false, false, false, false, false, false, false, false, false, false, false, false, false, false] rfl rfl (any_of HT_.out (by kernel_rfl)) (fun _ _ _ h => h) (Or.inl ⟨by rfl, ?_⟩) ?_ ?_
        rotate_left
        ·intro w'
         go_simp
         with_reducible rfl
        rotate_left
        ·simp only [Act.put, List.setIfInBounds_toArray, List.set_cons_zero, List.set_cons_succ, i64_w, i32_w]
         rfl
        refine pure_ (i := 14) (N := some 93) (v := ?_) (a' := ?_) #[true, true, true, true, true, true, true, true, true, true, true, true, true, true, true, false, false, false, false, false, false, false, false, false, false, false, false, false, false, false, false, false, false, false, false, false, false, false, false] rfl rfl (any_of HT_.out (by kernel_rfl)) (fun _ _ _ h => h) (Or.inl ⟨by rfl, ?_⟩) ?_ ?_
        rotate_left
        ·intro w'
         go_simp
         with_reducible rfl
        rotate_left
        ·simp only [Act.put, List.setIfInBounds_toArray, List.set_cons_zero, List.set_cons_succ, i64_w, i32_w]
         rfl
        refine pure_ (i := 15) (N := some 94) (v := ?_) (a' := ?_) #[true, true, true, true, true, true, true, true, true, true, true, true, true, true, true, true, false, false, false, false, false, false, false, false, false, false, false, false, false, false, false, false, false, false, false, false, false, false, false] rfl rfl (any_of HT_.out (by kernel_rfl)) (fun _ _ _ h => h) (Or.inl ⟨by rfl, ?_⟩) ?_ ?_
        rotate_left
        ·intro w'
         go_simp
         with_reducible rfl
        rotate_left
        ·simp only [Act.put, List.setIfInBounds_toArray, List.set_cons_zero, List.set_cons_succ, i64_w, i32_w]
         rfl
        refine pure_ (i := 16) (N := some 95) (v := ?_) (a' := ?_) #[true, true, true, true, true, true, true, true, true, true, true, true, true, true, true, true, true, false, false, false, false, false, false, false, false, false, false, false, false, false, false, false, false, false, false, false, false, false, false] rfl rfl (any_of HT_.out (by kernel_rfl)) (fun _ _ _ h => h) (Or.inl ⟨by rfl, ?_⟩) ?_ ?_
        rotate_left
        ·intro w'
         go_simp
         with_reducible rfl
        rotate_left
        ·simp only [Act.put, List.setIfInBounds_toArray, List.set_cons_zero, List.set_cons_succ, i64_w, i32_w]
         rfl
        refine pure_ (i := 17) (N := some 96) (v := ?_) (a' := ?_) #[true, true, true, true, true, true, true, true, true, true, true, true, true, true, true, true, true, true, false, false, false, false, false, false, false, false, false, false, false, false, false, false, false, false, false, false, false, false, false] rfl rfl (any_of HT_.out (by kernel_rfl)) (fun _ _ _ h => h) (Or.inl ⟨by rfl, ?_⟩) ?_ ?_
        rotate_left
        ·intro w'
         go_simp
         with_reducible rfl
        rotate_left
        ·simp only [Act.put, List.setIfInBounds_toArray, List.set_cons_zero, List.set_cons_succ, i64_w, i32_w]
         rfl
        refine pure_ (i := 18) (N := some 97) (v := ?_) (a' := ?_) #[true, true, true, true, true, true, true, true, true, true, true, true, true, true, true, true, true, true, true, false, false, false, false, false, false, false, false, false, false, false, false, false, false, false, false, false, false, false, false] rfl rfl (any_of HT_.out (by kernel_rfl)) (fun _ _ _ h => h) (Or.inl ⟨by rfl, ?_⟩) ?_ ?_
        rotate_left
        ·intro w'
         go_simp
         with_reducible rfl
        rotate_left
        ·simp only [Act.put, List.setIfInBounds_toArray, List.set_cons_zero, List.set_cons_succ, i64_w, i32_w]
         rfl
        refine pure_ (i := 19) (N := some 98) (v := ?_) (a' := ?_) #[true, true, true, true, true, true, true, true, true, true, true, true, true, true, true, true, true, true, true, true, false, false, false, false, false, false, false, false, false, false, false, false, false, false, false, false, false, false, false] rfl rfl (any_of HT_.out (by kernel_rfl)) (fun _ _ _ h => h) (Or.inl ⟨by rfl, ?_⟩) ?_ ?_
        rotate_left
        ·intro w'
         go_simp
         with_reducible rfl
        rotate_left
        ·simp only [Act.put, List.setIfInBounds_toArray, List.set_cons_zero, List.set_cons_succ, i64_w, i32_w]
         rfl
        refine pure_ (i := 20) (N := some 99) (v := ?_) (a' := ?_) #[true, true, true, true, true, true, true, true, true, true, true, true, true, true, true, true, true, true, true, true, true, false, false, false, false, false, false, false, false, false, false, false, false, false, false, false, false, false, false] rfl rfl (any_of HT_.out (by kernel_rfl)) (fun _ _ _ h => h) (Or.inl ⟨by rfl, ?_⟩) ?_ ?_
        rotate_left
        ·intro w'
         go_simp
         with_reducible rfl
        rotate_left
        ·simp only [Act.put, List.setIfInBounds_toArray, List.set_cons_zero, List.set_cons_succ, i64_w, i32_w]
         rfl
        refine pure_ (i := 21) (N := some 100) (v := ?_) (a' := ?_) #[true, true, true, true, true, true, true, true, true, true, true, true, true, true, true, true, true, true, true, true, true, true, false, false, false, false, false, false, false, false, false, false, false, false, false, false, false, false, false] rfl rfl (any_of HT_.out (by kernel_rfl)) (fun _ _ _ h => h) (Or.inl ⟨by rfl, ?_⟩) ?_ ?_
        rotate_left
        ·intro w'
         go_simp
         with_reducible rfl
        rotate_left
        ·simp only [Act.put, List.setIfInBounds_toArray, List.set_cons_zero, List.set_cons_succ, i64_w, i32_w]
         rfl
        refine take_ (i := 22) (N := some 101) (v := ?_) (a' := ?_) #[true, true, true, true, true, true, true, true, true, true, true, true, true, true, true, true, true, true, true, true, true, true, true, false, false, false, false, false, false, false, false, false, false, false, false, false, false, false, false] rfl rfl (take_ofW HT_.out HW_.out (by kernel_rfl)) (fun _ _ _ h => h) (Or.inl ⟨by rfl, ?_⟩) hHeld ?_ ?_
        rotate_left
        ·rintro w' ⟨s0, s1, s2, s3, s4, s5⟩
         go_simp
         with_reducible rfl
        rotate_left
        ·simp only [Act.put, List.setIfInBounds_toArray, List.set_cons_zero, List.set_cons_succ, i64_w, i32_w]
         rfl
        refine take_ (i := 23) (N := some 102) (v := ?_) (a' := ?_) #[true, true, true, true, true, true, true, true, true, true, true, true, true, true, true, true, true, true, true, true, true, true, true, true, false, false, false, false, false, false, false, false, false, false, false, false, false, false, false] rfl rfl (take_ofW HT_.out HW_.out (by kernel_rfl)) (fun _ _ _ h => h) (Or.inl ⟨by rfl, ?_⟩) hHeld ?_ ?_
        rotate_left
        ·rintro w' ⟨s0, s1, s2, s3, s4, s5⟩
         go_simp
         with_reducible rfl
        rotate_left
        ·simp only [Act.put, List.setIfInBounds_toArray, List.set_cons_zero, List.set_cons_succ, i64_w, i32_w]
         rfl
        refine pure_ (i := 24) (N := some 103) (v := ?_) (a' := ?_) #[true, true, true, true, true, true, true, true, true, true, true, true, true, true, true, true, true, true, true, true, true, true, true, true, true, false, false, false, false, false, false, false, false, false, false, false, false, false, false] rfl rfl (any_of HT_.out (by kernel_rfl)) (fun _ _ _ h => h) (Or.inl ⟨by rfl, ?_⟩) ?_ ?_
        rotate_left
        ·intro w'
         go_simp
         with_reducible rfl
        rotate_left
        ·simp only [Act.put, List.setIfInBounds_toArray, List.set_cons_zero, List.set_cons_succ, i64_w, i32_w]
         rfl
        refine pure_ (i := 25) (N := some 104) (v := ?_) (a' := ?_) #[true, true, true, true, true, true, true, true, true, true, true, true, true, true, true, true, true, true, true, true, true, true, true, true, true, true, false, false, false, false, false, false, false, false, false, false, false, false, false] rfl rfl (any_of HT_.out (by kernel_rfl)) (fun _ _ _ h => h) (Or.inl ⟨by rfl, ?_⟩) ?_ ?_
        rotate_left
        ·intro w'
         go_simp
         with_reducible rfl
        rotate_left
        ·simp only [Act.put, List.setIfInBounds_toArray, List.set_cons_zero, List.set_cons_succ, i64_w, i32_w]
         rfl
        refine pure_ (i := 26) (N := some 105) (v := ?_) (a' := ?_) #[true, true, true, true, true, true, true, true, true, true, true, true, true, true, true, true, true, true, true, true, true, true, true, true, true, true, true, false, false, false, false, false, false, false, false, false, false, false, false] rfl rfl (any_of HT_.out (by kernel_rfl)) (fun _ _ _ h => h) (Or.inl ⟨by rfl, ?_⟩) ?_ ?_
        rotate_left
        ·intro w'
         go_simp
         with_reducible rfl
        rotate_left
        ·simp only [Act.put, List.setIfInBounds_toArray, List.set_cons_zero, List.set_cons_succ, i64_w, i32_w]
         rfl
        refine pure_ (i := 27) (N := some 106) (v := ?_) (a' := ?_) #[true, true, true, true, true, true, true, true, true, true, true, true, true, true, true, true, true, true, true, true, true, true, true, true, true, true, true, true, false, false, false, false, false, false, false, false, false, false, false] rfl rfl (any_of HT_.out (by kernel_rfl)) (fun _ _ _ h => h) (Or.inl ⟨by rfl, ?_⟩) ?_ ?_
        rotate_left
        ·intro w'
         go_simp
         with_reducible rfl
        rotate_left
        ·simp only [Act.put, List.setIfInBounds_toArray, List.set_cons_zero, List.set_cons_succ, i64_w, i32_w]
         rfl
        refine pure_ (i := 28) (N := some 107) (v := ?_) (a' := ?_) #[true, true, true, true, true, true, true, true, true, true, true, true, true, true, true, true, true, true, true, true, true, true, true, true, true, true, true, true, true, false, false, false, false, false, false, false, false, false, false] rfl rfl (any_of HT_.out (by kernel_rfl)) (fun _ _ _ h => h) (Or.inl ⟨by rfl, ?_⟩) ?_ ?_
        rotate_left
        ·intro w'
         go_simp
         with_reducible rfl
        rotate_left
        ·simp only [Act.put, List.setIfInBounds_toArray, List.set_cons_zero, List.set_cons_succ, i64_w, i32_w]
         rfl
        refine pure_ (i := 29) (N := some 108) (v := ?_) (a' := ?_) #[true, true, true, true, true, true, true, true, true, true, true, true, true, true, true, true, true, true, true, true, true, true, true, true, true, true, true, true, true, true, false, false, false, false, false, false, false, false, false] rfl rfl (any_of HT_.out (by kernel_rfl)) (fun _ _ _ h => h) (Or.inl ⟨by rfl, ?_⟩) ?_ ?_
        rotate_left
        ·intro w'
         go_simp
         with_reducible rfl
        rotate_left
        ·simp only [Act.put, List.setIfInBounds_toArray, List.set_cons_zero, List.set_cons_succ, i64_w, i32_w]
         rfl
        refine pure_ (i := 30) (N := some 109) (v := ?_) (a' := ?_) #[true, true, true, true, true, true, true, true, true, true, true, true, true, true, true, true, true, true, true, true, true, true, true, true, true, true, true, true, true, true, true, false, false, false, false, false, false, false, false] rfl rfl (any_of HT_.out (by kernel_rfl)) (fun _ _ _ h => h) (Or.inl ⟨by rfl, ?_⟩) ?_ ?_
        rotate_left
        ·intro w'
         go_simp
         with_reducible rfl
        rotate_left
        ·simp only [Act.put, List.setIfInBounds_toArray, List.set_cons_zero, List.set_cons_succ, i64_w, i32_w]
         rfl
        refine pure_ (i := 31) (N := some 110) (v := ?_) (a' := ?_) #[true, true, true, true, true, true, true, true, true, true, true, true, true, true, true, true, true, true, true, true, true, true, true, true, true, true, true, true, true, true, true, true, false, false, false, false, false, false, false] rfl rfl (any_of HT_.out (by kernel_rfl)) (fun _ _ _ h => h) (Or.inl ⟨by rfl, ?_⟩) ?_ ?_
        rotate_left
        ·intro w'
         go_simp
         with_reducible rfl
        rotate_left
        ·simp only [Act.put, List.setIfInBounds_toArray, List.set_cons_zero, List.set_cons_succ, i64_w, i32_w]
         rfl
        refine take_ (i := 32) (N := some 111) (v := ?_) (a' := ?_) #[true, true, true, true, true, true, true, true, true, true, true, true, true, true, true, true, true, true, true, true, true, true, true, true, true, true, true, true, true, true, true, true, true, false, false, false, false, false, false] rfl rfl (take_ofW HT_.out HW_.out (by kernel_rfl)) (fun _ _ _ h => h) (Or.inl ⟨by rfl, ?_⟩) hHeld ?_ ?_
        rotate_left
        ·rintro w' ⟨s0, s1, s2, s3, s4, s5⟩
         go_simp
         with_reducible rfl
        rotate_left
        ·simp only [Act.put, List.setIfInBounds_toArray, List.set_cons_zero, List.set_cons_succ, i64_w, i32_w]
         rfl
        refine take_ (i := 34) (N := some 113) (v := ?_) (a' := ?_) #[true, true, true, true, true, true, true, true, true, true, true, true, true, true, true, true, true, true, true, true, true, true, true, true, true, true, true, true, true, true, true, true, true, false, true, false, false, false, false] rfl rfl (take_ofW HT_.out HW_.out (by kernel_rfl)) (fun _ _ _ h => h) (Or.inl ⟨by rfl, ?_⟩) hHeld ?_ ?_
        rotate_left
        ·rintro w' ⟨s0, s1, s2, s3, s4, s5⟩
         go_simp
         with_reducible rfl
        rotate_left
        ·simp only [Act.put, List.setIfInBounds_toArray, List.set_cons_zero, List.set_cons_succ, i64_w, i32_w]
         rfl
        refine one_ (i := 33) (N := some 112) #[true, true, true, true, true, true, true, true, true, true, true, true, true, true, true, true, true, true, true, true, true, true, true, true, true, true, true, true, true, true, true, true, true, true, true, false, false, false, false] rfl rfl (one_of HT_.out (by kernel_rfl)) (by decide) (fun K hK => ?_)
        refine goes_ Try.func12 (by kernel_rfl) rfl #[.agg #[.int .i64 a6_0, .int .i64 a6_1]] (by rfl) rfl rfl (by (try simp only [List.map_toArray, List.map_cons, List.map_nil]); first | done | rfl | (simp only [List.length_drop, List.length_take]; rfl)) ?_
        with_reducible refine (member_Clique.calls a6_0 a6_1 t242 _ A22.out).mono ?_
        rintro e w58 ⟨rfl, hb⟩
        refine ⟨_, rfl, ?_⟩
        have n0_ := Aside0.mk (blk_below (g := gb222) (o := .cells #[.int .i64 a0_0, .int .i64 a0_1, .int .i64 a0_2, .int .i64 a0_3, .int .i64 a0_4] 32 (0, 0)) (by (with_reducible repeat (first | refine blk_drewN ?_ _ | refine blk_drew ?_ | refine blk_alloc ?_ _)); exact BK222.out) hb)
        have n1_ := Aside0.mk (blk_below (g := gb223) (o := .cells #[.int .i64 a4_0, .int .i64 a4_1, .int .u64 a4_2, .int .u16 a4_3] 36 (0, 0)) (by (with_reducible repeat (first | refine blk_drewN ?_ _ | refine blk_drew ?_ | refine blk_alloc ?_ _)); exact BK223.out) hb)
        have n2_ := Aside0.mk (blk_below (g := gb224) (o := .cells #[.int .i64 a6_0, .int .i64 a6_1] 25 (0, 0)) (by (with_reducible repeat (first | refine blk_drewN ?_ _ | refine blk_drew ?_ | refine blk_alloc ?_ _)); exact BK224.out) hb)
        have n3_ := Aside0.mk (blk_below (g := gb237) (o := .cells #[.int .i64 t234, .int .i64 t235] 25 (0, 0)) (by (with_reducible repeat (first | refine blk_drewN ?_ _ | refine blk_drew ?_ | refine blk_alloc ?_ _)); exact BK237.out) hb)
        have n4_ := Aside0.mk (blk_below (g := gb241) (o := .cells #[.int .i64 t238, .int .i64 t239] 25 (0, 0)) (by (with_reducible repeat (first | refine blk_drewN ?_ _ | refine blk_drew ?_ | refine blk_alloc ?_ _)); exact BK241.out) hb)
        have n5_ := Aside0.mk (below_step (by repeat (first | (with_reducible first | exact HB.out | apply below_alloc | apply pw_below_drewN | apply below_drew1 | refine below_set ?_ GE222.out | refine below_set ?_ GE223.out | refine below_set ?_ GE224.out | refine below_set ?_ GE237.out | refine below_set ?_ GE241.out) | exact HB.out)) hb)
        clear BK222
        clear BK223
        clear BK224
        clear BK237
        clear BK241
        clear HB
        have BK222 := n0_
        have BK223 := n1_
        have BK224 := n2_
        have BK237 := n3_
        have BK241 := n4_
        have HB := n5_
        clear n0_ n1_ n2_ n3_ n4_ n5_
        (try clear hb)
        (try clear hb2)
        (try clear hk)
        (try clear hi)
        refine hK.out _ _ ⟨(blk_cell BK237.out 0).trans rfl, (blk_cell BK237.out 1).trans rfl, (blk_cell BK241.out 0).trans rfl, (blk_cell BK241.out 1).trans rfl, (blk_cell BK224.out 0).trans rfl, (blk_cell BK224.out 1).trans rfl⟩ (fun hHeld => ?_)
        clear hK K
        refine norm_ (a' := ?_) ?_ ?_
        rotate_left
        ·show Act.put _ (some 112) _ = _
         simp only [Act.put, List.setIfInBounds_toArray, List.set_cons_zero, List.set_cons_succ, i64_w, i32_w]
         rfl
        refine one_ (i := 35) (N := some 114) #[true, true, true, true, true, true, true, true, true, true, true, true, true, true, true, true, true, true, true, true, true, true, true, true, true, true, true, true, true, true, true, true, true, true, true, true, false, false, false] rfl rfl (one_of HT_.out (by kernel_rfl)) (by decide) (fun K hK => ?_)
        refine goes_ Try.func22 (by kernel_rfl) rfl #[.agg #[.int .i64 a6_0, .int .i64 a6_1]] (by rfl) rfl rfl (by (try simp only [List.map_toArray, List.map_cons, List.map_nil]); first | done | rfl | (simp only [List.length_drop, List.length_take]; rfl)) ?_
        with_reducible refine (palletref10_Clique.calls a6_0 a6_1 t243 _ A23.out).mono ?_
        rintro e w59 ⟨rfl, hb⟩
        refine ⟨_, rfl, ?_⟩
        have n0_ := Aside0.mk (blk_below (g := gb222) (o := .cells #[.int .i64 a0_0, .int .i64 a0_1, .int .i64 a0_2, .int .i64 a0_3, .int .i64 a0_4] 32 (0, 0)) (by (with_reducible repeat (first | refine blk_drewN ?_ _ | refine blk_drew ?_ | refine blk_alloc ?_ _)); exact BK222.out) hb)
        have n1_ := Aside0.mk (blk_below (g := gb223) (o := .cells #[.int .i64 a4_0, .int .i64 a4_1, .int .u64 a4_2, .int .u16 a4_3] 36 (0, 0)) (by (with_reducible repeat (first | refine blk_drewN ?_ _ | refine blk_drew ?_ | refine blk_alloc ?_ _)); exact BK223.out) hb)
        have n2_ := Aside0.mk (blk_below (g := gb224) (o := .cells #[.int .i64 a6_0, .int .i64 a6_1] 25 (0, 0)) (by (with_reducible repeat (first | refine blk_drewN ?_ _ | refine blk_drew ?_ | refine blk_alloc ?_ _)); exact BK224.out) hb)
        have n3_ := Aside0.mk (blk_below (g := gb237) (o := .cells #[.int .i64 t234, .int .i64 t235] 25 (0, 0)) (by (with_reducible repeat (first | refine blk_drewN ?_ _ | refine blk_drew ?_ | refine blk_alloc ?_ _)); exact BK237.out) hb)
        have n4_ := Aside0.mk (blk_below (g := gb241) (o := .cells #[.int .i64 t238, .int .i64 t239] 25 (0, 0)) (by (with_reducible repeat (first | refine blk_drewN ?_ _ | refine blk_drew ?_ | refine blk_alloc ?_ _)); exact BK241.out) hb)
        have n5_ := Aside0.mk (below_step (by repeat (first | (with_reducible first | exact HB.out | apply below_alloc | apply pw_below_drewN | apply below_drew1 | refine below_set ?_ GE222.out | refine below_set ?_ GE223.out | refine below_set ?_ GE224.out | refine below_set ?_ GE237.out | refine below_set ?_ GE241.out) | exact HB.out)) hb)
        clear BK222
        clear BK223
        clear BK224
        clear BK237
        clear BK241
        clear HB
        have BK222 := n0_
        have BK223 := n1_
        have BK224 := n2_
        have BK237 := n3_
        have BK241 := n4_
        have HB := n5_
        clear n0_ n1_ n2_ n3_ n4_ n5_
        (try clear hb)
        (try clear hb2)
        (try clear hk)
        (try clear hi)
        refine hK.out _ _ ⟨(blk_cell BK237.out 0).trans rfl, (blk_cell BK237.out 1).trans rfl, (blk_cell BK241.out 0).trans rfl, (blk_cell BK241.out 1).trans rfl, (blk_cell BK224.out 0).trans rfl, (blk_cell BK224.out 1).trans rfl⟩ (fun hHeld => ?_)
        clear hK K
        refine norm_ (a' := ?_) ?_ ?_
        rotate_left
        ·show Act.put _ (some 114) _ = _
         simp only [Act.put, List.setIfInBounds_toArray, List.set_cons_zero, List.set_cons_succ, i64_w, i32_w]
         rfl
        refine pure_ (i := 36) (N := some 115) (v := ?_) (a' := ?_) #[true, true, true, true, true, true, true, true, true, true, true, true, true, true, true, true, true, true, true, true, true, true, true, true, true, true, true, true, true, true, true, true, true, true, true, true, true, false, false] rfl rfl (any_of HT_.out (by kernel_rfl)) (fun _ _ _ h => h) (Or.inl ⟨by rfl, ?_⟩) ?_ ?_
        rotate_left
        ·intro w'
         go_simp
         with_reducible rfl
        rotate_left
        ·simp only [Act.put, List.setIfInBounds_toArray, List.set_cons_zero, List.set_cons_succ, i64_w, i32_w]
         rfl
        refine pure_ (i := 37) (N := some 116) (v := ?_) (a' := ?_) #[true, true, true, true, true, true, true, true, true, true, true, true, true, true, true, true, true, true, true, true, true, true, true, true, true, true, true, true, true, true, true, true, true, true, true, true, true, true, false] rfl rfl (any_of HT_.out (by kernel_rfl)) (fun _ _ _ h => h) (Or.inl ⟨by rfl, ?_⟩) ?_ ?_
        rotate_left
        ·intro w'
         go_simp
         with_reducible rfl
        rotate_left
        ·simp only [Act.put, List.setIfInBounds_toArray, List.set_cons_zero, List.set_cons_succ, i64_w, i32_w]
         rfl
        refine pure_ (i := 38) (N := some 14) (v := ?_) (a' := ?_) #[true, true, true, true, true, true, true, true, true, true, true, true, true, true, true, true, true, true, true, true, true, true, true, true, true, true, true, true, true, true, true, true, true, true, true, true, true, true, true] rfl rfl (any_of HT_.out (by kernel_rfl)) (fun _ _ _ h => h) (Or.inl ⟨by rfl, ?_⟩) ?_ ?_
        rotate_left
        ·intro w'
         go_simp
         with_reducible rfl
        rotate_left
        ·simp only [Act.put, List.setIfInBounds_toArray, List.set_cons_zero, List.set_cons_succ, i64_w, i32_w]
         rfl
        refine done_ (done_of HT_.out (by kernel_rfl)) ?_
        try go_wp2
        go_ret
        exact ⟨by first | rfl | (simp [errW_none, errW_some] <;> rfl) | (simp [*, errW_none, errW_some] <;> rfl), by repeat (first | (with_reducible first | exact HB.out | apply below_alloc | apply pw_below_drewN | apply below_drew1 | refine below_set ?_ GE222.out | refine below_set ?_ GE223.out | refine below_set ?_ GE224.out | refine below_set ?_ GE237.out | refine below_set ?_ GE241.out) | exact HB.out)⟩
       ·rw [if_neg c21] at H
        have c21b0 : (t236 == t240) = false := beq_eq_false_iff_ne.mpr c21
        have c21b1 : (t236 != t240) = true := bne_iff_ne.mpr c21
        obtain rfl := Option.some.inj H
        exact absurd hr_.out (by decide)
      ·rw [if_neg c20] at H
       have c20b0 : (t234 == t238 && (t235 == t239)) = false := by simpa using c20
       (try (have c20b1 : decide (t234 = t238 && (t235 == t239)) = false := by simpa using c20))
       (try (have c20b2 : (t234 == t238 && (t235 == t239)) = false := by simpa using c20))
       (try (have c20b3 : ¬ (t234 = t238 && (t235 == t239)) := by simpa using c20))
       clear c20
       obtain rfl := Option.some.inj H
       exact absurd hr_.out (by decide)
     ·rw [if_neg c19] at H
      have c19b0 : (t231 == t233) = false := beq_eq_false_iff_ne.mpr c19
      have c19b1 : (t231 != t233) = true := bne_iff_ne.mpr c19
      obtain rfl := Option.some.inj H
      exact absurd hr_.out (by decide)
    ·rw [if_neg c18] at H
     have c18b0 : (t230 == t232) = false := beq_eq_false_iff_ne.mpr c18
     have c18b1 : (t230 != t232) = true := bne_iff_ne.mpr c18
     obtain rfl := Option.some.inj H
     exact absurd hr_.out (by decide)
   ·rw [if_neg c17] at H
    have c17b0 : (t227 == t229) = false := beq_eq_false_iff_ne.mpr c17
    have c17b1 : (t227 != t229) = true := bne_iff_ne.mpr c17
    obtain rfl := Option.some.inj H
    exact absurd hr_.out (by decide)
  ·rw [if_neg c16] at H
   have c16b0 : (t226 == t228) = false := beq_eq_false_iff_ne.mpr c16
   have c16b1 : (t226 != t228) = true := bne_iff_ne.mpr c16
   obtain rfl := Option.some.inj H
   exact absurd hr_.out (by decide)
 ·replace c9 := Bool.eq_false_iff.mpr c9
  subst c9
  have H1 : (some false) = some r := by rw [if_neg (show ¬ (false = true) by decide)] at H; exact H
  clear H
  have H := H1
  clear H1
  obtain rfl := Option.some.inj H
  exact absurd hr_.out (by decide)

end Go.Proofs.Ytcanccdhedmdmaa.Print
