-- PRINTED by print.py (a twelfth state) out of the translation. Not trusted: Lean checks it.
import Derived.Test.YtpfkiljakiiieaaPrint0
import Derived.Test.YtpfkiljakiiieaaPrint2
import Derived.Test.YtpfkiljakiiieaaPrint3
import Derived.Test.YtpfkiljakiiieaaPrint12
import Derived.Test.YtpfkiljakiiieaaPrint18
import Derived.Test.YtpfkiljakiiieaaPrint20
namespace Go.Proofs.Ytpfkiljakiiieaa.Print
open Go.RowKit Go.Proofs.YtpfkiljakiiieaaW.PrintWords Go.Proofs.YtpfkiljakiiieaaW.PrintLast Go.Proofs.YtpfkiljakiiieaaW.PrintMore Go.Proofs.YtpfkiljakiiieaaX
attribute [local go_sem] max2_int min2_int max_two min_two max_three min_three max_four min_four   -- for this text's walks alone
set_option linter.unusedVariables false
set_option linter.unusedSimpArgs false

/-! ### palletlaw12_GuardChains: function 10 -/
mutual
def palletlaw12_GuardChains.j0 : Nat → Int → List Int → Bool → Bool → Bool → Bool → Int → Int → Int → Int → Int → Int → Int → Option (Bool)
 | 0, _, _, _, _, _, _, _, _, _, _, _, _, _ => none
 | k + 1, x2, x3, x9, x64, x353000, x353001, x353002, x353003, x354000, x354001, x354002, x354003, x354004 => if x64 = true then (some x9) else (palletlaw12_GuardChains.l0 k x2 x9 x3 (x3.length : Int) 0 x353000 x353001 x353002 x353003 x354000 x354001 x354002 x354003 x354004)
def palletlaw12_GuardChains.l0 : Nat → Int → Bool → List Int → Int → Int → Bool → Bool → Int → Int → Int → Int → Int → Int → Int → Option (Bool)
 | 0, _, _, _, _, _, _, _, _, _, _, _, _, _, _ => none
 | k + 1, x2, x9, x66, x67, x68, x353000, x353001, x353002, x353003, x354000, x354001, x354002, x354003, x354004 => if x68 < x67 then (if 0 ≤ x68 then (if x68 < (x66.length : Int) then ((medl_Owner.f x354000 x354001 x354002 x354003 x354004 (IntKind.u64.wrap (x353002 + 1))).bind fun bt358 => (if (wrap64 ((wrap64 ((wrap64 (2 * x354004)) * x2)) + 1)) = 0 then (none) else ((guard_Pass.f k x353000 x353001 x353002 x353003 x354000 x354001 x354002 x354003 x354004 x2 bt358.1 0 0 0 0 (wrap64 ((wrap64 ((wrap64 ((wrap64 (x353003 + (wrap64 (x354001 * x2)))) + (wrap64 (x354002 * x2)))) + (Int.tmod (wrap64 ((Int.tmod (rd x66 x68) (wrap64 ((wrap64 ((wrap64 (2 * x354004)) * x2)) + 1))) + (wrap64 ((wrap64 ((wrap64 (2 * x354004)) * x2)) + 1)))) (wrap64 ((wrap64 ((wrap64 (2 * x354004)) * x2)) + 1))))) - (wrap64 (x354004 * x2))))).bind fun bt360 => (if bt358.2 = 0 then (if bt360.2.2.2.2.2 = 0 then (if bt360.2.2.2.2.1 = true then (if bt360.2.2.1 = (IntKind.u64.wrap (x353002 + 1)) then (if bt360.2.2.2.1 = (wrap64 ((wrap64 ((wrap64 ((wrap64 ((wrap64 (x353003 + (wrap64 (x354001 * x2)))) + (wrap64 (x354002 * x2)))) + (Int.tmod (wrap64 ((Int.tmod (rd x66 x68) (wrap64 ((wrap64 ((wrap64 (2 * x354004)) * x2)) + 1))) + (wrap64 ((wrap64 ((wrap64 (2 * x354004)) * x2)) + 1)))) (wrap64 ((wrap64 ((wrap64 (2 * x354004)) * x2)) + 1))))) - (wrap64 (x354004 * x2)))) - (wrap64 (x354002 * x2)))) then (palletlaw12_GuardChains.l0 k x2 x9 x66 x67 (wrap64 (x68 + 1)) bt360.1 bt360.2.1 bt360.2.2.1 bt360.2.2.2.1 x354000 x354001 x354002 x354003 x354004) else (some false)) else (some false)) else (some false)) else (some false)) else (some false))))) else (none)) else (none)) else (some x9)
end
def palletlaw12_GuardChains.f (k : Nat) (a0_0 : Bool) (a0_1 : Bool) (a0_2 : Int) (a0_3 : Int) (a1_0 : Int) (a1_1 : Int) (a1_2 : Int) (a1_3 : Int) (a1_4 : Int) (a2 : Int) (l3 : List Int) : Option (Bool) := (palletlaw12_live.f k).bind fun t354 => (if t354 = true then ((medl_Check.f a1_0 a1_1 a1_2 a1_3 a1_4).bind fun t355 => (if t355 = 0 then (if a2 < 1 then (palletlaw12_GuardChains.j0 k a2 l3 t354 true true a0_1 a0_2 a0_3 a1_0 a1_1 a1_2 a1_3 a1_4) else (if a2 > 1000 then (palletlaw12_GuardChains.j0 k a2 l3 t354 true true a0_1 a0_2 a0_3 a1_0 a1_1 a1_2 a1_3 a1_4) else ((guard_Check.f k true a0_1 a0_2 a0_3).bind fun t356 => (if t356 = 0 then (if a0_1 = true then (if a0_3 < 0 then (palletlaw12_GuardChains.j0 k a2 l3 t354 true true a0_1 a0_2 a0_3 a1_0 a1_1 a1_2 a1_3 a1_4) else (if a0_3 > 1125899906842624 then (palletlaw12_GuardChains.j0 k a2 l3 t354 true true a0_1 a0_2 a0_3 a1_0 a1_1 a1_2 a1_3 a1_4) else (if a0_2 > 1073741824 then (palletlaw12_GuardChains.j0 k a2 l3 t354 true true a0_1 a0_2 a0_3 a1_0 a1_1 a1_2 a1_3 a1_4) else (palletlaw12_GuardChains.j0 k a2 l3 t354 (decide ((l3.length : Int) > 50)) true a0_1 a0_2 a0_3 a1_0 a1_1 a1_2 a1_3 a1_4)))) else (palletlaw12_GuardChains.j0 k a2 l3 t354 true true a0_1 a0_2 a0_3 a1_0 a1_1 a1_2 a1_3 a1_4)) else (palletlaw12_GuardChains.j0 k a2 l3 t354 true true a0_1 a0_2 a0_3 a1_0 a1_1 a1_2 a1_3 a1_4))))) else (palletlaw12_GuardChains.j0 k a2 l3 t354 true true a0_1 a0_2 a0_3 a1_0 a1_1 a1_2 a1_3 a1_4))) else (some false))
theorem palletlaw12_GuardChains.mono_l : ∀ k, (∀ y0 y1 y2 y3 y4 y5 y6 y7 y8 y9 y10 y11 y12, LeO (palletlaw12_GuardChains.j0 k y0 y1 y2 y3 y4 y5 y6 y7 y8 y9 y10 y11 y12) (palletlaw12_GuardChains.j0 (k + 1) y0 y1 y2 y3 y4 y5 y6 y7 y8 y9 y10 y11 y12)) ∧ (∀ y0 y1 y2 y3 y4 y5 y6 y7 y8 y9 y10 y11 y12 y13, LeO (palletlaw12_GuardChains.l0 k y0 y1 y2 y3 y4 y5 y6 y7 y8 y9 y10 y11 y12 y13) (palletlaw12_GuardChains.l0 (k + 1) y0 y1 y2 y3 y4 y5 y6 y7 y8 y9 y10 y11 y12 y13))
 | 0 => ⟨fun _ _ _ _ _ _ _ _ _ _ _ _ _ r h => by simp [palletlaw12_GuardChains.j0] at h, fun _ _ _ _ _ _ _ _ _ _ _ _ _ _ r h => by simp [palletlaw12_GuardChains.l0] at h⟩
 | k + 1 => by
  obtain ⟨ih0, ih1⟩ := palletlaw12_GuardChains.mono_l k
  refine ⟨?_, ?_⟩
  ·intro y0 y1 y2 y3 y4 y5 y6 y7 y8 y9 y10 y11 y12
   unfold palletlaw12_GuardChains.j0
   repeat' first
   | (with_reducible exact ih0 _ _ _ _ _ _ _ _ _ _ _ _ _)
   | (with_reducible exact ih1 _ _ _ _ _ _ _ _ _ _ _ _ _ _)
   | (with_reducible exact guard_Check.mono _ _ _ _ _)
   | (with_reducible exact guard_Pass.mono _ _ _ _ _ _ _ _ _ _ _ _ _ _ _ _ _)
   | (with_reducible exact palletlaw12_live.mono _)
   | (with_reducible exact LeO.refl _)
   | (with_reducible exact LeO.none _)
   | (with_reducible refine LeO.ite ?_ ?_)
   | (with_reducible refine LeO.bind ?_ (fun _ => ?_))
   | exact ih0 _ _ _ _ _ _ _ _ _ _ _ _ _
   | exact ih1 _ _ _ _ _ _ _ _ _ _ _ _ _ _
   | exact guard_Check.mono _ _ _ _ _
   | exact guard_Pass.mono _ _ _ _ _ _ _ _ _ _ _ _ _ _ _ _ _
   | exact palletlaw12_live.mono _
   | exact LeO.none _
   | refine LeO.ite ?_ ?_
   | refine LeO.bind ?_ (fun _ => ?_)
  ·intro y0 y1 y2 y3 y4 y5 y6 y7 y8 y9 y10 y11 y12 y13
   unfold palletlaw12_GuardChains.l0
   repeat' first
   | (with_reducible exact ih0 _ _ _ _ _ _ _ _ _ _ _ _ _)
   | (with_reducible exact ih1 _ _ _ _ _ _ _ _ _ _ _ _ _ _)
   | (with_reducible exact guard_Check.mono _ _ _ _ _)
   | (with_reducible exact guard_Pass.mono _ _ _ _ _ _ _ _ _ _ _ _ _ _ _ _ _)
   | (with_reducible exact palletlaw12_live.mono _)
   | (with_reducible exact LeO.refl _)
   | (with_reducible exact LeO.none _)
   | (with_reducible refine LeO.ite ?_ ?_)
   | (with_reducible refine LeO.bind ?_ (fun _ => ?_))
   | exact ih0 _ _ _ _ _ _ _ _ _ _ _ _ _
   | exact ih1 _ _ _ _ _ _ _ _ _ _ _ _ _ _
   | exact guard_Check.mono _ _ _ _ _
   | exact guard_Pass.mono _ _ _ _ _ _ _ _ _ _ _ _ _ _ _ _ _
   | exact palletlaw12_live.mono _
   | exact LeO.none _
   | refine LeO.ite ?_ ?_
   | refine LeO.bind ?_ (fun _ => ?_)
theorem palletlaw12_GuardChains.mono : ∀ a0 a1 a2 a3 a4 a5 a6 a7 a8 a9 a10 k, LeO (palletlaw12_GuardChains.f k a0 a1 a2 a3 a4 a5 a6 a7 a8 a9 a10) (palletlaw12_GuardChains.f (k + 1) a0 a1 a2 a3 a4 a5 a6 a7 a8 a9 a10) := by
 intro a0 a1 a2 a3 a4 a5 a6 a7 a8 a9 a10 k
 obtain ⟨ih0, ih1⟩ := palletlaw12_GuardChains.mono_l k
 unfold palletlaw12_GuardChains.f
 repeat' first
   | (with_reducible exact ih0 _ _ _ _ _ _ _ _ _ _ _ _ _)
   | (with_reducible exact ih1 _ _ _ _ _ _ _ _ _ _ _ _ _ _)
   | (with_reducible exact guard_Check.mono _ _ _ _ _)
   | (with_reducible exact guard_Pass.mono _ _ _ _ _ _ _ _ _ _ _ _ _ _ _ _ _)
   | (with_reducible exact palletlaw12_live.mono _)
   | (with_reducible exact LeO.refl _)
   | (with_reducible exact LeO.none _)
   | (with_reducible refine LeO.ite ?_ ?_)
   | (with_reducible refine LeO.bind ?_ (fun _ => ?_))
   | exact ih0 _ _ _ _ _ _ _ _ _ _ _ _ _
   | exact ih1 _ _ _ _ _ _ _ _ _ _ _ _ _ _
   | exact guard_Check.mono _ _ _ _ _
   | exact guard_Pass.mono _ _ _ _ _ _ _ _ _ _ _ _ _ _ _ _ _
   | exact palletlaw12_live.mono _
   | exact LeO.none _
   | refine LeO.ite ?_ ?_
   | refine LeO.bind ?_ (fun _ => ?_)
set_option maxHeartbeats 8000000 in
set_option maxRecDepth 100000 in
theorem palletlaw12_GuardChains.calls (k : Nat) (a0_0 : Bool) (a0_1 : Bool) (a0_2 : Int) (a0_3 : Int) (a1_0 : Int) (a1_1 : Int) (a1_2 : Int) (a1_3 : Int) (a1_4 : Int) (a2 : Int) (A3 : Option Addr) (c3 : Nat) (l3 : List Int) (r : Bool) (w : World) (hr3 : Kd.C (Kd.int .i64) w A3 l3.length l3) (hc3 : l3.length ≤ c3) (hr_ : Aside0 (r = true)) (h : palletlaw12_GuardChains.f k a0_0 a0_1 a0_2 a0_3 a1_0 a1_1 a1_2 a1_3 a1_4 a2 l3 = some r) :
  Calls Try.prog 10 #[.agg #[.bool a0_0, .bool a0_1, .int .u64 a0_2, .int .i64 a0_3], .agg #[.int .i64 a1_0, .int .i64 a1_1, .int .i64 a1_2, .int .i64 a1_3, .int .i64 a1_4], .int .i64 a2, .slice A3 l3.length c3] w fun e w' => e = .returned (.bool r) ∧ Below w.heap.size w w' := by
 have hu55 := Try.underlying55
 have hu23 := Try.underlying23
 have hu52 := Try.underlying52
 have HR3 := Aside0.mk hr3
 have HC3 := Aside0.mk hc3
 clear hr3 hc3
 have HB := Aside0.mk (Below.refl w.heap.size w)
 have H : ((palletlaw12_live.f k).bind fun t354 => (if t354 = true then ((medl_Check.f a1_0 a1_1 a1_2 a1_3 a1_4).bind fun t355 => (if t355 = 0 then (if a2 < 1 then (palletlaw12_GuardChains.j0 k a2 l3 t354 true true a0_1 a0_2 a0_3 a1_0 a1_1 a1_2 a1_3 a1_4) else (if a2 > 1000 then (palletlaw12_GuardChains.j0 k a2 l3 t354 true true a0_1 a0_2 a0_3 a1_0 a1_1 a1_2 a1_3 a1_4) else ((guard_Check.f k true a0_1 a0_2 a0_3).bind fun t356 => (if t356 = 0 then (if a0_1 = true then (if a0_3 < 0 then (palletlaw12_GuardChains.j0 k a2 l3 t354 true true a0_1 a0_2 a0_3 a1_0 a1_1 a1_2 a1_3 a1_4) else (if a0_3 > 1125899906842624 then (palletlaw12_GuardChains.j0 k a2 l3 t354 true true a0_1 a0_2 a0_3 a1_0 a1_1 a1_2 a1_3 a1_4) else (if a0_2 > 1073741824 then (palletlaw12_GuardChains.j0 k a2 l3 t354 true true a0_1 a0_2 a0_3 a1_0 a1_1 a1_2 a1_3 a1_4) else (palletlaw12_GuardChains.j0 k a2 l3 t354 (decide ((l3.length : Int) > 50)) true a0_1 a0_2 a0_3 a1_0 a1_1 a1_2 a1_3 a1_4)))) else (palletlaw12_GuardChains.j0 k a2 l3 t354 true true a0_1 a0_2 a0_3 a1_0 a1_1 a1_2 a1_3 a1_4)) else (palletlaw12_GuardChains.j0 k a2 l3 t354 true true a0_1 a0_2 a0_3 a1_0 a1_1 a1_2 a1_3 a1_4))))) else (palletlaw12_GuardChains.j0 k a2 l3 t354 true true a0_1 a0_2 a0_3 a1_0 a1_1 a1_2 a1_3 a1_4))) else (some false))) = some r := h
 clear h
 replace H := Option.bind_eq_some_iff.mp H
 obtain ⟨t354, A50, H⟩ := H
 replace H : (if t354 = true then ((medl_Check.f a1_0 a1_1 a1_2 a1_3 a1_4).bind fun t355 => (if t355 = 0 then (if a2 < 1 then (palletlaw12_GuardChains.j0 k a2 l3 t354 true true a0_1 a0_2 a0_3 a1_0 a1_1 a1_2 a1_3 a1_4) else (if a2 > 1000 then (palletlaw12_GuardChains.j0 k a2 l3 t354 true true a0_1 a0_2 a0_3 a1_0 a1_1 a1_2 a1_3 a1_4) else ((guard_Check.f k true a0_1 a0_2 a0_3).bind fun t356 => (if t356 = 0 then (if a0_1 = true then (if a0_3 < 0 then (palletlaw12_GuardChains.j0 k a2 l3 t354 true true a0_1 a0_2 a0_3 a1_0 a1_1 a1_2 a1_3 a1_4) else (if a0_3 > 1125899906842624 then (palletlaw12_GuardChains.j0 k a2 l3 t354 true true a0_1 a0_2 a0_3 a1_0 a1_1 a1_2 a1_3 a1_4) else (if a0_2 > 1073741824 then (palletlaw12_GuardChains.j0 k a2 l3 t354 true true a0_1 a0_2 a0_3 a1_0 a1_1 a1_2 a1_3 a1_4) else (palletlaw12_GuardChains.j0 k a2 l3 t354 (decide ((l3.length : Int) > 50)) true a0_1 a0_2 a0_3 a1_0 a1_1 a1_2 a1_3 a1_4)))) else (palletlaw12_GuardChains.j0 k a2 l3 t354 true true a0_1 a0_2 a0_3 a1_0 a1_1 a1_2 a1_3 a1_4)) else (palletlaw12_GuardChains.j0 k a2 l3 t354 true true a0_1 a0_2 a0_3 a1_0 a1_1 a1_2 a1_3 a1_4))))) else (palletlaw12_GuardChains.j0 k a2 l3 t354 true true a0_1 a0_2 a0_3 a1_0 a1_1 a1_2 a1_3 a1_4))) else (some false)) = some r := H
 have A5 := Aside0.mk A50
 clear A50
 by_cases c6 : t354 = true
 ·subst c6
  have H1 : ((medl_Check.f a1_0 a1_1 a1_2 a1_3 a1_4).bind fun t355 => (if t355 = 0 then (if a2 < 1 then (palletlaw12_GuardChains.j0 k a2 l3 true true true a0_1 a0_2 a0_3 a1_0 a1_1 a1_2 a1_3 a1_4) else (if a2 > 1000 then (palletlaw12_GuardChains.j0 k a2 l3 true true true a0_1 a0_2 a0_3 a1_0 a1_1 a1_2 a1_3 a1_4) else ((guard_Check.f k true a0_1 a0_2 a0_3).bind fun t356 => (if t356 = 0 then (if a0_1 = true then (if a0_3 < 0 then (palletlaw12_GuardChains.j0 k a2 l3 true true true a0_1 a0_2 a0_3 a1_0 a1_1 a1_2 a1_3 a1_4) else (if a0_3 > 1125899906842624 then (palletlaw12_GuardChains.j0 k a2 l3 true true true a0_1 a0_2 a0_3 a1_0 a1_1 a1_2 a1_3 a1_4) else (if a0_2 > 1073741824 then (palletlaw12_GuardChains.j0 k a2 l3 true true true a0_1 a0_2 a0_3 a1_0 a1_1 a1_2 a1_3 a1_4) else (palletlaw12_GuardChains.j0 k a2 l3 true (decide ((l3.length : Int) > 50)) true a0_1 a0_2 a0_3 a1_0 a1_1 a1_2 a1_3 a1_4)))) else (palletlaw12_GuardChains.j0 k a2 l3 true true true a0_1 a0_2 a0_3 a1_0 a1_1 a1_2 a1_3 a1_4)) else (palletlaw12_GuardChains.j0 k a2 l3 true true true a0_1 a0_2 a0_3 a1_0 a1_1 a1_2 a1_3 a1_4))))) else (palletlaw12_GuardChains.j0 k a2 l3 true true true a0_1 a0_2 a0_3 a1_0 a1_1 a1_2 a1_3 a1_4))) = some r := by rw [if_pos rfl] at H; exact H
  clear H
  have H := H1
  clear H1
  have HC7 := Aside0.mk H
  clear H
  go_enter Try.func10, Try.ntmps10
  go_upto_region 5 with (first | ((with_reducible refine gate_dst (N := 4) rfl ?_); (try (refine gate_guard (by rfl) ?_; dsimp only)); refine box_event ?hg (N := 4) ?hd (cs := #[.bool a0_0, .bool a0_1, .int .u64 a0_2, .int .i64 a0_3]) (t := 55) ?hr ?_; (case hd => rfl); (case hg => rfl); (case hr => first | (go_simp; done) | (go_simp; rfl)); intro gb352 hg w8 hbox hb; have n0_ := Aside0.mk (below_step (by repeat (first | (with_reducible first | exact HB.out | apply below_alloc | apply pw_below_drewN | apply below_drew1) | exact HB.out)) hb); have n1_ := Aside0.mk (hbox); have n2_ := Aside0.mk ((by rw [hg]; exact (below_size (by repeat (first | (with_reducible first | exact HB.out | apply below_alloc | apply pw_below_drewN | apply below_drew1) | exact HB.out))) : w.heap.size ≤ gb352)); have n3_ := Aside0.mk ((by rw [hg]; exact (below_size (by repeat (first | (with_reducible first | exact HB.out | apply below_alloc | apply pw_below_drewN | apply below_drew1) | exact HB.out))) : w.heap.size ≤ gb352)); clear HB; have HB := n0_; have BK352 := n1_; have GW352 := n2_; have GE352 := n3_; clear n0_ n1_ n2_ n3_; clear hb hbox hg) | ((with_reducible refine gate_dst (N := 5) rfl ?_); (try (refine gate_guard (by rfl) ?_; dsimp only)); refine box_event ?hg (N := 5) ?hd (cs := #[.int .i64 a1_0, .int .i64 a1_1, .int .i64 a1_2, .int .i64 a1_3, .int .i64 a1_4]) (t := 23) ?hr ?_; (case hd => rfl); (case hg => rfl); (case hr => first | (go_simp; done) | (go_simp; rfl)); intro gb353 hg w9 hbox hb; have n0_ := Aside0.mk (blk_below (g := gb352) (o := .cells #[.bool a0_0, .bool a0_1, .int .u64 a0_2, .int .i64 a0_3] 55 (0, 0)) (by (with_reducible repeat (first | refine blk_drewN ?_ _ | refine blk_drew ?_ | refine blk_alloc ?_ _)); exact BK352.out) hb); have n1_ := Aside0.mk (below_step (by repeat (first | (with_reducible first | exact HB.out | apply below_alloc | apply pw_below_drewN | apply below_drew1 | refine below_set ?_ GE352.out) | exact HB.out)) hb); have n2_ := Aside0.mk (hbox); have n3_ := Aside0.mk ((by rw [hg]; exact (below_size (by repeat (first | (with_reducible first | exact HB.out | apply below_alloc | apply pw_below_drewN | apply below_drew1 | refine below_set ?_ GE352.out) | exact HB.out))) : w.heap.size ≤ gb353)); have n4_ := Aside0.mk ((by rw [hg]; exact (below_size (by repeat (first | (with_reducible first | exact HB.out | apply below_alloc | apply pw_below_drewN | apply below_drew1 | refine below_set ?_ GE352.out) | exact HB.out))) : w.heap.size ≤ gb353)); have n5_ := Aside0.mk ((by rw [hg]; exact Nat.ne_of_lt (blk_lt (g := gb352) (o := .cells #[.bool a0_0, .bool a0_1, .int .u64 a0_2, .int .i64 a0_3] 55 (0, 0)) (by (with_reducible repeat (first | refine blk_drewN ?_ _ | refine blk_drew ?_ | refine blk_alloc ?_ _)); exact BK352.out)) : gb352 ≠ gb353)); have n6_ := Aside0.mk ((by rw [hg]; exact Nat.ne_of_gt (blk_lt (g := gb352) (o := .cells #[.bool a0_0, .bool a0_1, .int .u64 a0_2, .int .i64 a0_3] 55 (0, 0)) (by (with_reducible repeat (first | refine blk_drewN ?_ _ | refine blk_drew ?_ | refine blk_alloc ?_ _)); exact BK352.out)) : gb353 ≠ gb352)); clear BK352; clear HB; have BK352 := n0_; have HB := n1_; have BK353 := n2_; have GW353 := n3_; have GE353 := n4_; have NB352_353 := n5_; have NB353_352 := n6_; clear n0_ n1_ n2_ n3_ n4_ n5_ n6_; clear hb hbox hg) | (go_at_call 21; (with_reducible refine (palletlaw12_live.calls k  true _ A5.out).mono ?_); rintro e w10 ⟨rfl, hb⟩; have n0_ := Aside0.mk (blk_below (g := gb352) (o := .cells #[.bool a0_0, .bool a0_1, .int .u64 a0_2, .int .i64 a0_3] 55 (0, 0)) (by (with_reducible repeat (first | refine blk_drewN ?_ _ | refine blk_drew ?_ | refine blk_alloc ?_ _)); exact BK352.out) hb); have n1_ := Aside0.mk (blk_below (g := gb353) (o := .cells #[.int .i64 a1_0, .int .i64 a1_1, .int .i64 a1_2, .int .i64 a1_3, .int .i64 a1_4] 23 (0, 0)) (by (with_reducible repeat (first | refine blk_drewN ?_ _ | refine blk_drew ?_ | refine blk_alloc ?_ _)); exact BK353.out) hb); have n2_ := Aside0.mk (below_step (by repeat (first | (with_reducible first | exact HB.out | apply below_alloc | apply pw_below_drewN | apply below_drew1 | refine below_set ?_ GE352.out | refine below_set ?_ GE353.out) | exact HB.out)) hb); clear BK352; clear BK353; clear HB; have BK352 := n0_; have BK353 := n1_; have HB := n2_; clear n0_ n1_ n2_; (try clear hb); (try clear hb2); (try clear hk); (try clear hi); have hnb11 := NB352_353.out; have hnc11 := NB353_352.out; have hcz12_0 : w10.cell? ⟨gb352, 0, none⟩ = some (.bool a0_0) := (blk_cell BK352.out 0).trans rfl; have hcz12_1 : w10.cell? ⟨gb352, 1, none⟩ = some (.bool a0_1) := (blk_cell BK352.out 1).trans rfl; have hcz12_2 : w10.cell? ⟨gb352, 2, none⟩ = some (.int .u64 a0_2) := (blk_cell BK352.out 2).trans rfl; have hcz12_3 : w10.cell? ⟨gb352, 3, none⟩ = some (.int .i64 a0_3) := (blk_cell BK352.out 3).trans rfl; have hfz12_0 := blk_frozen BK352.out 0; have hfz12_1 := blk_frozen BK352.out 1; have hfz12_2 := blk_frozen BK352.out 2; have hfz12_3 := blk_frozen BK352.out 3))
  repeat (go_quiet (first | ((with_reducible refine gate_dst (N := 4) rfl ?_); (try (refine gate_guard (by rfl) ?_; dsimp only)); refine box_event ?hg (N := 4) ?hd (cs := #[.bool a0_0, .bool a0_1, .int .u64 a0_2, .int .i64 a0_3]) (t := 55) ?hr ?_; (case hd => rfl); (case hg => rfl); (case hr => first | (go_simp; done) | (go_simp; rfl)); intro gb352 hg w8 hbox hb; have n0_ := Aside0.mk (below_step (by repeat (first | (with_reducible first | exact HB.out | apply below_alloc | apply pw_below_drewN | apply below_drew1) | exact HB.out)) hb); have n1_ := Aside0.mk (hbox); have n2_ := Aside0.mk ((by rw [hg]; exact (below_size (by repeat (first | (with_reducible first | exact HB.out | apply below_alloc | apply pw_below_drewN | apply below_drew1) | exact HB.out))) : w.heap.size ≤ gb352)); have n3_ := Aside0.mk ((by rw [hg]; exact (below_size (by repeat (first | (with_reducible first | exact HB.out | apply below_alloc | apply pw_below_drewN | apply below_drew1) | exact HB.out))) : w.heap.size ≤ gb352)); clear HB; have HB := n0_; have BK352 := n1_; have GW352 := n2_; have GE352 := n3_; clear n0_ n1_ n2_ n3_; clear hb hbox hg) | ((with_reducible refine gate_dst (N := 5) rfl ?_); (try (refine gate_guard (by rfl) ?_; dsimp only)); refine box_event ?hg (N := 5) ?hd (cs := #[.int .i64 a1_0, .int .i64 a1_1, .int .i64 a1_2, .int .i64 a1_3, .int .i64 a1_4]) (t := 23) ?hr ?_; (case hd => rfl); (case hg => rfl); (case hr => first | (go_simp; done) | (go_simp; rfl)); intro gb353 hg w9 hbox hb; have n0_ := Aside0.mk (blk_below (g := gb352) (o := .cells #[.bool a0_0, .bool a0_1, .int .u64 a0_2, .int .i64 a0_3] 55 (0, 0)) (by (with_reducible repeat (first | refine blk_drewN ?_ _ | refine blk_drew ?_ | refine blk_alloc ?_ _)); exact BK352.out) hb); have n1_ := Aside0.mk (below_step (by repeat (first | (with_reducible first | exact HB.out | apply below_alloc | apply pw_below_drewN | apply below_drew1 | refine below_set ?_ GE352.out) | exact HB.out)) hb); have n2_ := Aside0.mk (hbox); have n3_ := Aside0.mk ((by rw [hg]; exact (below_size (by repeat (first | (with_reducible first | exact HB.out | apply below_alloc | apply pw_below_drewN | apply below_drew1 | refine below_set ?_ GE352.out) | exact HB.out))) : w.heap.size ≤ gb353)); have n4_ := Aside0.mk ((by rw [hg]; exact (below_size (by repeat (first | (with_reducible first | exact HB.out | apply below_alloc | apply pw_below_drewN | apply below_drew1 | refine below_set ?_ GE352.out) | exact HB.out))) : w.heap.size ≤ gb353)); have n5_ := Aside0.mk ((by rw [hg]; exact Nat.ne_of_lt (blk_lt (g := gb352) (o := .cells #[.bool a0_0, .bool a0_1, .int .u64 a0_2, .int .i64 a0_3] 55 (0, 0)) (by (with_reducible repeat (first | refine blk_drewN ?_ _ | refine blk_drew ?_ | refine blk_alloc ?_ _)); exact BK352.out)) : gb352 ≠ gb353)); have n6_ := Aside0.mk ((by rw [hg]; exact Nat.ne_of_gt (blk_lt (g := gb352) (o := .cells #[.bool a0_0, .bool a0_1, .int .u64 a0_2, .int .i64 a0_3] 55 (0, 0)) (by (with_reducible repeat (first | refine blk_drewN ?_ _ | refine blk_drew ?_ | refine blk_alloc ?_ _)); exact BK352.out)) : gb353 ≠ gb352)); clear BK352; clear HB; have BK352 := n0_; have HB := n1_; have BK353 := n2_; have GW353 := n3_; have GE353 := n4_; have NB352_353 := n5_; have NB353_352 := n6_; clear n0_ n1_ n2_ n3_ n4_ n5_ n6_; clear hb hbox hg) | (go_at_call 21; (with_reducible refine (palletlaw12_live.calls k  true _ A5.out).mono ?_); rintro e w10 ⟨rfl, hb⟩; have n0_ := Aside0.mk (blk_below (g := gb352) (o := .cells #[.bool a0_0, .bool a0_1, .int .u64 a0_2, .int .i64 a0_3] 55 (0, 0)) (by (with_reducible repeat (first | refine blk_drewN ?_ _ | refine blk_drew ?_ | refine blk_alloc ?_ _)); exact BK352.out) hb); have n1_ := Aside0.mk (blk_below (g := gb353) (o := .cells #[.int .i64 a1_0, .int .i64 a1_1, .int .i64 a1_2, .int .i64 a1_3, .int .i64 a1_4] 23 (0, 0)) (by (with_reducible repeat (first | refine blk_drewN ?_ _ | refine blk_drew ?_ | refine blk_alloc ?_ _)); exact BK353.out) hb); have n2_ := Aside0.mk (below_step (by repeat (first | (with_reducible first | exact HB.out | apply below_alloc | apply pw_below_drewN | apply below_drew1 | refine below_set ?_ GE352.out | refine below_set ?_ GE353.out) | exact HB.out)) hb); clear BK352; clear BK353; clear HB; have BK352 := n0_; have BK353 := n1_; have HB := n2_; clear n0_ n1_ n2_; (try clear hb); (try clear hb2); (try clear hk); (try clear hi); have hnb11 := NB352_353.out; have hnc11 := NB353_352.out; have hcz12_0 : w10.cell? ⟨gb352, 0, none⟩ = some (.bool a0_0) := (blk_cell BK352.out 0).trans rfl; have hcz12_1 : w10.cell? ⟨gb352, 1, none⟩ = some (.bool a0_1) := (blk_cell BK352.out 1).trans rfl; have hcz12_2 : w10.cell? ⟨gb352, 2, none⟩ = some (.int .u64 a0_2) := (blk_cell BK352.out 2).trans rfl; have hcz12_3 : w10.cell? ⟨gb352, 3, none⟩ = some (.int .i64 a0_3) := (blk_cell BK352.out 3).trans rfl; have hfz12_0 := blk_frozen BK352.out 0; have hfz12_1 := blk_frozen BK352.out 1; have hfz12_2 := blk_frozen BK352.out 2; have hfz12_3 := blk_frozen BK352.out 3)); go_upto_region 5 with (first | ((with_reducible refine gate_dst (N := 4) rfl ?_); (try (refine gate_guard (by rfl) ?_; dsimp only)); refine box_event ?hg (N := 4) ?hd (cs := #[.bool a0_0, .bool a0_1, .int .u64 a0_2, .int .i64 a0_3]) (t := 55) ?hr ?_; (case hd => rfl); (case hg => rfl); (case hr => first | (go_simp; done) | (go_simp; rfl)); intro gb352 hg w8 hbox hb; have n0_ := Aside0.mk (below_step (by repeat (first | (with_reducible first | exact HB.out | apply below_alloc | apply pw_below_drewN | apply below_drew1) | exact HB.out)) hb); have n1_ := Aside0.mk (hbox); have n2_ := Aside0.mk ((by rw [hg]; exact (below_size (by repeat (first | (with_reducible first | exact HB.out | apply below_alloc | apply pw_below_drewN | apply below_drew1) | exact HB.out))) : w.heap.size ≤ gb352)); have n3_ := Aside0.mk ((by rw [hg]; exact (below_size (by repeat (first | (with_reducible first | exact HB.out | apply below_alloc | apply pw_below_drewN | apply below_drew1) | exact HB.out))) : w.heap.size ≤ gb352)); clear HB; have HB := n0_; have BK352 := n1_; have GW352 := n2_; have GE352 := n3_; clear n0_ n1_ n2_ n3_; clear hb hbox hg) | ((with_reducible refine gate_dst (N := 5) rfl ?_); (try (refine gate_guard (by rfl) ?_; dsimp only)); refine box_event ?hg (N := 5) ?hd (cs := #[.int .i64 a1_0, .int .i64 a1_1, .int .i64 a1_2, .int .i64 a1_3, .int .i64 a1_4]) (t := 23) ?hr ?_; (case hd => rfl); (case hg => rfl); (case hr => first | (go_simp; done) | (go_simp; rfl)); intro gb353 hg w9 hbox hb; have n0_ := Aside0.mk (blk_below (g := gb352) (o := .cells #[.bool a0_0, .bool a0_1, .int .u64 a0_2, .int .i64 a0_3] 55 (0, 0)) (by (with_reducible repeat (first | refine blk_drewN ?_ _ | refine blk_drew ?_ | refine blk_alloc ?_ _)); exact BK352.out) hb); have n1_ := Aside0.mk (below_step (by repeat (first | (with_reducible first | exact HB.out | apply below_alloc | apply pw_below_drewN | apply below_drew1 | refine below_set ?_ GE352.out) | exact HB.out)) hb); have n2_ := Aside0.mk (hbox); have n3_ := Aside0.mk ((by rw [hg]; exact (below_size (by repeat (first | (with_reducible first | exact HB.out | apply below_alloc | apply pw_below_drewN | apply below_drew1 | refine below_set ?_ GE352.out) | exact HB.out))) : w.heap.size ≤ gb353)); have n4_ := Aside0.mk ((by rw [hg]; exact (below_size (by repeat (first | (with_reducible first | exact HB.out | apply below_alloc | apply pw_below_drewN | apply below_drew1 | refine below_set ?_ GE352.out) | exact HB.out))) : w.heap.size ≤ gb353)); have n5_ := Aside0.mk ((by rw [hg]; exact Nat.ne_of_lt (blk_lt (g := gb352) (o := .cells #[.bool a0_0, .bool a0_1, .int .u64 a0_2, .int .i64 a0_3] 55 (0, 0)) (by (with_reducible repeat (first | refine blk_drewN ?_ _ | refine blk_drew ?_ | refine blk_alloc ?_ _)); exact BK352.out)) : gb352 ≠ gb353)); have n6_ := Aside0.mk ((by rw [hg]; exact Nat.ne_of_gt (blk_lt (g := gb352) (o := .cells #[.bool a0_0, .bool a0_1, .int .u64 a0_2, .int .i64 a0_3] 55 (0, 0)) (by (with_reducible repeat (first | refine blk_drewN ?_ _ | refine blk_drew ?_ | refine blk_alloc ?_ _)); exact BK352.out)) : gb353 ≠ gb352)); clear BK352; clear HB; have BK352 := n0_; have HB := n1_; have BK353 := n2_; have GW353 := n3_; have GE353 := n4_; have NB352_353 := n5_; have NB353_352 := n6_; clear n0_ n1_ n2_ n3_ n4_ n5_ n6_; clear hb hbox hg) | (go_at_call 21; (with_reducible refine (palletlaw12_live.calls k  true _ A5.out).mono ?_); rintro e w10 ⟨rfl, hb⟩; have n0_ := Aside0.mk (blk_below (g := gb352) (o := .cells #[.bool a0_0, .bool a0_1, .int .u64 a0_2, .int .i64 a0_3] 55 (0, 0)) (by (with_reducible repeat (first | refine blk_drewN ?_ _ | refine blk_drew ?_ | refine blk_alloc ?_ _)); exact BK352.out) hb); have n1_ := Aside0.mk (blk_below (g := gb353) (o := .cells #[.int .i64 a1_0, .int .i64 a1_1, .int .i64 a1_2, .int .i64 a1_3, .int .i64 a1_4] 23 (0, 0)) (by (with_reducible repeat (first | refine blk_drewN ?_ _ | refine blk_drew ?_ | refine blk_alloc ?_ _)); exact BK353.out) hb); have n2_ := Aside0.mk (below_step (by repeat (first | (with_reducible first | exact HB.out | apply below_alloc | apply pw_below_drewN | apply below_drew1 | refine below_set ?_ GE352.out | refine below_set ?_ GE353.out) | exact HB.out)) hb); clear BK352; clear BK353; clear HB; have BK352 := n0_; have BK353 := n1_; have HB := n2_; clear n0_ n1_ n2_; (try clear hb); (try clear hb2); (try clear hk); (try clear hi); have hnb11 := NB352_353.out; have hnc11 := NB353_352.out; have hcz12_0 : w10.cell? ⟨gb352, 0, none⟩ = some (.bool a0_0) := (blk_cell BK352.out 0).trans rfl; have hcz12_1 : w10.cell? ⟨gb352, 1, none⟩ = some (.bool a0_1) := (blk_cell BK352.out 1).trans rfl; have hcz12_2 : w10.cell? ⟨gb352, 2, none⟩ = some (.int .u64 a0_2) := (blk_cell BK352.out 2).trans rfl; have hcz12_3 : w10.cell? ⟨gb352, 3, none⟩ = some (.int .i64 a0_3) := (blk_cell BK352.out 3).trans rfl; have hfz12_0 := blk_frozen BK352.out 0; have hfz12_1 := blk_frozen BK352.out 1; have hfz12_2 := blk_frozen BK352.out 2; have hfz12_3 := blk_frozen BK352.out 3)))
  (try simp only [Act.put, List.setIfInBounds_toArray, List.set_cons_zero, List.set_cons_succ])
  go_cut [64] (fun v64 wc => ∃ (kq : Nat) (x64_6 : Bool), v64 = .bool x64_6 ∧ Aside0 (palletlaw12_GuardChains.j0 kq a2 l3 true x64_6 true a0_1 a0_2 a0_3 a1_0 a1_1 a1_2 a1_3 a1_4 = some r) ∧ Aside0 (kq ≤ k) ∧ Aside0 (wc.heap[gb352]? = some (.cells #[.bool true, .bool a0_1, .int .u64 a0_2, .int .i64 a0_3] 55 (0, 0))) ∧ Aside0 (wc.heap[gb353]? = some (.cells #[.int .i64 a1_0, .int .i64 a1_1, .int .i64 a1_2, .int .i64 a1_3, .int .i64 a1_4] 23 (0, 0))) ∧ Aside0 (Below w.heap.size w wc))
  case first =>
   have H := HC7.out
   clear HC7
   replace H := Option.bind_eq_some_iff.mp H
   obtain ⟨t355, A130, H⟩ := H
   replace H : (if t355 = 0 then (if a2 < 1 then (palletlaw12_GuardChains.j0 k a2 l3 true true true a0_1 a0_2 a0_3 a1_0 a1_1 a1_2 a1_3 a1_4) else (if a2 > 1000 then (palletlaw12_GuardChains.j0 k a2 l3 true true true a0_1 a0_2 a0_3 a1_0 a1_1 a1_2 a1_3 a1_4) else ((guard_Check.f k true a0_1 a0_2 a0_3).bind fun t356 => (if t356 = 0 then (if a0_1 = true then (if a0_3 < 0 then (palletlaw12_GuardChains.j0 k a2 l3 true true true a0_1 a0_2 a0_3 a1_0 a1_1 a1_2 a1_3 a1_4) else (if a0_3 > 1125899906842624 then (palletlaw12_GuardChains.j0 k a2 l3 true true true a0_1 a0_2 a0_3 a1_0 a1_1 a1_2 a1_3 a1_4) else (if a0_2 > 1073741824 then (palletlaw12_GuardChains.j0 k a2 l3 true true true a0_1 a0_2 a0_3 a1_0 a1_1 a1_2 a1_3 a1_4) else (palletlaw12_GuardChains.j0 k a2 l3 true (decide ((l3.length : Int) > 50)) true a0_1 a0_2 a0_3 a1_0 a1_1 a1_2 a1_3 a1_4)))) else (palletlaw12_GuardChains.j0 k a2 l3 true true true a0_1 a0_2 a0_3 a1_0 a1_1 a1_2 a1_3 a1_4)) else (palletlaw12_GuardChains.j0 k a2 l3 true true true a0_1 a0_2 a0_3 a1_0 a1_1 a1_2 a1_3 a1_4))))) else (palletlaw12_GuardChains.j0 k a2 l3 true true true a0_1 a0_2 a0_3 a1_0 a1_1 a1_2 a1_3 a1_4)) = some r := H
   have A13 := Aside0.mk A130
   clear A130
   by_cases c14 : t355 = 0
   ·rw [if_pos c14] at H
    have c14b0 : (t355 == 0) = true := beq_iff_eq.mpr c14
    have c14b1 : (t355 != 0) = false := bne_eq_false_iff_eq.mpr c14
    clear c14
    (first | rw [c14b0] | (simp only [i64_w, i32_w]; rw [c14b0]) | skip)
    by_cases c15 : a2 < 1
    ·rw [if_pos c15] at H
     have c15b0 : decide (a2 < 1) = true := decide_eq_true c15
     clear c15
     have H' := Aside0.mk H
     clear H
     have hnb16 := NB353_352.out
     have hnc16 := NB352_353.out
     have hcz17_0 : w10.cell? ⟨gb353, 0, none⟩ = some (.int .i64 a1_0) := (blk_cell BK353.out 0).trans rfl
     have hcz17_1 : w10.cell? ⟨gb353, 1, none⟩ = some (.int .i64 a1_1) := (blk_cell BK353.out 1).trans rfl
     have hcz17_2 : w10.cell? ⟨gb353, 2, none⟩ = some (.int .i64 a1_2) := (blk_cell BK353.out 2).trans rfl
     have hcz17_3 : w10.cell? ⟨gb353, 3, none⟩ = some (.int .i64 a1_3) := (blk_cell BK353.out 3).trans rfl
     have hcz17_4 : w10.cell? ⟨gb353, 4, none⟩ = some (.int .i64 a1_4) := (blk_cell BK353.out 4).trans rfl
     have hfz17_0 := blk_frozen BK353.out 0
     have hfz17_1 := blk_frozen BK353.out 1
     have hfz17_2 := blk_frozen BK353.out 2
     have hfz17_3 := blk_frozen BK353.out 3
     have hfz17_4 := blk_frozen BK353.out 4
     go_wp2_with (first | (go_at_call 13; (with_reducible refine (medl_Check.calls a1_0 a1_1 a1_2 a1_3 a1_4 t355 _ A13.out).mono ?_); rintro e w18 ⟨rfl, hb⟩; have n0_ := Aside0.mk (blk_below (g := gb352) (o := .cells #[.bool true, .bool a0_1, .int .u64 a0_2, .int .i64 a0_3] 55 (0, 0)) (by (with_reducible repeat (first | refine blk_drewN ?_ _ | refine blk_drew ?_ | refine blk_alloc ?_ _)); refine blk_put (cs := #[.bool a0_0, .bool a0_1, .int .u64 a0_2, .int .i64 a0_3]) ?_ 0 _ rfl; (with_reducible repeat (first | refine blk_drewN ?_ _ | refine blk_drew ?_ | refine blk_alloc ?_ _)); exact BK352.out) hb); have n1_ := Aside0.mk (blk_below (g := gb353) (o := .cells #[.int .i64 a1_0, .int .i64 a1_1, .int .i64 a1_2, .int .i64 a1_3, .int .i64 a1_4] 23 (0, 0)) (by (with_reducible repeat (first | refine blk_drewN ?_ _ | refine blk_drew ?_ | refine blk_alloc ?_ _)); refine blk_far ?_ NB353_352.out _; (with_reducible repeat (first | refine blk_drewN ?_ _ | refine blk_drew ?_ | refine blk_alloc ?_ _)); exact BK353.out) hb); have n2_ := Aside0.mk (below_step (by repeat (first | (with_reducible first | exact HB.out | apply below_alloc | apply pw_below_drewN | apply below_drew1 | refine below_set ?_ GE352.out | refine below_set ?_ GE353.out) | exact HB.out)) hb); clear BK352; clear BK353; clear HB; have BK352 := n0_; have BK353 := n1_; have HB := n2_; clear n0_ n1_ n2_; (try clear hb); (try clear hb2); (try clear hk); (try clear hi)))
     repeat (go_quiet (first | (go_at_call 13; (with_reducible refine (medl_Check.calls a1_0 a1_1 a1_2 a1_3 a1_4 t355 _ A13.out).mono ?_); rintro e w18 ⟨rfl, hb⟩; have n0_ := Aside0.mk (blk_below (g := gb352) (o := .cells #[.bool true, .bool a0_1, .int .u64 a0_2, .int .i64 a0_3] 55 (0, 0)) (by (with_reducible repeat (first | refine blk_drewN ?_ _ | refine blk_drew ?_ | refine blk_alloc ?_ _)); refine blk_put (cs := #[.bool a0_0, .bool a0_1, .int .u64 a0_2, .int .i64 a0_3]) ?_ 0 _ rfl; (with_reducible repeat (first | refine blk_drewN ?_ _ | refine blk_drew ?_ | refine blk_alloc ?_ _)); exact BK352.out) hb); have n1_ := Aside0.mk (blk_below (g := gb353) (o := .cells #[.int .i64 a1_0, .int .i64 a1_1, .int .i64 a1_2, .int .i64 a1_3, .int .i64 a1_4] 23 (0, 0)) (by (with_reducible repeat (first | refine blk_drewN ?_ _ | refine blk_drew ?_ | refine blk_alloc ?_ _)); refine blk_far ?_ NB353_352.out _; (with_reducible repeat (first | refine blk_drewN ?_ _ | refine blk_drew ?_ | refine blk_alloc ?_ _)); exact BK353.out) hb); have n2_ := Aside0.mk (below_step (by repeat (first | (with_reducible first | exact HB.out | apply below_alloc | apply pw_below_drewN | apply below_drew1 | refine below_set ?_ GE352.out | refine below_set ?_ GE353.out) | exact HB.out)) hb); clear BK352; clear BK353; clear HB; have BK352 := n0_; have BK353 := n1_; have HB := n2_; clear n0_ n1_ n2_; (try clear hb); (try clear hb2); (try clear hk); (try clear hi))); try go_wp2_with (first | (go_at_call 13; (with_reducible refine (medl_Check.calls a1_0 a1_1 a1_2 a1_3 a1_4 t355 _ A13.out).mono ?_); rintro e w18 ⟨rfl, hb⟩; have n0_ := Aside0.mk (blk_below (g := gb352) (o := .cells #[.bool true, .bool a0_1, .int .u64 a0_2, .int .i64 a0_3] 55 (0, 0)) (by (with_reducible repeat (first | refine blk_drewN ?_ _ | refine blk_drew ?_ | refine blk_alloc ?_ _)); refine blk_put (cs := #[.bool a0_0, .bool a0_1, .int .u64 a0_2, .int .i64 a0_3]) ?_ 0 _ rfl; (with_reducible repeat (first | refine blk_drewN ?_ _ | refine blk_drew ?_ | refine blk_alloc ?_ _)); exact BK352.out) hb); have n1_ := Aside0.mk (blk_below (g := gb353) (o := .cells #[.int .i64 a1_0, .int .i64 a1_1, .int .i64 a1_2, .int .i64 a1_3, .int .i64 a1_4] 23 (0, 0)) (by (with_reducible repeat (first | refine blk_drewN ?_ _ | refine blk_drew ?_ | refine blk_alloc ?_ _)); refine blk_far ?_ NB353_352.out _; (with_reducible repeat (first | refine blk_drewN ?_ _ | refine blk_drew ?_ | refine blk_alloc ?_ _)); exact BK353.out) hb); have n2_ := Aside0.mk (below_step (by repeat (first | (with_reducible first | exact HB.out | apply below_alloc | apply pw_below_drewN | apply below_drew1 | refine below_set ?_ GE352.out | refine below_set ?_ GE353.out) | exact HB.out)) hb); clear BK352; clear BK353; clear HB; have BK352 := n0_; have BK353 := n1_; have HB := n2_; clear n0_ n1_ n2_; (try clear hb); (try clear hb2); (try clear hk); (try clear hi))))
     go_meet
     case rel => exact ⟨_, (true), (by first | rfl | (simp; done) | (simp [*]; done)), H', ⟨by first | omega | exact Nat.le_refl _⟩, ⟨by (with_reducible repeat (first | refine blk_drewN ?_ _ | refine blk_drew ?_ | refine blk_alloc ?_ _)); exact BK352.out⟩, ⟨by (with_reducible repeat (first | refine blk_drewN ?_ _ | refine blk_drew ?_ | refine blk_alloc ?_ _)); exact BK353.out⟩, ⟨by repeat (first | (with_reducible first | exact HB.out | apply below_alloc | apply pw_below_drewN | apply below_drew1 | refine below_set ?_ GE352.out | refine below_set ?_ GE353.out) | exact HB.out)⟩⟩
    ·rw [if_neg c15] at H
     have c15b0 : decide (a2 < 1) = false := decide_eq_false c15
     clear c15
     by_cases c19 : a2 > 1000
     ·rw [if_pos c19] at H
      have c19b0 : decide (1000 < a2) = true := decide_eq_true c19
      clear c19
      have H' := Aside0.mk H
      clear H
      have hnb20 := NB353_352.out
      have hnc20 := NB352_353.out
      have hcz21_0 : w10.cell? ⟨gb353, 0, none⟩ = some (.int .i64 a1_0) := (blk_cell BK353.out 0).trans rfl
      have hcz21_1 : w10.cell? ⟨gb353, 1, none⟩ = some (.int .i64 a1_1) := (blk_cell BK353.out 1).trans rfl
      have hcz21_2 : w10.cell? ⟨gb353, 2, none⟩ = some (.int .i64 a1_2) := (blk_cell BK353.out 2).trans rfl
      have hcz21_3 : w10.cell? ⟨gb353, 3, none⟩ = some (.int .i64 a1_3) := (blk_cell BK353.out 3).trans rfl
      have hcz21_4 : w10.cell? ⟨gb353, 4, none⟩ = some (.int .i64 a1_4) := (blk_cell BK353.out 4).trans rfl
      have hfz21_0 := blk_frozen BK353.out 0
      have hfz21_1 := blk_frozen BK353.out 1
      have hfz21_2 := blk_frozen BK353.out 2
      have hfz21_3 := blk_frozen BK353.out 3
      have hfz21_4 := blk_frozen BK353.out 4
      go_wp2_with (first | (go_at_call 13; (with_reducible refine (medl_Check.calls a1_0 a1_1 a1_2 a1_3 a1_4 t355 _ A13.out).mono ?_); rintro e w22 ⟨rfl, hb⟩; have n0_ := Aside0.mk (blk_below (g := gb352) (o := .cells #[.bool true, .bool a0_1, .int .u64 a0_2, .int .i64 a0_3] 55 (0, 0)) (by (with_reducible repeat (first | refine blk_drewN ?_ _ | refine blk_drew ?_ | refine blk_alloc ?_ _)); refine blk_put (cs := #[.bool a0_0, .bool a0_1, .int .u64 a0_2, .int .i64 a0_3]) ?_ 0 _ rfl; (with_reducible repeat (first | refine blk_drewN ?_ _ | refine blk_drew ?_ | refine blk_alloc ?_ _)); exact BK352.out) hb); have n1_ := Aside0.mk (blk_below (g := gb353) (o := .cells #[.int .i64 a1_0, .int .i64 a1_1, .int .i64 a1_2, .int .i64 a1_3, .int .i64 a1_4] 23 (0, 0)) (by (with_reducible repeat (first | refine blk_drewN ?_ _ | refine blk_drew ?_ | refine blk_alloc ?_ _)); refine blk_far ?_ NB353_352.out _; (with_reducible repeat (first | refine blk_drewN ?_ _ | refine blk_drew ?_ | refine blk_alloc ?_ _)); exact BK353.out) hb); have n2_ := Aside0.mk (below_step (by repeat (first | (with_reducible first | exact HB.out | apply below_alloc | apply pw_below_drewN | apply below_drew1 | refine below_set ?_ GE352.out | refine below_set ?_ GE353.out) | exact HB.out)) hb); clear BK352; clear BK353; clear HB; have BK352 := n0_; have BK353 := n1_; have HB := n2_; clear n0_ n1_ n2_; (try clear hb); (try clear hb2); (try clear hk); (try clear hi)))
      repeat (go_quiet (first | (go_at_call 13; (with_reducible refine (medl_Check.calls a1_0 a1_1 a1_2 a1_3 a1_4 t355 _ A13.out).mono ?_); rintro e w22 ⟨rfl, hb⟩; have n0_ := Aside0.mk (blk_below (g := gb352) (o := .cells #[.bool true, .bool a0_1, .int .u64 a0_2, .int .i64 a0_3] 55 (0, 0)) (by (with_reducible repeat (first | refine blk_drewN ?_ _ | refine blk_drew ?_ | refine blk_alloc ?_ _)); refine blk_put (cs := #[.bool a0_0, .bool a0_1, .int .u64 a0_2, .int .i64 a0_3]) ?_ 0 _ rfl; (with_reducible repeat (first | refine blk_drewN ?_ _ | refine blk_drew ?_ | refine blk_alloc ?_ _)); exact BK352.out) hb); have n1_ := Aside0.mk (blk_below (g := gb353) (o := .cells #[.int .i64 a1_0, .int .i64 a1_1, .int .i64 a1_2, .int .i64 a1_3, .int .i64 a1_4] 23 (0, 0)) (by (with_reducible repeat (first | refine blk_drewN ?_ _ | refine blk_drew ?_ | refine blk_alloc ?_ _)); refine blk_far ?_ NB353_352.out _; (with_reducible repeat (first | refine blk_drewN ?_ _ | refine blk_drew ?_ | refine blk_alloc ?_ _)); exact BK353.out) hb); have n2_ := Aside0.mk (below_step (by repeat (first | (with_reducible first | exact HB.out | apply below_alloc | apply pw_below_drewN | apply below_drew1 | refine below_set ?_ GE352.out | refine below_set ?_ GE353.out) | exact HB.out)) hb); clear BK352; clear BK353; clear HB; have BK352 := n0_; have BK353 := n1_; have HB := n2_; clear n0_ n1_ n2_; (try clear hb); (try clear hb2); (try clear hk); (try clear hi))); try go_wp2_with (first | (go_at_call 13; (with_reducible refine (medl_Check.calls a1_0 a1_1 a1_2 a1_3 a1_4 t355 _ A13.out).mono ?_); rintro e w22 ⟨rfl, hb⟩; have n0_ := Aside0.mk (blk_below (g := gb352) (o := .cells #[.bool true, .bool a0_1, .int .u64 a0_2, .int .i64 a0_3] 55 (0, 0)) (by (with_reducible repeat (first | refine blk_drewN ?_ _ | refine blk_drew ?_ | refine blk_alloc ?_ _)); refine blk_put (cs := #[.bool a0_0, .bool a0_1, .int .u64 a0_2, .int .i64 a0_3]) ?_ 0 _ rfl; (with_reducible repeat (first | refine blk_drewN ?_ _ | refine blk_drew ?_ | refine blk_alloc ?_ _)); exact BK352.out) hb); have n1_ := Aside0.mk (blk_below (g := gb353) (o := .cells #[.int .i64 a1_0, .int .i64 a1_1, .int .i64 a1_2, .int .i64 a1_3, .int .i64 a1_4] 23 (0, 0)) (by (with_reducible repeat (first | refine blk_drewN ?_ _ | refine blk_drew ?_ | refine blk_alloc ?_ _)); refine blk_far ?_ NB353_352.out _; (with_reducible repeat (first | refine blk_drewN ?_ _ | refine blk_drew ?_ | refine blk_alloc ?_ _)); exact BK353.out) hb); have n2_ := Aside0.mk (below_step (by repeat (first | (with_reducible first | exact HB.out | apply below_alloc | apply pw_below_drewN | apply below_drew1 | refine below_set ?_ GE352.out | refine below_set ?_ GE353.out) | exact HB.out)) hb); clear BK352; clear BK353; clear HB; have BK352 := n0_; have BK353 := n1_; have HB := n2_; clear n0_ n1_ n2_; (try clear hb); (try clear hb2); (try clear hk); (try clear hi))))
      go_meet
      case rel => exact ⟨_, (true), (by first | rfl | (simp; done) | (simp [*]; done)), H', ⟨by first | omega | exact Nat.le_refl _⟩, ⟨by (with_reducible repeat (first | refine blk_drewN ?_ _ | refine blk_drew ?_ | refine blk_alloc ?_ _)); exact BK352.out⟩, ⟨by (with_reducible repeat (first | refine blk_drewN ?_ _ | refine blk_drew ?_ | refine blk_alloc ?_ _)); exact BK353.out⟩, ⟨by repeat (first | (with_reducible first | exact HB.out | apply below_alloc | apply pw_below_drewN | apply below_drew1 | refine below_set ?_ GE352.out | refine below_set ?_ GE353.out) | exact HB.out)⟩⟩
     ·rw [if_neg c19] at H
      have c19b0 : decide (1000 < a2) = false := decide_eq_false c19
      clear c19
      replace H := Option.bind_eq_some_iff.mp H
      obtain ⟨t356, A230, H⟩ := H
      replace H : (if t356 = 0 then (if a0_1 = true then (if a0_3 < 0 then (palletlaw12_GuardChains.j0 k a2 l3 true true true a0_1 a0_2 a0_3 a1_0 a1_1 a1_2 a1_3 a1_4) else (if a0_3 > 1125899906842624 then (palletlaw12_GuardChains.j0 k a2 l3 true true true a0_1 a0_2 a0_3 a1_0 a1_1 a1_2 a1_3 a1_4) else (if a0_2 > 1073741824 then (palletlaw12_GuardChains.j0 k a2 l3 true true true a0_1 a0_2 a0_3 a1_0 a1_1 a1_2 a1_3 a1_4) else (palletlaw12_GuardChains.j0 k a2 l3 true (decide ((l3.length : Int) > 50)) true a0_1 a0_2 a0_3 a1_0 a1_1 a1_2 a1_3 a1_4)))) else (palletlaw12_GuardChains.j0 k a2 l3 true true true a0_1 a0_2 a0_3 a1_0 a1_1 a1_2 a1_3 a1_4)) else (palletlaw12_GuardChains.j0 k a2 l3 true true true a0_1 a0_2 a0_3 a1_0 a1_1 a1_2 a1_3 a1_4)) = some r := H
      have A23 := Aside0.mk A230
      clear A230
      by_cases c24 : t356 = 0
      ·rw [if_pos c24] at H
       have c24b0 : (t356 == 0) = true := beq_iff_eq.mpr c24
       have c24b1 : (t356 != 0) = false := bne_eq_false_iff_eq.mpr c24
       clear c24
       by_cases c25 : a0_1 = true
       ·subst c25
        have H1 : (if a0_3 < 0 then (palletlaw12_GuardChains.j0 k a2 l3 true true true true a0_2 a0_3 a1_0 a1_1 a1_2 a1_3 a1_4) else (if a0_3 > 1125899906842624 then (palletlaw12_GuardChains.j0 k a2 l3 true true true true a0_2 a0_3 a1_0 a1_1 a1_2 a1_3 a1_4) else (if a0_2 > 1073741824 then (palletlaw12_GuardChains.j0 k a2 l3 true true true true a0_2 a0_3 a1_0 a1_1 a1_2 a1_3 a1_4) else (palletlaw12_GuardChains.j0 k a2 l3 true (decide ((l3.length : Int) > 50)) true true a0_2 a0_3 a1_0 a1_1 a1_2 a1_3 a1_4)))) = some r := by rw [if_pos rfl] at H; exact H
        clear H
        have H := H1
        clear H1
        by_cases c26 : a0_3 < 0
        ·rw [if_pos c26] at H
         have c26b0 : decide (a0_3 < 0) = true := decide_eq_true c26
         clear c26
         have H' := Aside0.mk H
         clear H
         have hnb27 := NB353_352.out
         have hnc27 := NB352_353.out
         have hcz28_0 : w10.cell? ⟨gb353, 0, none⟩ = some (.int .i64 a1_0) := (blk_cell BK353.out 0).trans rfl
         have hcz28_1 : w10.cell? ⟨gb353, 1, none⟩ = some (.int .i64 a1_1) := (blk_cell BK353.out 1).trans rfl
         have hcz28_2 : w10.cell? ⟨gb353, 2, none⟩ = some (.int .i64 a1_2) := (blk_cell BK353.out 2).trans rfl
         have hcz28_3 : w10.cell? ⟨gb353, 3, none⟩ = some (.int .i64 a1_3) := (blk_cell BK353.out 3).trans rfl
         have hcz28_4 : w10.cell? ⟨gb353, 4, none⟩ = some (.int .i64 a1_4) := (blk_cell BK353.out 4).trans rfl
         have hfz28_0 := blk_frozen BK353.out 0
         have hfz28_1 := blk_frozen BK353.out 1
         have hfz28_2 := blk_frozen BK353.out 2
         have hfz28_3 := blk_frozen BK353.out 3
         have hfz28_4 := blk_frozen BK353.out 4
         go_wp2_with (first | (go_at_call 13; (with_reducible refine (medl_Check.calls a1_0 a1_1 a1_2 a1_3 a1_4 t355 _ A13.out).mono ?_); rintro e w29 ⟨rfl, hb⟩; have n0_ := Aside0.mk (blk_below (g := gb352) (o := .cells #[.bool true, .bool true, .int .u64 a0_2, .int .i64 a0_3] 55 (0, 0)) (by (with_reducible repeat (first | refine blk_drewN ?_ _ | refine blk_drew ?_ | refine blk_alloc ?_ _)); refine blk_put (cs := #[.bool a0_0, .bool true, .int .u64 a0_2, .int .i64 a0_3]) ?_ 0 _ rfl; (with_reducible repeat (first | refine blk_drewN ?_ _ | refine blk_drew ?_ | refine blk_alloc ?_ _)); exact BK352.out) hb); have n1_ := Aside0.mk (blk_below (g := gb353) (o := .cells #[.int .i64 a1_0, .int .i64 a1_1, .int .i64 a1_2, .int .i64 a1_3, .int .i64 a1_4] 23 (0, 0)) (by (with_reducible repeat (first | refine blk_drewN ?_ _ | refine blk_drew ?_ | refine blk_alloc ?_ _)); refine blk_far ?_ NB353_352.out _; (with_reducible repeat (first | refine blk_drewN ?_ _ | refine blk_drew ?_ | refine blk_alloc ?_ _)); exact BK353.out) hb); have n2_ := Aside0.mk (below_step (by repeat (first | (with_reducible first | exact HB.out | apply below_alloc | apply pw_below_drewN | apply below_drew1 | refine below_set ?_ GE352.out | refine below_set ?_ GE353.out) | exact HB.out)) hb); clear BK352; clear BK353; clear HB; have BK352 := n0_; have BK353 := n1_; have HB := n2_; clear n0_ n1_ n2_; (try clear hb); (try clear hb2); (try clear hk); (try clear hi); have hcz30_0 : w29.cell? ⟨gb352, 0, none⟩ = some (.bool true) := (blk_cell BK352.out 0).trans rfl; have hcz30_1 : w29.cell? ⟨gb352, 1, none⟩ = some (.bool true) := (blk_cell BK352.out 1).trans rfl; have hcz30_2 : w29.cell? ⟨gb352, 2, none⟩ = some (.int .u64 a0_2) := (blk_cell BK352.out 2).trans rfl; have hcz30_3 : w29.cell? ⟨gb352, 3, none⟩ = some (.int .i64 a0_3) := (blk_cell BK352.out 3).trans rfl; have hfz30_0 := blk_frozen BK352.out 0; have hfz30_1 := blk_frozen BK352.out 1; have hfz30_2 := blk_frozen BK352.out 2; have hfz30_3 := blk_frozen BK352.out 3) | (go_at_call 28; (with_reducible refine (guard_Check.calls k true true a0_2 a0_3 t356 _ A23.out).mono ?_); rintro e w31 ⟨rfl, hb⟩; have n0_ := Aside0.mk (blk_below (g := gb352) (o := .cells #[.bool true, .bool true, .int .u64 a0_2, .int .i64 a0_3] 55 (0, 0)) (by (with_reducible repeat (first | refine blk_drewN ?_ _ | refine blk_drew ?_ | refine blk_alloc ?_ _)); exact BK352.out) hb); have n1_ := Aside0.mk (blk_below (g := gb353) (o := .cells #[.int .i64 a1_0, .int .i64 a1_1, .int .i64 a1_2, .int .i64 a1_3, .int .i64 a1_4] 23 (0, 0)) (by (with_reducible repeat (first | refine blk_drewN ?_ _ | refine blk_drew ?_ | refine blk_alloc ?_ _)); exact BK353.out) hb); have n2_ := Aside0.mk (below_step (by repeat (first | (with_reducible first | exact HB.out | apply below_alloc | apply pw_below_drewN | apply below_drew1 | refine below_set ?_ GE352.out | refine below_set ?_ GE353.out) | exact HB.out)) hb); clear BK352; clear BK353; clear HB; have BK352 := n0_; have BK353 := n1_; have HB := n2_; clear n0_ n1_ n2_; (try clear hb); (try clear hb2); (try clear hk); (try clear hi); have hcz32_0 : w31.cell? ⟨gb352, 0, none⟩ = some (.bool true) := (blk_cell BK352.out 0).trans rfl; have hcz32_1 : w31.cell? ⟨gb352, 1, none⟩ = some (.bool true) := (blk_cell BK352.out 1).trans rfl; have hcz32_2 : w31.cell? ⟨gb352, 2, none⟩ = some (.int .u64 a0_2) := (blk_cell BK352.out 2).trans rfl; have hcz32_3 : w31.cell? ⟨gb352, 3, none⟩ = some (.int .i64 a0_3) := (blk_cell BK352.out 3).trans rfl; have hfz32_0 := blk_frozen BK352.out 0; have hfz32_1 := blk_frozen BK352.out 1; have hfz32_2 := blk_frozen BK352.out 2; have hfz32_3 := blk_frozen BK352.out 3))
         repeat (go_quiet (first | (go_at_call 13; (with_reducible refine (medl_Check.calls a1_0 a1_1 a1_2 a1_3 a1_4 t355 _ A13.out).mono ?_); rintro e w29 ⟨rfl, hb⟩; have n0_ := Aside0.mk (blk_below (g := gb352) (o := .cells #[.bool true, .bool true, .int .u64 a0_2, .int .i64 a0_3] 55 (0, 0)) (by (with_reducible repeat (first | refine blk_drewN ?_ _ | refine blk_drew ?_ | refine blk_alloc ?_ _)); refine blk_put (cs := #[.bool a0_0, .bool true, .int .u64 a0_2, .int .i64 a0_3]) ?_ 0 _ rfl; (with_reducible repeat (first | refine blk_drewN ?_ _ | refine blk_drew ?_ | refine blk_alloc ?_ _)); exact BK352.out) hb); have n1_ := Aside0.mk (blk_below (g := gb353) (o := .cells #[.int .i64 a1_0, .int .i64 a1_1, .int .i64 a1_2, .int .i64 a1_3, .int .i64 a1_4] 23 (0, 0)) (by (with_reducible repeat (first | refine blk_drewN ?_ _ | refine blk_drew ?_ | refine blk_alloc ?_ _)); refine blk_far ?_ NB353_352.out _; (with_reducible repeat (first | refine blk_drewN ?_ _ | refine blk_drew ?_ | refine blk_alloc ?_ _)); exact BK353.out) hb); have n2_ := Aside0.mk (below_step (by repeat (first | (with_reducible first | exact HB.out | apply below_alloc | apply pw_below_drewN | apply below_drew1 | refine below_set ?_ GE352.out | refine below_set ?_ GE353.out) | exact HB.out)) hb); clear BK352; clear BK353; clear HB; have BK352 := n0_; have BK353 := n1_; have HB := n2_; clear n0_ n1_ n2_; (try clear hb); (try clear hb2); (try clear hk); (try clear hi); have hcz30_0 : w29.cell? ⟨gb352, 0, none⟩ = some (.bool true) := (blk_cell BK352.out 0).trans rfl; have hcz30_1 : w29.cell? ⟨gb352, 1, none⟩ = some (.bool true) := (blk_cell BK352.out 1).trans rfl; have hcz30_2 : w29.cell? ⟨gb352, 2, none⟩ = some (.int .u64 a0_2) := (blk_cell BK352.out 2).trans rfl; have hcz30_3 : w29.cell? ⟨gb352, 3, none⟩ = some (.int .i64 a0_3) := (blk_cell BK352.out 3).trans rfl; have hfz30_0 := blk_frozen BK352.out 0; have hfz30_1 := blk_frozen BK352.out 1; have hfz30_2 := blk_frozen BK352.out 2; have hfz30_3 := blk_frozen BK352.out 3) | (go_at_call 28; (with_reducible refine (guard_Check.calls k true true a0_2 a0_3 t356 _ A23.out).mono ?_); rintro e w31 ⟨rfl, hb⟩; have n0_ := Aside0.mk (blk_below (g := gb352) (o := .cells #[.bool true, .bool true, .int .u64 a0_2, .int .i64 a0_3] 55 (0, 0)) (by (with_reducible repeat (first | refine blk_drewN ?_ _ | refine blk_drew ?_ | refine blk_alloc ?_ _)); exact BK352.out) hb); have n1_ := Aside0.mk (blk_below (g := gb353) (o := .cells #[.int .i64 a1_0, .int .i64 a1_1, .int .i64 a1_2, .int .i64 a1_3, .int .i64 a1_4] 23 (0, 0)) (by (with_reducible repeat (first | refine blk_drewN ?_ _ | refine blk_drew ?_ | refine blk_alloc ?_ _)); exact BK353.out) hb); have n2_ := Aside0.mk (below_step (by repeat (first | (with_reducible first | exact HB.out | apply below_alloc | apply pw_below_drewN | apply below_drew1 | refine below_set ?_ GE352.out | refine below_set ?_ GE353.out) | exact HB.out)) hb); clear BK352; clear BK353; clear HB; have BK352 := n0_; have BK353 := n1_; have HB := n2_; clear n0_ n1_ n2_; (try clear hb); (try clear hb2); (try clear hk); (try clear hi); have hcz32_0 : w31.cell? ⟨gb352, 0, none⟩ = some (.bool true) := (blk_cell BK352.out 0).trans rfl; have hcz32_1 : w31.cell? ⟨gb352, 1, none⟩ = some (.bool true) := (blk_cell BK352.out 1).trans rfl; have hcz32_2 : w31.cell? ⟨gb352, 2, none⟩ = some (.int .u64 a0_2) := (blk_cell BK352.out 2).trans rfl; have hcz32_3 : w31.cell? ⟨gb352, 3, none⟩ = some (.int .i64 a0_3) := (blk_cell BK352.out 3).trans rfl; have hfz32_0 := blk_frozen BK352.out 0; have hfz32_1 := blk_frozen BK352.out 1; have hfz32_2 := blk_frozen BK352.out 2; have hfz32_3 := blk_frozen BK352.out 3)); try go_wp2_with (first | (go_at_call 13; (with_reducible refine (medl_Check.calls a1_0 a1_1 a1_2 a1_3 a1_4 t355 _ A13.out).mono ?_); rintro e w29 ⟨rfl, hb⟩; have n0_ := Aside0.mk (blk_below (g := gb352) (o := .cells #[.bool true, .bool true, .int .u64 a0_2, .int .i64 a0_3] 55 (0, 0)) (by (with_reducible repeat (first | refine blk_drewN ?_ _ | refine blk_drew ?_ | refine blk_alloc ?_ _)); refine blk_put (cs := #[.bool a0_0, .bool true, .int .u64 a0_2, .int .i64 a0_3]) ?_ 0 _ rfl; (with_reducible repeat (first | refine blk_drewN ?_ _ | refine blk_drew ?_ | refine blk_alloc ?_ _)); exact BK352.out) hb); have n1_ := Aside0.mk (blk_below (g := gb353) (o := .cells #[.int .i64 a1_0, .int .i64 a1_1, .int .i64 a1_2, .int .i64 a1_3, .int .i64 a1_4] 23 (0, 0)) (by (with_reducible repeat (first | refine blk_drewN ?_ _ | refine blk_drew ?_ | refine blk_alloc ?_ _)); refine blk_far ?_ NB353_352.out _; (with_reducible repeat (first | refine blk_drewN ?_ _ | refine blk_drew ?_ | refine blk_alloc ?_ _)); exact BK353.out) hb); have n2_ := Aside0.mk (below_step (by repeat (first | (with_reducible first | exact HB.out | apply below_alloc | apply pw_below_drewN | apply below_drew1 | refine below_set ?_ GE352.out | refine below_set ?_ GE353.out) | exact HB.out)) hb); clear BK352; clear BK353; clear HB; have BK352 := n0_; have BK353 := n1_; have HB := n2_; clear n0_ n1_ n2_; (try clear hb); (try clear hb2); (try clear hk); (try clear hi); have hcz30_0 : w29.cell? ⟨gb352, 0, none⟩ = some (.bool true) := (blk_cell BK352.out 0).trans rfl; have hcz30_1 : w29.cell? ⟨gb352, 1, none⟩ = some (.bool true) := (blk_cell BK352.out 1).trans rfl; have hcz30_2 : w29.cell? ⟨gb352, 2, none⟩ = some (.int .u64 a0_2) := (blk_cell BK352.out 2).trans rfl; have hcz30_3 : w29.cell? ⟨gb352, 3, none⟩ = some (.int .i64 a0_3) := (blk_cell BK352.out 3).trans rfl; have hfz30_0 := blk_frozen BK352.out 0; have hfz30_1 := blk_frozen BK352.out 1; have hfz30_2 := blk_frozen BK352.out 2; have hfz30_3 := blk_frozen BK352.out 3) | (go_at_call 28; (with_reducible refine (guard_Check.calls k true true a0_2 a0_3 t356 _ A23.out).mono ?_); rintro e w31 ⟨rfl, hb⟩; have n0_ := Aside0.mk (blk_below (g := gb352) (o := .cells #[.bool true, .bool true, .int .u64 a0_2, .int .i64 a0_3] 55 (0, 0)) (by (with_reducible repeat (first | refine blk_drewN ?_ _ | refine blk_drew ?_ | refine blk_alloc ?_ _)); exact BK352.out) hb); have n1_ := Aside0.mk (blk_below (g := gb353) (o := .cells #[.int .i64 a1_0, .int .i64 a1_1, .int .i64 a1_2, .int .i64 a1_3, .int .i64 a1_4] 23 (0, 0)) (by (with_reducible repeat (first | refine blk_drewN ?_ _ | refine blk_drew ?_ | refine blk_alloc ?_ _)); exact BK353.out) hb); have n2_ := Aside0.mk (below_step (by repeat (first | (with_reducible first | exact HB.out | apply below_alloc | apply pw_below_drewN | apply below_drew1 | refine below_set ?_ GE352.out | refine below_set ?_ GE353.out) | exact HB.out)) hb); clear BK352; clear BK353; clear HB; have BK352 := n0_; have BK353 := n1_; have HB := n2_; clear n0_ n1_ n2_; (try clear hb); (try clear hb2); (try clear hk); (try clear hi); have hcz32_0 : w31.cell? ⟨gb352, 0, none⟩ = some (.bool true) := (blk_cell BK352.out 0).trans rfl; have hcz32_1 : w31.cell? ⟨gb352, 1, none⟩ = some (.bool true) := (blk_cell BK352.out 1).trans rfl; have hcz32_2 : w31.cell? ⟨gb352, 2, none⟩ = some (.int .u64 a0_2) := (blk_cell BK352.out 2).trans rfl; have hcz32_3 : w31.cell? ⟨gb352, 3, none⟩ = some (.int .i64 a0_3) := (blk_cell BK352.out 3).trans rfl; have hfz32_0 := blk_frozen BK352.out 0; have hfz32_1 := blk_frozen BK352.out 1; have hfz32_2 := blk_frozen BK352.out 2; have hfz32_3 := blk_frozen BK352.out 3)))
         go_meet
         case rel => exact ⟨_, (true), (by first | rfl | (simp; done) | (simp [*]; done)), H', ⟨by first | omega | exact Nat.le_refl _⟩, ⟨by (with_reducible repeat (first | refine blk_drewN ?_ _ | refine blk_drew ?_ | refine blk_alloc ?_ _)); exact BK352.out⟩, ⟨by (with_reducible repeat (first | refine blk_drewN ?_ _ | refine blk_drew ?_ | refine blk_alloc ?_ _)); exact BK353.out⟩, ⟨by repeat (first | (with_reducible first | exact HB.out | apply below_alloc | apply pw_below_drewN | apply below_drew1 | refine below_set ?_ GE352.out | refine below_set ?_ GE353.out) | exact HB.out)⟩⟩
        ·rw [if_neg c26] at H
         have c26b0 : decide (a0_3 < 0) = false := decide_eq_false c26
         clear c26
         by_cases c33 : a0_3 > 1125899906842624
         ·rw [if_pos c33] at H
          have c33b0 : decide (1125899906842624 < a0_3) = true := decide_eq_true c33
          clear c33
          have H' := Aside0.mk H
          clear H
          have hnb34 := NB353_352.out
          have hnc34 := NB352_353.out
          have hcz35_0 : w10.cell? ⟨gb353, 0, none⟩ = some (.int .i64 a1_0) := (blk_cell BK353.out 0).trans rfl
          have hcz35_1 : w10.cell? ⟨gb353, 1, none⟩ = some (.int .i64 a1_1) := (blk_cell BK353.out 1).trans rfl
          have hcz35_2 : w10.cell? ⟨gb353, 2, none⟩ = some (.int .i64 a1_2) := (blk_cell BK353.out 2).trans rfl
          have hcz35_3 : w10.cell? ⟨gb353, 3, none⟩ = some (.int .i64 a1_3) := (blk_cell BK353.out 3).trans rfl
          have hcz35_4 : w10.cell? ⟨gb353, 4, none⟩ = some (.int .i64 a1_4) := (blk_cell BK353.out 4).trans rfl
          have hfz35_0 := blk_frozen BK353.out 0
          have hfz35_1 := blk_frozen BK353.out 1
          have hfz35_2 := blk_frozen BK353.out 2
          have hfz35_3 := blk_frozen BK353.out 3
          have hfz35_4 := blk_frozen BK353.out 4
          go_wp2_with (first | (go_at_call 13; (with_reducible refine (medl_Check.calls a1_0 a1_1 a1_2 a1_3 a1_4 t355 _ A13.out).mono ?_); rintro e w36 ⟨rfl, hb⟩; have n0_ := Aside0.mk (blk_below (g := gb352) (o := .cells #[.bool true, .bool true, .int .u64 a0_2, .int .i64 a0_3] 55 (0, 0)) (by (with_reducible repeat (first | refine blk_drewN ?_ _ | refine blk_drew ?_ | refine blk_alloc ?_ _)); refine blk_put (cs := #[.bool a0_0, .bool true, .int .u64 a0_2, .int .i64 a0_3]) ?_ 0 _ rfl; (with_reducible repeat (first | refine blk_drewN ?_ _ | refine blk_drew ?_ | refine blk_alloc ?_ _)); exact BK352.out) hb); have n1_ := Aside0.mk (blk_below (g := gb353) (o := .cells #[.int .i64 a1_0, .int .i64 a1_1, .int .i64 a1_2, .int .i64 a1_3, .int .i64 a1_4] 23 (0, 0)) (by (with_reducible repeat (first | refine blk_drewN ?_ _ | refine blk_drew ?_ | refine blk_alloc ?_ _)); refine blk_far ?_ NB353_352.out _; (with_reducible repeat (first | refine blk_drewN ?_ _ | refine blk_drew ?_ | refine blk_alloc ?_ _)); exact BK353.out) hb); have n2_ := Aside0.mk (below_step (by repeat (first | (with_reducible first | exact HB.out | apply below_alloc | apply pw_below_drewN | apply below_drew1 | refine below_set ?_ GE352.out | refine below_set ?_ GE353.out) | exact HB.out)) hb); clear BK352; clear BK353; clear HB; have BK352 := n0_; have BK353 := n1_; have HB := n2_; clear n0_ n1_ n2_; (try clear hb); (try clear hb2); (try clear hk); (try clear hi); have hcz37_0 : w36.cell? ⟨gb352, 0, none⟩ = some (.bool true) := (blk_cell BK352.out 0).trans rfl; have hcz37_1 : w36.cell? ⟨gb352, 1, none⟩ = some (.bool true) := (blk_cell BK352.out 1).trans rfl; have hcz37_2 : w36.cell? ⟨gb352, 2, none⟩ = some (.int .u64 a0_2) := (blk_cell BK352.out 2).trans rfl; have hcz37_3 : w36.cell? ⟨gb352, 3, none⟩ = some (.int .i64 a0_3) := (blk_cell BK352.out 3).trans rfl; have hfz37_0 := blk_frozen BK352.out 0; have hfz37_1 := blk_frozen BK352.out 1; have hfz37_2 := blk_frozen BK352.out 2; have hfz37_3 := blk_frozen BK352.out 3) | (go_at_call 28; (with_reducible refine (guard_Check.calls k true true a0_2 a0_3 t356 _ A23.out).mono ?_); rintro e w38 ⟨rfl, hb⟩; have n0_ := Aside0.mk (blk_below (g := gb352) (o := .cells #[.bool true, .bool true, .int .u64 a0_2, .int .i64 a0_3] 55 (0, 0)) (by (with_reducible repeat (first | refine blk_drewN ?_ _ | refine blk_drew ?_ | refine blk_alloc ?_ _)); exact BK352.out) hb); have n1_ := Aside0.mk (blk_below (g := gb353) (o := .cells #[.int .i64 a1_0, .int .i64 a1_1, .int .i64 a1_2, .int .i64 a1_3, .int .i64 a1_4] 23 (0, 0)) (by (with_reducible repeat (first | refine blk_drewN ?_ _ | refine blk_drew ?_ | refine blk_alloc ?_ _)); exact BK353.out) hb); have n2_ := Aside0.mk (below_step (by repeat (first | (with_reducible first | exact HB.out | apply below_alloc | apply pw_below_drewN | apply below_drew1 | refine below_set ?_ GE352.out | refine below_set ?_ GE353.out) | exact HB.out)) hb); clear BK352; clear BK353; clear HB; have BK352 := n0_; have BK353 := n1_; have HB := n2_; clear n0_ n1_ n2_; (try clear hb); (try clear hb2); (try clear hk); (try clear hi); have hcz39_0 : w38.cell? ⟨gb352, 0, none⟩ = some (.bool true) := (blk_cell BK352.out 0).trans rfl; have hcz39_1 : w38.cell? ⟨gb352, 1, none⟩ = some (.bool true) := (blk_cell BK352.out 1).trans rfl; have hcz39_2 : w38.cell? ⟨gb352, 2, none⟩ = some (.int .u64 a0_2) := (blk_cell BK352.out 2).trans rfl; have hcz39_3 : w38.cell? ⟨gb352, 3, none⟩ = some (.int .i64 a0_3) := (blk_cell BK352.out 3).trans rfl; have hfz39_0 := blk_frozen BK352.out 0; have hfz39_1 := blk_frozen BK352.out 1; have hfz39_2 := blk_frozen BK352.out 2; have hfz39_3 := blk_frozen BK352.out 3))
          repeat (go_quiet (first | (go_at_call 13; (with_reducible refine (medl_Check.calls a1_0 a1_1 a1_2 a1_3 a1_4 t355 _ A13.out).mono ?_); rintro e w36 ⟨rfl, hb⟩; have n0_ := Aside0.mk (blk_below (g := gb352) (o := .cells #[.bool true, .bool true, .int .u64 a0_2, .int .i64 a0_3] 55 (0, 0)) (by (with_reducible repeat (first | refine blk_drewN ?_ _ | refine blk_drew ?_ | refine blk_alloc ?_ _)); refine blk_put (cs := #[.bool a0_0, .bool true, .int .u64 a0_2, .int .i64 a0_3]) ?_ 0 _ rfl; (with_reducible repeat (first | refine blk_drewN ?_ _ | refine blk_drew ?_ | refine blk_alloc ?_ _)); exact BK352.out) hb); have n1_ := Aside0.mk (blk_below (g := gb353) (o := .cells #[.int .i64 a1_0, .int .i64 a1_1, .int .i64 a1_2, .int .i64 a1_3, .int .i64 a1_4] 23 (0, 0)) (by (with_reducible repeat (first | refine blk_drewN ?_ _ | refine blk_drew ?_ | refine blk_alloc ?_ _)); refine blk_far ?_ NB353_352.out _; (with_reducible repeat (first | refine blk_drewN ?_ _ | refine blk_drew ?_ | refine blk_alloc ?_ _)); exact BK353.out) hb); have n2_ := Aside0.mk (below_step (by repeat (first | (with_reducible first | exact HB.out | apply below_alloc | apply pw_below_drewN | apply below_drew1 | refine below_set ?_ GE352.out | refine below_set ?_ GE353.out) | exact HB.out)) hb); clear BK352; clear BK353; clear HB; have BK352 := n0_; have BK353 := n1_; have HB := n2_; clear n0_ n1_ n2_; (try clear hb); (try clear hb2); (try clear hk); (try clear hi); have hcz37_0 : w36.cell? ⟨gb352, 0, none⟩ = some (.bool true) := (blk_cell BK352.out 0).trans rfl; have hcz37_1 : w36.cell? ⟨gb352, 1, none⟩ = some (.bool true) := (blk_cell BK352.out 1).trans rfl; have hcz37_2 : w36.cell? ⟨gb352, 2, none⟩ = some (.int .u64 a0_2) := (blk_cell BK352.out 2).trans rfl; have hcz37_3 : w36.cell? ⟨gb352, 3, none⟩ = some (.int .i64 a0_3) := (blk_cell BK352.out 3).trans rfl; have hfz37_0 := blk_frozen BK352.out 0; have hfz37_1 := blk_frozen BK352.out 1; have hfz37_2 := blk_frozen BK352.out 2; have hfz37_3 := blk_frozen BK352.out 3) | (go_at_call 28; (with_reducible refine (guard_Check.calls k true true a0_2 a0_3 t356 _ A23.out).mono ?_); rintro e w38 ⟨rfl, hb⟩; have n0_ := Aside0.mk (blk_below (g := gb352) (o := .cells #[.bool true, .bool true, .int .u64 a0_2, .int .i64 a0_3] 55 (0, 0)) (by (with_reducible repeat (first | refine blk_drewN ?_ _ | refine blk_drew ?_ | refine blk_alloc ?_ _)); exact BK352.out) hb); have n1_ := Aside0.mk (blk_below (g := gb353) (o := .cells #[.int .i64 a1_0, .int .i64 a1_1, .int .i64 a1_2, .int .i64 a1_3, .int .i64 a1_4] 23 (0, 0)) (by (with_reducible repeat (first | refine blk_drewN ?_ _ | refine blk_drew ?_ | refine blk_alloc ?_ _)); exact BK353.out) hb); have n2_ := Aside0.mk (below_step (by repeat (first | (with_reducible first | exact HB.out | apply below_alloc | apply pw_below_drewN | apply below_drew1 | refine below_set ?_ GE352.out | refine below_set ?_ GE353.out) | exact HB.out)) hb); clear BK352; clear BK353; clear HB; have BK352 := n0_; have BK353 := n1_; have HB := n2_; clear n0_ n1_ n2_; (try clear hb); (try clear hb2); (try clear hk); (try clear hi); have hcz39_0 : w38.cell? ⟨gb352, 0, none⟩ = some (.bool true) := (blk_cell BK352.out 0).trans rfl; have hcz39_1 : w38.cell? ⟨gb352, 1, none⟩ = some (.bool true) := (blk_cell BK352.out 1).trans rfl; have hcz39_2 : w38.cell? ⟨gb352, 2, none⟩ = some (.int .u64 a0_2) := (blk_cell BK352.out 2).trans rfl; have hcz39_3 : w38.cell? ⟨gb352, 3, none⟩ = some (.int .i64 a0_3) := (blk_cell BK352.out 3).trans rfl; have hfz39_0 := blk_frozen BK352.out 0; have hfz39_1 := blk_frozen BK352.out 1; have hfz39_2 := blk_frozen BK352.out 2; have hfz39_3 := blk_frozen BK352.out 3)); try go_wp2_with (first | (go_at_call 13; (with_reducible refine (medl_Check.calls a1_0 a1_1 a1_2 a1_3 a1_4 t355 _ A13.out).mono ?_); rintro e w36 ⟨rfl, hb⟩; have n0_ := Aside0.mk (blk_below (g := gb352) (o := .cells #[.bool true, .bool true, .int .u64 a0_2, .int .i64 a0_3] 55 (0, 0)) (by (with_reducible repeat (first | refine blk_drewN ?_ _ | refine blk_drew ?_ | refine blk_alloc ?_ _)); refine blk_put (cs := #[.bool a0_0, .bool true, .int .u64 a0_2, .int .i64 a0_3]) ?_ 0 _ rfl; (with_reducible repeat (first | refine blk_drewN ?_ _ | refine blk_drew ?_ | refine blk_alloc ?_ _)); exact BK352.out) hb); have n1_ := Aside0.mk (blk_below (g := gb353) (o := .cells #[.int .i64 a1_0, .int .i64 a1_1, .int .i64 a1_2, .int .i64 a1_3, .int .i64 a1_4] 23 (0, 0)) (by (with_reducible repeat (first | refine blk_drewN ?_ _ | refine blk_drew ?_ | refine blk_alloc ?_ _)); refine blk_far ?_ NB353_352.out _; (with_reducible repeat (first | refine blk_drewN ?_ _ | refine blk_drew ?_ | refine blk_alloc ?_ _)); exact BK353.out) hb); have n2_ := Aside0.mk (below_step (by repeat (first | (with_reducible first | exact HB.out | apply below_alloc | apply pw_below_drewN | apply below_drew1 | refine below_set ?_ GE352.out | refine below_set ?_ GE353.out) | exact HB.out)) hb); clear BK352; clear BK353; clear HB; have BK352 := n0_; have BK353 := n1_; have HB := n2_; clear n0_ n1_ n2_; (try clear hb); (try clear hb2); (try clear hk); (try clear hi); have hcz37_0 : w36.cell? ⟨gb352, 0, none⟩ = some (.bool true) := (blk_cell BK352.out 0).trans rfl; have hcz37_1 : w36.cell? ⟨gb352, 1, none⟩ = some (.bool true) := (blk_cell BK352.out 1).trans rfl; have hcz37_2 : w36.cell? ⟨gb352, 2, none⟩ = some (.int .u64 a0_2) := (blk_cell BK352.out 2).trans rfl; have hcz37_3 : w36.cell? ⟨gb352, 3, none⟩ = some (.int .i64 a0_3) := (blk_cell BK352.out 3).trans rfl; have hfz37_0 := blk_frozen BK352.out 0; have hfz37_1 := blk_frozen BK352.out 1; have hfz37_2 := blk_frozen BK352.out 2; have hfz37_3 := blk_frozen BK352.out 3) | (go_at_call 28; (with_reducible refine (guard_Check.calls k true true a0_2 a0_3 t356 _ A23.out).mono ?_); rintro e w38 ⟨rfl, hb⟩; have n0_ := Aside0.mk (blk_below (g := gb352) (o := .cells #[.bool true, .bool true, .int .u64 a0_2, .int .i64 a0_3] 55 (0, 0)) (by (with_reducible repeat (first | refine blk_drewN ?_ _ | refine blk_drew ?_ | refine blk_alloc ?_ _)); exact BK352.out) hb); have n1_ := Aside0.mk (blk_below (g := gb353) (o := .cells #[.int .i64 a1_0, .int .i64 a1_1, .int .i64 a1_2, .int .i64 a1_3, .int .i64 a1_4] 23 (0, 0)) (by (with_reducible repeat (first | refine blk_drewN ?_ _ | refine blk_drew ?_ | refine blk_alloc ?_ _)); exact BK353.out) hb); have n2_ := Aside0.mk (below_step (by repeat (first | (with_reducible first | exact HB.out | apply below_alloc | apply pw_below_drewN | apply below_drew1 | refine below_set ?_ GE352.out | refine below_set ?_ GE353.out) | exact HB.out)) hb); clear BK352; clear BK353; clear HB; have BK352 := n0_; have BK353 := n1_; have HB := n2_; clear n0_ n1_ n2_; (try clear hb); (try clear hb2); (try clear hk); (try clear hi); have hcz39_0 : w38.cell? ⟨gb352, 0, none⟩ = some (.bool true) := (blk_cell BK352.out 0).trans rfl; have hcz39_1 : w38.cell? ⟨gb352, 1, none⟩ = some (.bool true) := (blk_cell BK352.out 1).trans rfl; have hcz39_2 : w38.cell? ⟨gb352, 2, none⟩ = some (.int .u64 a0_2) := (blk_cell BK352.out 2).trans rfl; have hcz39_3 : w38.cell? ⟨gb352, 3, none⟩ = some (.int .i64 a0_3) := (blk_cell BK352.out 3).trans rfl; have hfz39_0 := blk_frozen BK352.out 0; have hfz39_1 := blk_frozen BK352.out 1; have hfz39_2 := blk_frozen BK352.out 2; have hfz39_3 := blk_frozen BK352.out 3)))
          go_meet
          case rel => exact ⟨_, (true), (by first | rfl | (simp; done) | (simp [*]; done)), H', ⟨by first | omega | exact Nat.le_refl _⟩, ⟨by (with_reducible repeat (first | refine blk_drewN ?_ _ | refine blk_drew ?_ | refine blk_alloc ?_ _)); exact BK352.out⟩, ⟨by (with_reducible repeat (first | refine blk_drewN ?_ _ | refine blk_drew ?_ | refine blk_alloc ?_ _)); exact BK353.out⟩, ⟨by repeat (first | (with_reducible first | exact HB.out | apply below_alloc | apply pw_below_drewN | apply below_drew1 | refine below_set ?_ GE352.out | refine below_set ?_ GE353.out) | exact HB.out)⟩⟩
         ·rw [if_neg c33] at H
          have c33b0 : decide (1125899906842624 < a0_3) = false := decide_eq_false c33
          clear c33
          by_cases c40 : a0_2 > 1073741824
          ·rw [if_pos c40] at H
           have c40b0 : decide (1073741824 < a0_2) = true := decide_eq_true c40
           clear c40
           have H' := Aside0.mk H
           clear H
           have hnb41 := NB353_352.out
           have hnc41 := NB352_353.out
           have hcz42_0 : w10.cell? ⟨gb353, 0, none⟩ = some (.int .i64 a1_0) := (blk_cell BK353.out 0).trans rfl
           have hcz42_1 : w10.cell? ⟨gb353, 1, none⟩ = some (.int .i64 a1_1) := (blk_cell BK353.out 1).trans rfl
           have hcz42_2 : w10.cell? ⟨gb353, 2, none⟩ = some (.int .i64 a1_2) := (blk_cell BK353.out 2).trans rfl
           have hcz42_3 : w10.cell? ⟨gb353, 3, none⟩ = some (.int .i64 a1_3) := (blk_cell BK353.out 3).trans rfl
           have hcz42_4 : w10.cell? ⟨gb353, 4, none⟩ = some (.int .i64 a1_4) := (blk_cell BK353.out 4).trans rfl
           have hfz42_0 := blk_frozen BK353.out 0
           have hfz42_1 := blk_frozen BK353.out 1
           have hfz42_2 := blk_frozen BK353.out 2
           have hfz42_3 := blk_frozen BK353.out 3
           have hfz42_4 := blk_frozen BK353.out 4
           go_wp2_with (first | (go_at_call 13; (with_reducible refine (medl_Check.calls a1_0 a1_1 a1_2 a1_3 a1_4 t355 _ A13.out).mono ?_); rintro e w43 ⟨rfl, hb⟩; have n0_ := Aside0.mk (blk_below (g := gb352) (o := .cells #[.bool true, .bool true, .int .u64 a0_2, .int .i64 a0_3] 55 (0, 0)) (by (with_reducible repeat (first | refine blk_drewN ?_ _ | refine blk_drew ?_ | refine blk_alloc ?_ _)); refine blk_put (cs := #[.bool a0_0, .bool true, .int .u64 a0_2, .int .i64 a0_3]) ?_ 0 _ rfl; (with_reducible repeat (first | refine blk_drewN ?_ _ | refine blk_drew ?_ | refine blk_alloc ?_ _)); exact BK352.out) hb); have n1_ := Aside0.mk (blk_below (g := gb353) (o := .cells #[.int .i64 a1_0, .int .i64 a1_1, .int .i64 a1_2, .int .i64 a1_3, .int .i64 a1_4] 23 (0, 0)) (by (with_reducible repeat (first | refine blk_drewN ?_ _ | refine blk_drew ?_ | refine blk_alloc ?_ _)); refine blk_far ?_ NB353_352.out _; (with_reducible repeat (first | refine blk_drewN ?_ _ | refine blk_drew ?_ | refine blk_alloc ?_ _)); exact BK353.out) hb); have n2_ := Aside0.mk (below_step (by repeat (first | (with_reducible first | exact HB.out | apply below_alloc | apply pw_below_drewN | apply below_drew1 | refine below_set ?_ GE352.out | refine below_set ?_ GE353.out) | exact HB.out)) hb); clear BK352; clear BK353; clear HB; have BK352 := n0_; have BK353 := n1_; have HB := n2_; clear n0_ n1_ n2_; (try clear hb); (try clear hb2); (try clear hk); (try clear hi); have hcz44_0 : w43.cell? ⟨gb352, 0, none⟩ = some (.bool true) := (blk_cell BK352.out 0).trans rfl; have hcz44_1 : w43.cell? ⟨gb352, 1, none⟩ = some (.bool true) := (blk_cell BK352.out 1).trans rfl; have hcz44_2 : w43.cell? ⟨gb352, 2, none⟩ = some (.int .u64 a0_2) := (blk_cell BK352.out 2).trans rfl; have hcz44_3 : w43.cell? ⟨gb352, 3, none⟩ = some (.int .i64 a0_3) := (blk_cell BK352.out 3).trans rfl; have hfz44_0 := blk_frozen BK352.out 0; have hfz44_1 := blk_frozen BK352.out 1; have hfz44_2 := blk_frozen BK352.out 2; have hfz44_3 := blk_frozen BK352.out 3) | (go_at_call 28; (with_reducible refine (guard_Check.calls k true true a0_2 a0_3 t356 _ A23.out).mono ?_); rintro e w45 ⟨rfl, hb⟩; have n0_ := Aside0.mk (blk_below (g := gb352) (o := .cells #[.bool true, .bool true, .int .u64 a0_2, .int .i64 a0_3] 55 (0, 0)) (by (with_reducible repeat (first | refine blk_drewN ?_ _ | refine blk_drew ?_ | refine blk_alloc ?_ _)); exact BK352.out) hb); have n1_ := Aside0.mk (blk_below (g := gb353) (o := .cells #[.int .i64 a1_0, .int .i64 a1_1, .int .i64 a1_2, .int .i64 a1_3, .int .i64 a1_4] 23 (0, 0)) (by (with_reducible repeat (first | refine blk_drewN ?_ _ | refine blk_drew ?_ | refine blk_alloc ?_ _)); exact BK353.out) hb); have n2_ := Aside0.mk (below_step (by repeat (first | (with_reducible first | exact HB.out | apply below_alloc | apply pw_below_drewN | apply below_drew1 | refine below_set ?_ GE352.out | refine below_set ?_ GE353.out) | exact HB.out)) hb); clear BK352; clear BK353; clear HB; have BK352 := n0_; have BK353 := n1_; have HB := n2_; clear n0_ n1_ n2_; (try clear hb); (try clear hb2); (try clear hk); (try clear hi); have hcz46_0 : w45.cell? ⟨gb352, 0, none⟩ = some (.bool true) := (blk_cell BK352.out 0).trans rfl; have hcz46_1 : w45.cell? ⟨gb352, 1, none⟩ = some (.bool true) := (blk_cell BK352.out 1).trans rfl; have hcz46_2 : w45.cell? ⟨gb352, 2, none⟩ = some (.int .u64 a0_2) := (blk_cell BK352.out 2).trans rfl; have hcz46_3 : w45.cell? ⟨gb352, 3, none⟩ = some (.int .i64 a0_3) := (blk_cell BK352.out 3).trans rfl; have hfz46_0 := blk_frozen BK352.out 0; have hfz46_1 := blk_frozen BK352.out 1; have hfz46_2 := blk_frozen BK352.out 2; have hfz46_3 := blk_frozen BK352.out 3))
           repeat (go_quiet (first | (go_at_call 13; (with_reducible refine (medl_Check.calls a1_0 a1_1 a1_2 a1_3 a1_4 t355 _ A13.out).mono ?_); rintro e w43 ⟨rfl, hb⟩; have n0_ := Aside0.mk (blk_below (g := gb352) (o := .cells #[.bool true, .bool true, .int .u64 a0_2, .int .i64 a0_3] 55 (0, 0)) (by (with_reducible repeat (first | refine blk_drewN ?_ _ | refine blk_drew ?_ | refine blk_alloc ?_ _)); refine blk_put (cs := #[.bool a0_0, .bool true, .int .u64 a0_2, .int .i64 a0_3]) ?_ 0 _ rfl; (with_reducible repeat (first | refine blk_drewN ?_ _ | refine blk_drew ?_ | refine blk_alloc ?_ _)); exact BK352.out) hb); have n1_ := Aside0.mk (blk_below (g := gb353) (o := .cells #[.int .i64 a1_0, .int .i64 a1_1, .int .i64 a1_2, .int .i64 a1_3, .int .i64 a1_4] 23 (0, 0)) (by (with_reducible repeat (first | refine blk_drewN ?_ _ | refine blk_drew ?_ | refine blk_alloc ?_ _)); refine blk_far ?_ NB353_352.out _; (with_reducible repeat (first | refine blk_drewN ?_ _ | refine blk_drew ?_ | refine blk_alloc ?_ _)); exact BK353.out) hb); have n2_ := Aside0.mk (below_step (by repeat (first | (with_reducible first | exact HB.out | apply below_alloc | apply pw_below_drewN | apply below_drew1 | refine below_set ?_ GE352.out | refine below_set ?_ GE353.out) | exact HB.out)) hb); clear BK352; clear BK353; clear HB; have BK352 := n0_; have BK353 := n1_; have HB := n2_; clear n0_ n1_ n2_; (try clear hb); (try clear hb2); (try clear hk); (try clear hi); have hcz44_0 : w43.cell? ⟨gb352, 0, none⟩ = some (.bool true) := (blk_cell BK352.out 0).trans rfl; have hcz44_1 : w43.cell? ⟨gb352, 1, none⟩ = some (.bool true) := (blk_cell BK352.out 1).trans rfl; have hcz44_2 : w43.cell? ⟨gb352, 2, none⟩ = some (.int .u64 a0_2) := (blk_cell BK352.out 2).trans rfl; have hcz44_3 : w43.cell? ⟨gb352, 3, none⟩ = some (.int .i64 a0_3) := (blk_cell BK352.out 3).trans rfl; have hfz44_0 := blk_frozen BK352.out 0; have hfz44_1 := blk_frozen BK352.out 1; have hfz44_2 := blk_frozen BK352.out 2; have hfz44_3 := blk_frozen BK352.out 3) | (go_at_call 28; (with_reducible refine (guard_Check.calls k true true a0_2 a0_3 t356 _ A23.out).mono ?_); rintro e w45 ⟨rfl, hb⟩; have n0_ := Aside0.mk (blk_below (g := gb352) (o := .cells #[.bool true, .bool true, .int .u64 a0_2, .int .i64 a0_3] 55 (0, 0)) (by (with_reducible repeat (first | refine blk_drewN ?_ _ | refine blk_drew ?_ | refine blk_alloc ?_ _)); exact BK352.out) hb); have n1_ := Aside0.mk (blk_below (g := gb353) (o := .cells #[.int .i64 a1_0, .int .i64 a1_1, .int .i64 a1_2, .int .i64 a1_3, .int .i64 a1_4] 23 (0, 0)) (by (with_reducible repeat (first | refine blk_drewN ?_ _ | refine blk_drew ?_ | refine blk_alloc ?_ _)); exact BK353.out) hb); have n2_ := Aside0.mk (below_step (by repeat (first | (with_reducible first | exact HB.out | apply below_alloc | apply pw_below_drewN | apply below_drew1 | refine below_set ?_ GE352.out | refine below_set ?_ GE353.out) | exact HB.out)) hb); clear BK352; clear BK353; clear HB; have BK352 := n0_; have BK353 := n1_; have HB := n2_; clear n0_ n1_ n2_; (try clear hb); (try clear hb2); (try clear hk); (try clear hi); have hcz46_0 : w45.cell? ⟨gb352, 0, none⟩ = some (.bool true) := (blk_cell BK352.out 0).trans rfl; have hcz46_1 : w45.cell? ⟨gb352, 1, none⟩ = some (.bool true) := (blk_cell BK352.out 1).trans rfl; have hcz46_2 : w45.cell? ⟨gb352, 2, none⟩ = some (.int .u64 a0_2) := (blk_cell BK352.out 2).trans rfl; have hcz46_3 : w45.cell? ⟨gb352, 3, none⟩ = some (.int .i64 a0_3) := (blk_cell BK352.out 3).trans rfl; have hfz46_0 := blk_frozen BK352.out 0; have hfz46_1 := blk_frozen BK352.out 1; have hfz46_2 := blk_frozen BK352.out 2; have hfz46_3 := blk_frozen BK352.out 3)); try go_wp2_with (first | (go_at_call 13; (with_reducible refine (medl_Check.calls a1_0 a1_1 a1_2 a1_3 a1_4 t355 _ A13.out).mono ?_); rintro e w43 ⟨rfl, hb⟩; have n0_ := Aside0.mk (blk_below (g := gb352) (o := .cells #[.bool true, .bool true, .int .u64 a0_2, .int .i64 a0_3] 55 (0, 0)) (by (with_reducible repeat (first | refine blk_drewN ?_ _ | refine blk_drew ?_ | refine blk_alloc ?_ _)); refine blk_put (cs := #[.bool a0_0, .bool true, .int .u64 a0_2, .int .i64 a0_3]) ?_ 0 _ rfl; (with_reducible repeat (first | refine blk_drewN ?_ _ | refine blk_drew ?_ | refine blk_alloc ?_ _)); exact BK352.out) hb); have n1_ := Aside0.mk (blk_below (g := gb353) (o := .cells #[.int .i64 a1_0, .int .i64 a1_1, .int .i64 a1_2, .int .i64 a1_3, .int .i64 a1_4] 23 (0, 0)) (by (with_reducible repeat (first | refine blk_drewN ?_ _ | refine blk_drew ?_ | refine blk_alloc ?_ _)); refine blk_far ?_ NB353_352.out _; (with_reducible repeat (first | refine blk_drewN ?_ _ | refine blk_drew ?_ | refine blk_alloc ?_ _)); exact BK353.out) hb); have n2_ := Aside0.mk (below_step (by repeat (first | (with_reducible first | exact HB.out | apply below_alloc | apply pw_below_drewN | apply below_drew1 | refine below_set ?_ GE352.out | refine below_set ?_ GE353.out) | exact HB.out)) hb); clear BK352; clear BK353; clear HB; have BK352 := n0_; have BK353 := n1_; have HB := n2_; clear n0_ n1_ n2_; (try clear hb); (try clear hb2); (try clear hk); (try clear hi); have hcz44_0 : w43.cell? ⟨gb352, 0, none⟩ = some (.bool true) := (blk_cell BK352.out 0).trans rfl; have hcz44_1 : w43.cell? ⟨gb352, 1, none⟩ = some (.bool true) := (blk_cell BK352.out 1).trans rfl; have hcz44_2 : w43.cell? ⟨gb352, 2, none⟩ = some (.int .u64 a0_2) := (blk_cell BK352.out 2).trans rfl; have hcz44_3 : w43.cell? ⟨gb352, 3, none⟩ = some (.int .i64 a0_3) := (blk_cell BK352.out 3).trans rfl; have hfz44_0 := blk_frozen BK352.out 0; have hfz44_1 := blk_frozen BK352.out 1; have hfz44_2 := blk_frozen BK352.out 2; have hfz44_3 := blk_frozen BK352.out 3) | (go_at_call 28; (with_reducible refine (guard_Check.calls k true true a0_2 a0_3 t356 _ A23.out).mono ?_); rintro e w45 ⟨rfl, hb⟩; have n0_ := Aside0.mk (blk_below (g := gb352) (o := .cells #[.bool true, .bool true, .int .u64 a0_2, .int .i64 a0_3] 55 (0, 0)) (by (with_reducible repeat (first | refine blk_drewN ?_ _ | refine blk_drew ?_ | refine blk_alloc ?_ _)); exact BK352.out) hb); have n1_ := Aside0.mk (blk_below (g := gb353) (o := .cells #[.int .i64 a1_0, .int .i64 a1_1, .int .i64 a1_2, .int .i64 a1_3, .int .i64 a1_4] 23 (0, 0)) (by (with_reducible repeat (first | refine blk_drewN ?_ _ | refine blk_drew ?_ | refine blk_alloc ?_ _)); exact BK353.out) hb); have n2_ := Aside0.mk (below_step (by repeat (first | (with_reducible first | exact HB.out | apply below_alloc | apply pw_below_drewN | apply below_drew1 | refine below_set ?_ GE352.out | refine below_set ?_ GE353.out) | exact HB.out)) hb); clear BK352; clear BK353; clear HB; have BK352 := n0_; have BK353 := n1_; have HB := n2_; clear n0_ n1_ n2_; (try clear hb); (try clear hb2); (try clear hk); (try clear hi); have hcz46_0 : w45.cell? ⟨gb352, 0, none⟩ = some (.bool true) := (blk_cell BK352.out 0).trans rfl; have hcz46_1 : w45.cell? ⟨gb352, 1, none⟩ = some (.bool true) := (blk_cell BK352.out 1).trans rfl; have hcz46_2 : w45.cell? ⟨gb352, 2, none⟩ = some (.int .u64 a0_2) := (blk_cell BK352.out 2).trans rfl; have hcz46_3 : w45.cell? ⟨gb352, 3, none⟩ = some (.int .i64 a0_3) := (blk_cell BK352.out 3).trans rfl; have hfz46_0 := blk_frozen BK352.out 0; have hfz46_1 := blk_frozen BK352.out 1; have hfz46_2 := blk_frozen BK352.out 2; have hfz46_3 := blk_frozen BK352.out 3)))
           go_meet
           case rel => exact ⟨_, (true), (by first | rfl | (simp; done) | (simp [*]; done)), H', ⟨by first | omega | exact Nat.le_refl _⟩, ⟨by (with_reducible repeat (first | refine blk_drewN ?_ _ | refine blk_drew ?_ | refine blk_alloc ?_ _)); exact BK352.out⟩, ⟨by (with_reducible repeat (first | refine blk_drewN ?_ _ | refine blk_drew ?_ | refine blk_alloc ?_ _)); exact BK353.out⟩, ⟨by repeat (first | (with_reducible first | exact HB.out | apply below_alloc | apply pw_below_drewN | apply below_drew1 | refine below_set ?_ GE352.out | refine below_set ?_ GE353.out) | exact HB.out)⟩⟩
          ·rw [if_neg c40] at H
           have c40b0 : decide (1073741824 < a0_2) = false := decide_eq_false c40
           clear c40
           have H' := Aside0.mk H
           clear H
           have hnb47 := NB353_352.out
           have hnc47 := NB352_353.out
           have hcz48_0 : w10.cell? ⟨gb353, 0, none⟩ = some (.int .i64 a1_0) := (blk_cell BK353.out 0).trans rfl
           have hcz48_1 : w10.cell? ⟨gb353, 1, none⟩ = some (.int .i64 a1_1) := (blk_cell BK353.out 1).trans rfl
           have hcz48_2 : w10.cell? ⟨gb353, 2, none⟩ = some (.int .i64 a1_2) := (blk_cell BK353.out 2).trans rfl
           have hcz48_3 : w10.cell? ⟨gb353, 3, none⟩ = some (.int .i64 a1_3) := (blk_cell BK353.out 3).trans rfl
           have hcz48_4 : w10.cell? ⟨gb353, 4, none⟩ = some (.int .i64 a1_4) := (blk_cell BK353.out 4).trans rfl
           have hfz48_0 := blk_frozen BK353.out 0
           have hfz48_1 := blk_frozen BK353.out 1
           have hfz48_2 := blk_frozen BK353.out 2
           have hfz48_3 := blk_frozen BK353.out 3
           have hfz48_4 := blk_frozen BK353.out 4
           go_wp2_with (first | (go_at_call 13; (with_reducible refine (medl_Check.calls a1_0 a1_1 a1_2 a1_3 a1_4 t355 _ A13.out).mono ?_); rintro e w49 ⟨rfl, hb⟩; have n0_ := Aside0.mk (blk_below (g := gb352) (o := .cells #[.bool true, .bool true, .int .u64 a0_2, .int .i64 a0_3] 55 (0, 0)) (by (with_reducible repeat (first | refine blk_drewN ?_ _ | refine blk_drew ?_ | refine blk_alloc ?_ _)); refine blk_put (cs := #[.bool a0_0, .bool true, .int .u64 a0_2, .int .i64 a0_3]) ?_ 0 _ rfl; (with_reducible repeat (first | refine blk_drewN ?_ _ | refine blk_drew ?_ | refine blk_alloc ?_ _)); exact BK352.out) hb); have n1_ := Aside0.mk (blk_below (g := gb353) (o := .cells #[.int .i64 a1_0, .int .i64 a1_1, .int .i64 a1_2, .int .i64 a1_3, .int .i64 a1_4] 23 (0, 0)) (by (with_reducible repeat (first | refine blk_drewN ?_ _ | refine blk_drew ?_ | refine blk_alloc ?_ _)); refine blk_far ?_ NB353_352.out _; (with_reducible repeat (first | refine blk_drewN ?_ _ | refine blk_drew ?_ | refine blk_alloc ?_ _)); exact BK353.out) hb); have n2_ := Aside0.mk (below_step (by repeat (first | (with_reducible first | exact HB.out | apply below_alloc | apply pw_below_drewN | apply below_drew1 | refine below_set ?_ GE352.out | refine below_set ?_ GE353.out) | exact HB.out)) hb); clear BK352; clear BK353; clear HB; have BK352 := n0_; have BK353 := n1_; have HB := n2_; clear n0_ n1_ n2_; (try clear hb); (try clear hb2); (try clear hk); (try clear hi); have hcz50_0 : w49.cell? ⟨gb352, 0, none⟩ = some (.bool true) := (blk_cell BK352.out 0).trans rfl; have hcz50_1 : w49.cell? ⟨gb352, 1, none⟩ = some (.bool true) := (blk_cell BK352.out 1).trans rfl; have hcz50_2 : w49.cell? ⟨gb352, 2, none⟩ = some (.int .u64 a0_2) := (blk_cell BK352.out 2).trans rfl; have hcz50_3 : w49.cell? ⟨gb352, 3, none⟩ = some (.int .i64 a0_3) := (blk_cell BK352.out 3).trans rfl; have hfz50_0 := blk_frozen BK352.out 0; have hfz50_1 := blk_frozen BK352.out 1; have hfz50_2 := blk_frozen BK352.out 2; have hfz50_3 := blk_frozen BK352.out 3) | (go_at_call 28; (with_reducible refine (guard_Check.calls k true true a0_2 a0_3 t356 _ A23.out).mono ?_); rintro e w51 ⟨rfl, hb⟩; have n0_ := Aside0.mk (blk_below (g := gb352) (o := .cells #[.bool true, .bool true, .int .u64 a0_2, .int .i64 a0_3] 55 (0, 0)) (by (with_reducible repeat (first | refine blk_drewN ?_ _ | refine blk_drew ?_ | refine blk_alloc ?_ _)); exact BK352.out) hb); have n1_ := Aside0.mk (blk_below (g := gb353) (o := .cells #[.int .i64 a1_0, .int .i64 a1_1, .int .i64 a1_2, .int .i64 a1_3, .int .i64 a1_4] 23 (0, 0)) (by (with_reducible repeat (first | refine blk_drewN ?_ _ | refine blk_drew ?_ | refine blk_alloc ?_ _)); exact BK353.out) hb); have n2_ := Aside0.mk (below_step (by repeat (first | (with_reducible first | exact HB.out | apply below_alloc | apply pw_below_drewN | apply below_drew1 | refine below_set ?_ GE352.out | refine below_set ?_ GE353.out) | exact HB.out)) hb); clear BK352; clear BK353; clear HB; have BK352 := n0_; have BK353 := n1_; have HB := n2_; clear n0_ n1_ n2_; (try clear hb); (try clear hb2); (try clear hk); (try clear hi); have hcz52_0 : w51.cell? ⟨gb352, 0, none⟩ = some (.bool true) := (blk_cell BK352.out 0).trans rfl; have hcz52_1 : w51.cell? ⟨gb352, 1, none⟩ = some (.bool true) := (blk_cell BK352.out 1).trans rfl; have hcz52_2 : w51.cell? ⟨gb352, 2, none⟩ = some (.int .u64 a0_2) := (blk_cell BK352.out 2).trans rfl; have hcz52_3 : w51.cell? ⟨gb352, 3, none⟩ = some (.int .i64 a0_3) := (blk_cell BK352.out 3).trans rfl; have hfz52_0 := blk_frozen BK352.out 0; have hfz52_1 := blk_frozen BK352.out 1; have hfz52_2 := blk_frozen BK352.out 2; have hfz52_3 := blk_frozen BK352.out 3))
           repeat (go_quiet (first | (go_at_call 13; (with_reducible refine (medl_Check.calls a1_0 a1_1 a1_2 a1_3 a1_4 t355 _ A13.out).mono ?_); rintro e w49 ⟨rfl, hb⟩; have n0_ := Aside0.mk (blk_below (g := gb352) (o := .cells #[.bool true, .bool true, .int .u64 a0_2, .int .i64 a0_3] 55 (0, 0)) (by (with_reducible repeat (first | refine blk_drewN ?_ _ | refine blk_drew ?_ | refine blk_alloc ?_ _)); refine blk_put (cs := #[.bool a0_0, .bool true, .int .u64 a0_2, .int .i64 a0_3]) ?_ 0 _ rfl; (with_reducible repeat (first | refine blk_drewN ?_ _ | refine blk_drew ?_ | refine blk_alloc ?_ _)); exact BK352.out) hb); have n1_ := Aside0.mk (blk_below (g := gb353) (o := .cells #[.int .i64 a1_0, .int .i64 a1_1, .int .i64 a1_2, .int .i64 a1_3, .int .i64 a1_4] 23 (0, 0)) (by (with_reducible repeat (first | refine blk_drewN ?_ _ | refine blk_drew ?_ | refine blk_alloc ?_ _)); refine blk_far ?_ NB353_352.out _; (with_reducible repeat (first | refine blk_drewN ?_ _ | refine blk_drew ?_ | refine blk_alloc ?_ _)); exact BK353.out) hb); have n2_ := Aside0.mk (below_step (by repeat (first | (with_reducible first | exact HB.out | apply below_alloc | apply pw_below_drewN | apply below_drew1 | refine below_set ?_ GE352.out | refine below_set ?_ GE353.out) | exact HB.out)) hb); clear BK352; clear BK353; clear HB; have BK352 := n0_; have BK353 := n1_; have HB := n2_; clear n0_ n1_ n2_; (try clear hb); (try clear hb2); (try clear hk); (try clear hi); have hcz50_0 : w49.cell? ⟨gb352, 0, none⟩ = some (.bool true) := (blk_cell BK352.out 0).trans rfl; have hcz50_1 : w49.cell? ⟨gb352, 1, none⟩ = some (.bool true) := (blk_cell BK352.out 1).trans rfl; have hcz50_2 : w49.cell? ⟨gb352, 2, none⟩ = some (.int .u64 a0_2) := (blk_cell BK352.out 2).trans rfl; have hcz50_3 : w49.cell? ⟨gb352, 3, none⟩ = some (.int .i64 a0_3) := (blk_cell BK352.out 3).trans rfl; have hfz50_0 := blk_frozen BK352.out 0; have hfz50_1 := blk_frozen BK352.out 1; have hfz50_2 := blk_frozen BK352.out 2; have hfz50_3 := blk_frozen BK352.out 3) | (go_at_call 28; (with_reducible refine (guard_Check.calls k true true a0_2 a0_3 t356 _ A23.out).mono ?_); rintro e w51 ⟨rfl, hb⟩; have n0_ := Aside0.mk (blk_below (g := gb352) (o := .cells #[.bool true, .bool true, .int .u64 a0_2, .int .i64 a0_3] 55 (0, 0)) (by (with_reducible repeat (first | refine blk_drewN ?_ _ | refine blk_drew ?_ | refine blk_alloc ?_ _)); exact BK352.out) hb); have n1_ := Aside0.mk (blk_below (g := gb353) (o := .cells #[.int .i64 a1_0, .int .i64 a1_1, .int .i64 a1_2, .int .i64 a1_3, .int .i64 a1_4] 23 (0, 0)) (by (with_reducible repeat (first | refine blk_drewN ?_ _ | refine blk_drew ?_ | refine blk_alloc ?_ _)); exact BK353.out) hb); have n2_ := Aside0.mk (below_step (by repeat (first | (with_reducible first | exact HB.out | apply below_alloc | apply pw_below_drewN | apply below_drew1 | refine below_set ?_ GE352.out | refine below_set ?_ GE353.out) | exact HB.out)) hb); clear BK352; clear BK353; clear HB; have BK352 := n0_; have BK353 := n1_; have HB := n2_; clear n0_ n1_ n2_; (try clear hb); (try clear hb2); (try clear hk); (try clear hi); have hcz52_0 : w51.cell? ⟨gb352, 0, none⟩ = some (.bool true) := (blk_cell BK352.out 0).trans rfl; have hcz52_1 : w51.cell? ⟨gb352, 1, none⟩ = some (.bool true) := (blk_cell BK352.out 1).trans rfl; have hcz52_2 : w51.cell? ⟨gb352, 2, none⟩ = some (.int .u64 a0_2) := (blk_cell BK352.out 2).trans rfl; have hcz52_3 : w51.cell? ⟨gb352, 3, none⟩ = some (.int .i64 a0_3) := (blk_cell BK352.out 3).trans rfl; have hfz52_0 := blk_frozen BK352.out 0; have hfz52_1 := blk_frozen BK352.out 1; have hfz52_2 := blk_frozen BK352.out 2; have hfz52_3 := blk_frozen BK352.out 3)); try go_wp2_with (first | (go_at_call 13; (with_reducible refine (medl_Check.calls a1_0 a1_1 a1_2 a1_3 a1_4 t355 _ A13.out).mono ?_); rintro e w49 ⟨rfl, hb⟩; have n0_ := Aside0.mk (blk_below (g := gb352) (o := .cells #[.bool true, .bool true, .int .u64 a0_2, .int .i64 a0_3] 55 (0, 0)) (by (with_reducible repeat (first | refine blk_drewN ?_ _ | refine blk_drew ?_ | refine blk_alloc ?_ _)); refine blk_put (cs := #[.bool a0_0, .bool true, .int .u64 a0_2, .int .i64 a0_3]) ?_ 0 _ rfl; (with_reducible repeat (first | refine blk_drewN ?_ _ | refine blk_drew ?_ | refine blk_alloc ?_ _)); exact BK352.out) hb); have n1_ := Aside0.mk (blk_below (g := gb353) (o := .cells #[.int .i64 a1_0, .int .i64 a1_1, .int .i64 a1_2, .int .i64 a1_3, .int .i64 a1_4] 23 (0, 0)) (by (with_reducible repeat (first | refine blk_drewN ?_ _ | refine blk_drew ?_ | refine blk_alloc ?_ _)); refine blk_far ?_ NB353_352.out _; (with_reducible repeat (first | refine blk_drewN ?_ _ | refine blk_drew ?_ | refine blk_alloc ?_ _)); exact BK353.out) hb); have n2_ := Aside0.mk (below_step (by repeat (first | (with_reducible first | exact HB.out | apply below_alloc | apply pw_below_drewN | apply below_drew1 | refine below_set ?_ GE352.out | refine below_set ?_ GE353.out) | exact HB.out)) hb); clear BK352; clear BK353; clear HB; have BK352 := n0_; have BK353 := n1_; have HB := n2_; clear n0_ n1_ n2_; (try clear hb); (try clear hb2); (try clear hk); (try clear hi); have hcz50_0 : w49.cell? ⟨gb352, 0, none⟩ = some (.bool true) := (blk_cell BK352.out 0).trans rfl; have hcz50_1 : w49.cell? ⟨gb352, 1, none⟩ = some (.bool true) := (blk_cell BK352.out 1).trans rfl; have hcz50_2 : w49.cell? ⟨gb352, 2, none⟩ = some (.int .u64 a0_2) := (blk_cell BK352.out 2).trans rfl; have hcz50_3 : w49.cell? ⟨gb352, 3, none⟩ = some (.int .i64 a0_3) := (blk_cell BK352.out 3).trans rfl; have hfz50_0 := blk_frozen BK352.out 0; have hfz50_1 := blk_frozen BK352.out 1; have hfz50_2 := blk_frozen BK352.out 2; have hfz50_3 := blk_frozen BK352.out 3) | (go_at_call 28; (with_reducible refine (guard_Check.calls k true true a0_2 a0_3 t356 _ A23.out).mono ?_); rintro e w51 ⟨rfl, hb⟩; have n0_ := Aside0.mk (blk_below (g := gb352) (o := .cells #[.bool true, .bool true, .int .u64 a0_2, .int .i64 a0_3] 55 (0, 0)) (by (with_reducible repeat (first | refine blk_drewN ?_ _ | refine blk_drew ?_ | refine blk_alloc ?_ _)); exact BK352.out) hb); have n1_ := Aside0.mk (blk_below (g := gb353) (o := .cells #[.int .i64 a1_0, .int .i64 a1_1, .int .i64 a1_2, .int .i64 a1_3, .int .i64 a1_4] 23 (0, 0)) (by (with_reducible repeat (first | refine blk_drewN ?_ _ | refine blk_drew ?_ | refine blk_alloc ?_ _)); exact BK353.out) hb); have n2_ := Aside0.mk (below_step (by repeat (first | (with_reducible first | exact HB.out | apply below_alloc | apply pw_below_drewN | apply below_drew1 | refine below_set ?_ GE352.out | refine below_set ?_ GE353.out) | exact HB.out)) hb); clear BK352; clear BK353; clear HB; have BK352 := n0_; have BK353 := n1_; have HB := n2_; clear n0_ n1_ n2_; (try clear hb); (try clear hb2); (try clear hk); (try clear hi); have hcz52_0 : w51.cell? ⟨gb352, 0, none⟩ = some (.bool true) := (blk_cell BK352.out 0).trans rfl; have hcz52_1 : w51.cell? ⟨gb352, 1, none⟩ = some (.bool true) := (blk_cell BK352.out 1).trans rfl; have hcz52_2 : w51.cell? ⟨gb352, 2, none⟩ = some (.int .u64 a0_2) := (blk_cell BK352.out 2).trans rfl; have hcz52_3 : w51.cell? ⟨gb352, 3, none⟩ = some (.int .i64 a0_3) := (blk_cell BK352.out 3).trans rfl; have hfz52_0 := blk_frozen BK352.out 0; have hfz52_1 := blk_frozen BK352.out 1; have hfz52_2 := blk_frozen BK352.out 2; have hfz52_3 := blk_frozen BK352.out 3)))
           go_meet
           case rel => exact ⟨_, (decide ((l3.length : Int) > 50)), (by first | rfl | (simp; done) | (simp [*]; done)), H', ⟨by first | omega | exact Nat.le_refl _⟩, ⟨by (with_reducible repeat (first | refine blk_drewN ?_ _ | refine blk_drew ?_ | refine blk_alloc ?_ _)); exact BK352.out⟩, ⟨by (with_reducible repeat (first | refine blk_drewN ?_ _ | refine blk_drew ?_ | refine blk_alloc ?_ _)); exact BK353.out⟩, ⟨by repeat (first | (with_reducible first | exact HB.out | apply below_alloc | apply pw_below_drewN | apply below_drew1 | refine below_set ?_ GE352.out | refine below_set ?_ GE353.out) | exact HB.out)⟩⟩
       ·replace c25 := Bool.eq_false_iff.mpr c25
        subst c25
        have H1 : (palletlaw12_GuardChains.j0 k a2 l3 true true true false a0_2 a0_3 a1_0 a1_1 a1_2 a1_3 a1_4) = some r := by rw [if_neg (show ¬ (false = true) by decide)] at H; exact H
        clear H
        have H := H1
        clear H1
        have H' := Aside0.mk H
        clear H
        have hnb53 := NB353_352.out
        have hnc53 := NB352_353.out
        have hcz54_0 : w10.cell? ⟨gb353, 0, none⟩ = some (.int .i64 a1_0) := (blk_cell BK353.out 0).trans rfl
        have hcz54_1 : w10.cell? ⟨gb353, 1, none⟩ = some (.int .i64 a1_1) := (blk_cell BK353.out 1).trans rfl
        have hcz54_2 : w10.cell? ⟨gb353, 2, none⟩ = some (.int .i64 a1_2) := (blk_cell BK353.out 2).trans rfl
        have hcz54_3 : w10.cell? ⟨gb353, 3, none⟩ = some (.int .i64 a1_3) := (blk_cell BK353.out 3).trans rfl
        have hcz54_4 : w10.cell? ⟨gb353, 4, none⟩ = some (.int .i64 a1_4) := (blk_cell BK353.out 4).trans rfl
        have hfz54_0 := blk_frozen BK353.out 0
        have hfz54_1 := blk_frozen BK353.out 1
        have hfz54_2 := blk_frozen BK353.out 2
        have hfz54_3 := blk_frozen BK353.out 3
        have hfz54_4 := blk_frozen BK353.out 4
        go_wp2_with (first | (go_at_call 13; (with_reducible refine (medl_Check.calls a1_0 a1_1 a1_2 a1_3 a1_4 t355 _ A13.out).mono ?_); rintro e w55 ⟨rfl, hb⟩; have n0_ := Aside0.mk (blk_below (g := gb352) (o := .cells #[.bool true, .bool false, .int .u64 a0_2, .int .i64 a0_3] 55 (0, 0)) (by (with_reducible repeat (first | refine blk_drewN ?_ _ | refine blk_drew ?_ | refine blk_alloc ?_ _)); refine blk_put (cs := #[.bool a0_0, .bool false, .int .u64 a0_2, .int .i64 a0_3]) ?_ 0 _ rfl; (with_reducible repeat (first | refine blk_drewN ?_ _ | refine blk_drew ?_ | refine blk_alloc ?_ _)); exact BK352.out) hb); have n1_ := Aside0.mk (blk_below (g := gb353) (o := .cells #[.int .i64 a1_0, .int .i64 a1_1, .int .i64 a1_2, .int .i64 a1_3, .int .i64 a1_4] 23 (0, 0)) (by (with_reducible repeat (first | refine blk_drewN ?_ _ | refine blk_drew ?_ | refine blk_alloc ?_ _)); refine blk_far ?_ NB353_352.out _; (with_reducible repeat (first | refine blk_drewN ?_ _ | refine blk_drew ?_ | refine blk_alloc ?_ _)); exact BK353.out) hb); have n2_ := Aside0.mk (below_step (by repeat (first | (with_reducible first | exact HB.out | apply below_alloc | apply pw_below_drewN | apply below_drew1 | refine below_set ?_ GE352.out | refine below_set ?_ GE353.out) | exact HB.out)) hb); clear BK352; clear BK353; clear HB; have BK352 := n0_; have BK353 := n1_; have HB := n2_; clear n0_ n1_ n2_; (try clear hb); (try clear hb2); (try clear hk); (try clear hi); have hcz56_0 : w55.cell? ⟨gb352, 0, none⟩ = some (.bool true) := (blk_cell BK352.out 0).trans rfl; have hcz56_1 : w55.cell? ⟨gb352, 1, none⟩ = some (.bool false) := (blk_cell BK352.out 1).trans rfl; have hcz56_2 : w55.cell? ⟨gb352, 2, none⟩ = some (.int .u64 a0_2) := (blk_cell BK352.out 2).trans rfl; have hcz56_3 : w55.cell? ⟨gb352, 3, none⟩ = some (.int .i64 a0_3) := (blk_cell BK352.out 3).trans rfl; have hfz56_0 := blk_frozen BK352.out 0; have hfz56_1 := blk_frozen BK352.out 1; have hfz56_2 := blk_frozen BK352.out 2; have hfz56_3 := blk_frozen BK352.out 3) | (go_at_call 28; (with_reducible refine (guard_Check.calls k true false a0_2 a0_3 t356 _ A23.out).mono ?_); rintro e w57 ⟨rfl, hb⟩; have n0_ := Aside0.mk (blk_below (g := gb352) (o := .cells #[.bool true, .bool false, .int .u64 a0_2, .int .i64 a0_3] 55 (0, 0)) (by (with_reducible repeat (first | refine blk_drewN ?_ _ | refine blk_drew ?_ | refine blk_alloc ?_ _)); exact BK352.out) hb); have n1_ := Aside0.mk (blk_below (g := gb353) (o := .cells #[.int .i64 a1_0, .int .i64 a1_1, .int .i64 a1_2, .int .i64 a1_3, .int .i64 a1_4] 23 (0, 0)) (by (with_reducible repeat (first | refine blk_drewN ?_ _ | refine blk_drew ?_ | refine blk_alloc ?_ _)); exact BK353.out) hb); have n2_ := Aside0.mk (below_step (by repeat (first | (with_reducible first | exact HB.out | apply below_alloc | apply pw_below_drewN | apply below_drew1 | refine below_set ?_ GE352.out | refine below_set ?_ GE353.out) | exact HB.out)) hb); clear BK352; clear BK353; clear HB; have BK352 := n0_; have BK353 := n1_; have HB := n2_; clear n0_ n1_ n2_; (try clear hb); (try clear hb2); (try clear hk); (try clear hi); have hcz58_0 : w57.cell? ⟨gb352, 0, none⟩ = some (.bool true) := (blk_cell BK352.out 0).trans rfl; have hcz58_1 : w57.cell? ⟨gb352, 1, none⟩ = some (.bool false) := (blk_cell BK352.out 1).trans rfl; have hcz58_2 : w57.cell? ⟨gb352, 2, none⟩ = some (.int .u64 a0_2) := (blk_cell BK352.out 2).trans rfl; have hcz58_3 : w57.cell? ⟨gb352, 3, none⟩ = some (.int .i64 a0_3) := (blk_cell BK352.out 3).trans rfl; have hfz58_0 := blk_frozen BK352.out 0; have hfz58_1 := blk_frozen BK352.out 1; have hfz58_2 := blk_frozen BK352.out 2; have hfz58_3 := blk_frozen BK352.out 3))
        repeat (go_quiet (first | (go_at_call 13; (with_reducible refine (medl_Check.calls a1_0 a1_1 a1_2 a1_3 a1_4 t355 _ A13.out).mono ?_); rintro e w55 ⟨rfl, hb⟩; have n0_ := Aside0.mk (blk_below (g := gb352) (o := .cells #[.bool true, .bool false, .int .u64 a0_2, .int .i64 a0_3] 55 (0, 0)) (by (with_reducible repeat (first | refine blk_drewN ?_ _ | refine blk_drew ?_ | refine blk_alloc ?_ _)); refine blk_put (cs := #[.bool a0_0, .bool false, .int .u64 a0_2, .int .i64 a0_3]) ?_ 0 _ rfl; (with_reducible repeat (first | refine blk_drewN ?_ _ | refine blk_drew ?_ | refine blk_alloc ?_ _)); exact BK352.out) hb); have n1_ := Aside0.mk (blk_below (g := gb353) (o := .cells #[.int .i64 a1_0, .int .i64 a1_1, .int .i64 a1_2, .int .i64 a1_3, .int .i64 a1_4] 23 (0, 0)) (by (with_reducible repeat (first | refine blk_drewN ?_ _ | refine blk_drew ?_ | refine blk_alloc ?_ _)); refine blk_far ?_ NB353_352.out _; (with_reducible repeat (first | refine blk_drewN ?_ _ | refine blk_drew ?_ | refine blk_alloc ?_ _)); exact BK353.out) hb); have n2_ := Aside0.mk (below_step (by repeat (first | (with_reducible first | exact HB.out | apply below_alloc | apply pw_below_drewN | apply below_drew1 | refine below_set ?_ GE352.out | refine below_set ?_ GE353.out) | exact HB.out)) hb); clear BK352; clear BK353; clear HB; have BK352 := n0_; have BK353 := n1_; have HB := n2_; clear n0_ n1_ n2_; (try clear hb); (try clear hb2); (try clear hk); (try clear hi); have hcz56_0 : w55.cell? ⟨gb352, 0, none⟩ = some (.bool true) := (blk_cell BK352.out 0).trans rfl; have hcz56_1 : w55.cell? ⟨gb352, 1, none⟩ = some (.bool false) := (blk_cell BK352.out 1).trans rfl; have hcz56_2 : w55.cell? ⟨gb352, 2, none⟩ = some (.int .u64 a0_2) := (blk_cell BK352.out 2).trans rfl; have hcz56_3 : w55.cell? ⟨gb352, 3, none⟩ = some (.int .i64 a0_3) := (blk_cell BK352.out 3).trans rfl; have hfz56_0 := blk_frozen BK352.out 0; have hfz56_1 := blk_frozen BK352.out 1; have hfz56_2 := blk_frozen BK352.out 2; have hfz56_3 := blk_frozen BK352.out 3) | (go_at_call 28; (with_reducible refine (guard_Check.calls k true false a0_2 a0_3 t356 _ A23.out).mono ?_); rintro e w57 ⟨rfl, hb⟩; have n0_ := Aside0.mk (blk_below (g := gb352) (o := .cells #[.bool true, .bool false, .int .u64 a0_2, .int .i64 a0_3] 55 (0, 0)) (by (with_reducible repeat (first | refine blk_drewN ?_ _ | refine blk_drew ?_ | refine blk_alloc ?_ _)); exact BK352.out) hb); have n1_ := Aside0.mk (blk_below (g := gb353) (o := .cells #[.int .i64 a1_0, .int .i64 a1_1, .int .i64 a1_2, .int .i64 a1_3, .int .i64 a1_4] 23 (0, 0)) (by (with_reducible repeat (first | refine blk_drewN ?_ _ | refine blk_drew ?_ | refine blk_alloc ?_ _)); exact BK353.out) hb); have n2_ := Aside0.mk (below_step (by repeat (first | (with_reducible first | exact HB.out | apply below_alloc | apply pw_below_drewN | apply below_drew1 | refine below_set ?_ GE352.out | refine below_set ?_ GE353.out) | exact HB.out)) hb); clear BK352; clear BK353; clear HB; have BK352 := n0_; have BK353 := n1_; have HB := n2_; clear n0_ n1_ n2_; (try clear hb); (try clear hb2); (try clear hk); (try clear hi); have hcz58_0 : w57.cell? ⟨gb352, 0, none⟩ = some (.bool true) := (blk_cell BK352.out 0).trans rfl; have hcz58_1 : w57.cell? ⟨gb352, 1, none⟩ = some (.bool false) := (blk_cell BK352.out 1).trans rfl; have hcz58_2 : w57.cell? ⟨gb352, 2, none⟩ = some (.int .u64 a0_2) := (blk_cell BK352.out 2).trans rfl; have hcz58_3 : w57.cell? ⟨gb352, 3, none⟩ = some (.int .i64 a0_3) := (blk_cell BK352.out 3).trans rfl; have hfz58_0 := blk_frozen BK352.out 0; have hfz58_1 := blk_frozen BK352.out 1; have hfz58_2 := blk_frozen BK352.out 2; have hfz58_3 := blk_frozen BK352.out 3)); try go_wp2_with (first | (go_at_call 13; (with_reducible refine (medl_Check.calls a1_0 a1_1 a1_2 a1_3 a1_4 t355 _ A13.out).mono ?_); rintro e w55 ⟨rfl, hb⟩; have n0_ := Aside0.mk (blk_below (g := gb352) (o := .cells #[.bool true, .bool false, .int .u64 a0_2, .int .i64 a0_3] 55 (0, 0)) (by (with_reducible repeat (first | refine blk_drewN ?_ _ | refine blk_drew ?_ | refine blk_alloc ?_ _)); refine blk_put (cs := #[.bool a0_0, .bool false, .int .u64 a0_2, .int .i64 a0_3]) ?_ 0 _ rfl; (with_reducible repeat (first | refine blk_drewN ?_ _ | refine blk_drew ?_ | refine blk_alloc ?_ _)); exact BK352.out) hb); have n1_ := Aside0.mk (blk_below (g := gb353) (o := .cells #[.int .i64 a1_0, .int .i64 a1_1, .int .i64 a1_2, .int .i64 a1_3, .int .i64 a1_4] 23 (0, 0)) (by (with_reducible repeat (first | refine blk_drewN ?_ _ | refine blk_drew ?_ | refine blk_alloc ?_ _)); refine blk_far ?_ NB353_352.out _; (with_reducible repeat (first | refine blk_drewN ?_ _ | refine blk_drew ?_ | refine blk_alloc ?_ _)); exact BK353.out) hb); have n2_ := Aside0.mk (below_step (by repeat (first | (with_reducible first | exact HB.out | apply below_alloc | apply pw_below_drewN | apply below_drew1 | refine below_set ?_ GE352.out | refine below_set ?_ GE353.out) | exact HB.out)) hb); clear BK352; clear BK353; clear HB; have BK352 := n0_; have BK353 := n1_; have HB := n2_; clear n0_ n1_ n2_; (try clear hb); (try clear hb2); (try clear hk); (try clear hi); have hcz56_0 : w55.cell? ⟨gb352, 0, none⟩ = some (.bool true) := (blk_cell BK352.out 0).trans rfl; have hcz56_1 : w55.cell? ⟨gb352, 1, none⟩ = some (.bool false) := (blk_cell BK352.out 1).trans rfl; have hcz56_2 : w55.cell? ⟨gb352, 2, none⟩ = some (.int .u64 a0_2) := (blk_cell BK352.out 2).trans rfl; have hcz56_3 : w55.cell? ⟨gb352, 3, none⟩ = some (.int .i64 a0_3) := (blk_cell BK352.out 3).trans rfl; have hfz56_0 := blk_frozen BK352.out 0; have hfz56_1 := blk_frozen BK352.out 1; have hfz56_2 := blk_frozen BK352.out 2; have hfz56_3 := blk_frozen BK352.out 3) | (go_at_call 28; (with_reducible refine (guard_Check.calls k true false a0_2 a0_3 t356 _ A23.out).mono ?_); rintro e w57 ⟨rfl, hb⟩; have n0_ := Aside0.mk (blk_below (g := gb352) (o := .cells #[.bool true, .bool false, .int .u64 a0_2, .int .i64 a0_3] 55 (0, 0)) (by (with_reducible repeat (first | refine blk_drewN ?_ _ | refine blk_drew ?_ | refine blk_alloc ?_ _)); exact BK352.out) hb); have n1_ := Aside0.mk (blk_below (g := gb353) (o := .cells #[.int .i64 a1_0, .int .i64 a1_1, .int .i64 a1_2, .int .i64 a1_3, .int .i64 a1_4] 23 (0, 0)) (by (with_reducible repeat (first | refine blk_drewN ?_ _ | refine blk_drew ?_ | refine blk_alloc ?_ _)); exact BK353.out) hb); have n2_ := Aside0.mk (below_step (by repeat (first | (with_reducible first | exact HB.out | apply below_alloc | apply pw_below_drewN | apply below_drew1 | refine below_set ?_ GE352.out | refine below_set ?_ GE353.out) | exact HB.out)) hb); clear BK352; clear BK353; clear HB; have BK352 := n0_; have BK353 := n1_; have HB := n2_; clear n0_ n1_ n2_; (try clear hb); (try clear hb2); (try clear hk); (try clear hi); have hcz58_0 : w57.cell? ⟨gb352, 0, none⟩ = some (.bool true) := (blk_cell BK352.out 0).trans rfl; have hcz58_1 : w57.cell? ⟨gb352, 1, none⟩ = some (.bool false) := (blk_cell BK352.out 1).trans rfl; have hcz58_2 : w57.cell? ⟨gb352, 2, none⟩ = some (.int .u64 a0_2) := (blk_cell BK352.out 2).trans rfl; have hcz58_3 : w57.cell? ⟨gb352, 3, none⟩ = some (.int .i64 a0_3) := (blk_cell BK352.out 3).trans rfl; have hfz58_0 := blk_frozen BK352.out 0; have hfz58_1 := blk_frozen BK352.out 1; have hfz58_2 := blk_frozen BK352.out 2; have hfz58_3 := blk_frozen BK352.out 3)))
        go_meet
        case rel => exact ⟨_, (true), (by first | rfl | (simp; done) | (simp [*]; done)), H', ⟨by first | omega | exact Nat.le_refl _⟩, ⟨by (with_reducible repeat (first | refine blk_drewN ?_ _ | refine blk_drew ?_ | refine blk_alloc ?_ _)); exact BK352.out⟩, ⟨by (with_reducible repeat (first | refine blk_drewN ?_ _ | refine blk_drew ?_ | refine blk_alloc ?_ _)); exact BK353.out⟩, ⟨by repeat (first | (with_reducible first | exact HB.out | apply below_alloc | apply pw_below_drewN | apply below_drew1 | refine below_set ?_ GE352.out | refine below_set ?_ GE353.out) | exact HB.out)⟩⟩
      ·rw [if_neg c24] at H
       have c24b0 : (t356 == 0) = false := beq_eq_false_iff_ne.mpr c24
       have c24b1 : (t356 != 0) = true := bne_iff_ne.mpr c24
       have H' := Aside0.mk H
       clear H
       have hnb59 := NB353_352.out
       have hnc59 := NB352_353.out
       have hcz60_0 : w10.cell? ⟨gb353, 0, none⟩ = some (.int .i64 a1_0) := (blk_cell BK353.out 0).trans rfl
       have hcz60_1 : w10.cell? ⟨gb353, 1, none⟩ = some (.int .i64 a1_1) := (blk_cell BK353.out 1).trans rfl
       have hcz60_2 : w10.cell? ⟨gb353, 2, none⟩ = some (.int .i64 a1_2) := (blk_cell BK353.out 2).trans rfl
       have hcz60_3 : w10.cell? ⟨gb353, 3, none⟩ = some (.int .i64 a1_3) := (blk_cell BK353.out 3).trans rfl
       have hcz60_4 : w10.cell? ⟨gb353, 4, none⟩ = some (.int .i64 a1_4) := (blk_cell BK353.out 4).trans rfl
       have hfz60_0 := blk_frozen BK353.out 0
       have hfz60_1 := blk_frozen BK353.out 1
       have hfz60_2 := blk_frozen BK353.out 2
       have hfz60_3 := blk_frozen BK353.out 3
       have hfz60_4 := blk_frozen BK353.out 4
       go_wp2_with (first | (go_at_call 13; (with_reducible refine (medl_Check.calls a1_0 a1_1 a1_2 a1_3 a1_4 t355 _ A13.out).mono ?_); rintro e w61 ⟨rfl, hb⟩; have n0_ := Aside0.mk (blk_below (g := gb352) (o := .cells #[.bool true, .bool a0_1, .int .u64 a0_2, .int .i64 a0_3] 55 (0, 0)) (by (with_reducible repeat (first | refine blk_drewN ?_ _ | refine blk_drew ?_ | refine blk_alloc ?_ _)); refine blk_put (cs := #[.bool a0_0, .bool a0_1, .int .u64 a0_2, .int .i64 a0_3]) ?_ 0 _ rfl; (with_reducible repeat (first | refine blk_drewN ?_ _ | refine blk_drew ?_ | refine blk_alloc ?_ _)); exact BK352.out) hb); have n1_ := Aside0.mk (blk_below (g := gb353) (o := .cells #[.int .i64 a1_0, .int .i64 a1_1, .int .i64 a1_2, .int .i64 a1_3, .int .i64 a1_4] 23 (0, 0)) (by (with_reducible repeat (first | refine blk_drewN ?_ _ | refine blk_drew ?_ | refine blk_alloc ?_ _)); refine blk_far ?_ NB353_352.out _; (with_reducible repeat (first | refine blk_drewN ?_ _ | refine blk_drew ?_ | refine blk_alloc ?_ _)); exact BK353.out) hb); have n2_ := Aside0.mk (below_step (by repeat (first | (with_reducible first | exact HB.out | apply below_alloc | apply pw_below_drewN | apply below_drew1 | refine below_set ?_ GE352.out | refine below_set ?_ GE353.out) | exact HB.out)) hb); clear BK352; clear BK353; clear HB; have BK352 := n0_; have BK353 := n1_; have HB := n2_; clear n0_ n1_ n2_; (try clear hb); (try clear hb2); (try clear hk); (try clear hi); have hcz62_0 : w61.cell? ⟨gb352, 0, none⟩ = some (.bool true) := (blk_cell BK352.out 0).trans rfl; have hcz62_1 : w61.cell? ⟨gb352, 1, none⟩ = some (.bool a0_1) := (blk_cell BK352.out 1).trans rfl; have hcz62_2 : w61.cell? ⟨gb352, 2, none⟩ = some (.int .u64 a0_2) := (blk_cell BK352.out 2).trans rfl; have hcz62_3 : w61.cell? ⟨gb352, 3, none⟩ = some (.int .i64 a0_3) := (blk_cell BK352.out 3).trans rfl; have hfz62_0 := blk_frozen BK352.out 0; have hfz62_1 := blk_frozen BK352.out 1; have hfz62_2 := blk_frozen BK352.out 2; have hfz62_3 := blk_frozen BK352.out 3) | (go_at_call 28; (with_reducible refine (guard_Check.calls k true a0_1 a0_2 a0_3 t356 _ A23.out).mono ?_); rintro e w63 ⟨rfl, hb⟩; have n0_ := Aside0.mk (blk_below (g := gb352) (o := .cells #[.bool true, .bool a0_1, .int .u64 a0_2, .int .i64 a0_3] 55 (0, 0)) (by (with_reducible repeat (first | refine blk_drewN ?_ _ | refine blk_drew ?_ | refine blk_alloc ?_ _)); exact BK352.out) hb); have n1_ := Aside0.mk (blk_below (g := gb353) (o := .cells #[.int .i64 a1_0, .int .i64 a1_1, .int .i64 a1_2, .int .i64 a1_3, .int .i64 a1_4] 23 (0, 0)) (by (with_reducible repeat (first | refine blk_drewN ?_ _ | refine blk_drew ?_ | refine blk_alloc ?_ _)); exact BK353.out) hb); have n2_ := Aside0.mk (below_step (by repeat (first | (with_reducible first | exact HB.out | apply below_alloc | apply pw_below_drewN | apply below_drew1 | refine below_set ?_ GE352.out | refine below_set ?_ GE353.out) | exact HB.out)) hb); clear BK352; clear BK353; clear HB; have BK352 := n0_; have BK353 := n1_; have HB := n2_; clear n0_ n1_ n2_; (try clear hb); (try clear hb2); (try clear hk); (try clear hi)))
       repeat (go_quiet (first | (go_at_call 13; (with_reducible refine (medl_Check.calls a1_0 a1_1 a1_2 a1_3 a1_4 t355 _ A13.out).mono ?_); rintro e w61 ⟨rfl, hb⟩; have n0_ := Aside0.mk (blk_below (g := gb352) (o := .cells #[.bool true, .bool a0_1, .int .u64 a0_2, .int .i64 a0_3] 55 (0, 0)) (by (with_reducible repeat (first | refine blk_drewN ?_ _ | refine blk_drew ?_ | refine blk_alloc ?_ _)); refine blk_put (cs := #[.bool a0_0, .bool a0_1, .int .u64 a0_2, .int .i64 a0_3]) ?_ 0 _ rfl; (with_reducible repeat (first | refine blk_drewN ?_ _ | refine blk_drew ?_ | refine blk_alloc ?_ _)); exact BK352.out) hb); have n1_ := Aside0.mk (blk_below (g := gb353) (o := .cells #[.int .i64 a1_0, .int .i64 a1_1, .int .i64 a1_2, .int .i64 a1_3, .int .i64 a1_4] 23 (0, 0)) (by (with_reducible repeat (first | refine blk_drewN ?_ _ | refine blk_drew ?_ | refine blk_alloc ?_ _)); refine blk_far ?_ NB353_352.out _; (with_reducible repeat (first | refine blk_drewN ?_ _ | refine blk_drew ?_ | refine blk_alloc ?_ _)); exact BK353.out) hb); have n2_ := Aside0.mk (below_step (by repeat (first | (with_reducible first | exact HB.out | apply below_alloc | apply pw_below_drewN | apply below_drew1 | refine below_set ?_ GE352.out | refine below_set ?_ GE353.out) | exact HB.out)) hb); clear BK352; clear BK353; clear HB; have BK352 := n0_; have BK353 := n1_; have HB := n2_; clear n0_ n1_ n2_; (try clear hb); (try clear hb2); (try clear hk); (try clear hi); have hcz62_0 : w61.cell? ⟨gb352, 0, none⟩ = some (.bool true) := (blk_cell BK352.out 0).trans rfl; have hcz62_1 : w61.cell? ⟨gb352, 1, none⟩ = some (.bool a0_1) := (blk_cell BK352.out 1).trans rfl; have hcz62_2 : w61.cell? ⟨gb352, 2, none⟩ = some (.int .u64 a0_2) := (blk_cell BK352.out 2).trans rfl; have hcz62_3 : w61.cell? ⟨gb352, 3, none⟩ = some (.int .i64 a0_3) := (blk_cell BK352.out 3).trans rfl; have hfz62_0 := blk_frozen BK352.out 0; have hfz62_1 := blk_frozen BK352.out 1; have hfz62_2 := blk_frozen BK352.out 2; have hfz62_3 := blk_frozen BK352.out 3) | (go_at_call 28; (with_reducible refine (guard_Check.calls k true a0_1 a0_2 a0_3 t356 _ A23.out).mono ?_); rintro e w63 ⟨rfl, hb⟩; have n0_ := Aside0.mk (blk_below (g := gb352) (o := .cells #[.bool true, .bool a0_1, .int .u64 a0_2, .int .i64 a0_3] 55 (0, 0)) (by (with_reducible repeat (first | refine blk_drewN ?_ _ | refine blk_drew ?_ | refine blk_alloc ?_ _)); exact BK352.out) hb); have n1_ := Aside0.mk (blk_below (g := gb353) (o := .cells #[.int .i64 a1_0, .int .i64 a1_1, .int .i64 a1_2, .int .i64 a1_3, .int .i64 a1_4] 23 (0, 0)) (by (with_reducible repeat (first | refine blk_drewN ?_ _ | refine blk_drew ?_ | refine blk_alloc ?_ _)); exact BK353.out) hb); have n2_ := Aside0.mk (below_step (by repeat (first | (with_reducible first | exact HB.out | apply below_alloc | apply pw_below_drewN | apply below_drew1 | refine below_set ?_ GE352.out | refine below_set ?_ GE353.out) | exact HB.out)) hb); clear BK352; clear BK353; clear HB; have BK352 := n0_; have BK353 := n1_; have HB := n2_; clear n0_ n1_ n2_; (try clear hb); (try clear hb2); (try clear hk); (try clear hi))); try go_wp2_with (first | (go_at_call 13; (with_reducible refine (medl_Check.calls a1_0 a1_1 a1_2 a1_3 a1_4 t355 _ A13.out).mono ?_); rintro e w61 ⟨rfl, hb⟩; have n0_ := Aside0.mk (blk_below (g := gb352) (o := .cells #[.bool true, .bool a0_1, .int .u64 a0_2, .int .i64 a0_3] 55 (0, 0)) (by (with_reducible repeat (first | refine blk_drewN ?_ _ | refine blk_drew ?_ | refine blk_alloc ?_ _)); refine blk_put (cs := #[.bool a0_0, .bool a0_1, .int .u64 a0_2, .int .i64 a0_3]) ?_ 0 _ rfl; (with_reducible repeat (first | refine blk_drewN ?_ _ | refine blk_drew ?_ | refine blk_alloc ?_ _)); exact BK352.out) hb); have n1_ := Aside0.mk (blk_below (g := gb353) (o := .cells #[.int .i64 a1_0, .int .i64 a1_1, .int .i64 a1_2, .int .i64 a1_3, .int .i64 a1_4] 23 (0, 0)) (by (with_reducible repeat (first | refine blk_drewN ?_ _ | refine blk_drew ?_ | refine blk_alloc ?_ _)); refine blk_far ?_ NB353_352.out _; (with_reducible repeat (first | refine blk_drewN ?_ _ | refine blk_drew ?_ | refine blk_alloc ?_ _)); exact BK353.out) hb); have n2_ := Aside0.mk (below_step (by repeat (first | (with_reducible first | exact HB.out | apply below_alloc | apply pw_below_drewN | apply below_drew1 | refine below_set ?_ GE352.out | refine below_set ?_ GE353.out) | exact HB.out)) hb); clear BK352; clear BK353; clear HB; have BK352 := n0_; have BK353 := n1_; have HB := n2_; clear n0_ n1_ n2_; (try clear hb); (try clear hb2); (try clear hk); (try clear hi); have hcz62_0 : w61.cell? ⟨gb352, 0, none⟩ = some (.bool true) := (blk_cell BK352.out 0).trans rfl; have hcz62_1 : w61.cell? ⟨gb352, 1, none⟩ = some (.bool a0_1) := (blk_cell BK352.out 1).trans rfl; have hcz62_2 : w61.cell? ⟨gb352, 2, none⟩ = some (.int .u64 a0_2) := (blk_cell BK352.out 2).trans rfl; have hcz62_3 : w61.cell? ⟨gb352, 3, none⟩ = some (.int .i64 a0_3) := (blk_cell BK352.out 3).trans rfl; have hfz62_0 := blk_frozen BK352.out 0; have hfz62_1 := blk_frozen BK352.out 1; have hfz62_2 := blk_frozen BK352.out 2; have hfz62_3 := blk_frozen BK352.out 3) | (go_at_call 28; (with_reducible refine (guard_Check.calls k true a0_1 a0_2 a0_3 t356 _ A23.out).mono ?_); rintro e w63 ⟨rfl, hb⟩; have n0_ := Aside0.mk (blk_below (g := gb352) (o := .cells #[.bool true, .bool a0_1, .int .u64 a0_2, .int .i64 a0_3] 55 (0, 0)) (by (with_reducible repeat (first | refine blk_drewN ?_ _ | refine blk_drew ?_ | refine blk_alloc ?_ _)); exact BK352.out) hb); have n1_ := Aside0.mk (blk_below (g := gb353) (o := .cells #[.int .i64 a1_0, .int .i64 a1_1, .int .i64 a1_2, .int .i64 a1_3, .int .i64 a1_4] 23 (0, 0)) (by (with_reducible repeat (first | refine blk_drewN ?_ _ | refine blk_drew ?_ | refine blk_alloc ?_ _)); exact BK353.out) hb); have n2_ := Aside0.mk (below_step (by repeat (first | (with_reducible first | exact HB.out | apply below_alloc | apply pw_below_drewN | apply below_drew1 | refine below_set ?_ GE352.out | refine below_set ?_ GE353.out) | exact HB.out)) hb); clear BK352; clear BK353; clear HB; have BK352 := n0_; have BK353 := n1_; have HB := n2_; clear n0_ n1_ n2_; (try clear hb); (try clear hb2); (try clear hk); (try clear hi))))
       go_meet
       case rel => exact ⟨_, (true), (by first | rfl | (simp; done) | (simp [*]; done)), H', ⟨by first | omega | exact Nat.le_refl _⟩, ⟨by (with_reducible repeat (first | refine blk_drewN ?_ _ | refine blk_drew ?_ | refine blk_alloc ?_ _)); exact BK352.out⟩, ⟨by (with_reducible repeat (first | refine blk_drewN ?_ _ | refine blk_drew ?_ | refine blk_alloc ?_ _)); exact BK353.out⟩, ⟨by repeat (first | (with_reducible first | exact HB.out | apply below_alloc | apply pw_below_drewN | apply below_drew1 | refine below_set ?_ GE352.out | refine below_set ?_ GE353.out) | exact HB.out)⟩⟩
   ·rw [if_neg c14] at H
    have c14b0 : (t355 == 0) = false := beq_eq_false_iff_ne.mpr c14
    have c14b1 : (t355 != 0) = true := bne_iff_ne.mpr c14
    (first | rw [c14b0] | (simp only [i64_w, i32_w]; rw [c14b0]) | skip)
    have H' := Aside0.mk H
    clear H
    have hnb64 := NB353_352.out
    have hnc64 := NB352_353.out
    have hcz65_0 : w10.cell? ⟨gb353, 0, none⟩ = some (.int .i64 a1_0) := (blk_cell BK353.out 0).trans rfl
    have hcz65_1 : w10.cell? ⟨gb353, 1, none⟩ = some (.int .i64 a1_1) := (blk_cell BK353.out 1).trans rfl
    have hcz65_2 : w10.cell? ⟨gb353, 2, none⟩ = some (.int .i64 a1_2) := (blk_cell BK353.out 2).trans rfl
    have hcz65_3 : w10.cell? ⟨gb353, 3, none⟩ = some (.int .i64 a1_3) := (blk_cell BK353.out 3).trans rfl
    have hcz65_4 : w10.cell? ⟨gb353, 4, none⟩ = some (.int .i64 a1_4) := (blk_cell BK353.out 4).trans rfl
    have hfz65_0 := blk_frozen BK353.out 0
    have hfz65_1 := blk_frozen BK353.out 1
    have hfz65_2 := blk_frozen BK353.out 2
    have hfz65_3 := blk_frozen BK353.out 3
    have hfz65_4 := blk_frozen BK353.out 4
    go_wp2_with (first | (go_at_call 13; (with_reducible refine (medl_Check.calls a1_0 a1_1 a1_2 a1_3 a1_4 t355 _ A13.out).mono ?_); rintro e w66 ⟨rfl, hb⟩; have n0_ := Aside0.mk (blk_below (g := gb352) (o := .cells #[.bool true, .bool a0_1, .int .u64 a0_2, .int .i64 a0_3] 55 (0, 0)) (by (with_reducible repeat (first | refine blk_drewN ?_ _ | refine blk_drew ?_ | refine blk_alloc ?_ _)); refine blk_put (cs := #[.bool a0_0, .bool a0_1, .int .u64 a0_2, .int .i64 a0_3]) ?_ 0 _ rfl; (with_reducible repeat (first | refine blk_drewN ?_ _ | refine blk_drew ?_ | refine blk_alloc ?_ _)); exact BK352.out) hb); have n1_ := Aside0.mk (blk_below (g := gb353) (o := .cells #[.int .i64 a1_0, .int .i64 a1_1, .int .i64 a1_2, .int .i64 a1_3, .int .i64 a1_4] 23 (0, 0)) (by (with_reducible repeat (first | refine blk_drewN ?_ _ | refine blk_drew ?_ | refine blk_alloc ?_ _)); refine blk_far ?_ NB353_352.out _; (with_reducible repeat (first | refine blk_drewN ?_ _ | refine blk_drew ?_ | refine blk_alloc ?_ _)); exact BK353.out) hb); have n2_ := Aside0.mk (below_step (by repeat (first | (with_reducible first | exact HB.out | apply below_alloc | apply pw_below_drewN | apply below_drew1 | refine below_set ?_ GE352.out | refine below_set ?_ GE353.out) | exact HB.out)) hb); clear BK352; clear BK353; clear HB; have BK352 := n0_; have BK353 := n1_; have HB := n2_; clear n0_ n1_ n2_; (try clear hb); (try clear hb2); (try clear hk); (try clear hi)))
    repeat (go_quiet (first | (go_at_call 13; (with_reducible refine (medl_Check.calls a1_0 a1_1 a1_2 a1_3 a1_4 t355 _ A13.out).mono ?_); rintro e w66 ⟨rfl, hb⟩; have n0_ := Aside0.mk (blk_below (g := gb352) (o := .cells #[.bool true, .bool a0_1, .int .u64 a0_2, .int .i64 a0_3] 55 (0, 0)) (by (with_reducible repeat (first | refine blk_drewN ?_ _ | refine blk_drew ?_ | refine blk_alloc ?_ _)); refine blk_put (cs := #[.bool a0_0, .bool a0_1, .int .u64 a0_2, .int .i64 a0_3]) ?_ 0 _ rfl; (with_reducible repeat (first | refine blk_drewN ?_ _ | refine blk_drew ?_ | refine blk_alloc ?_ _)); exact BK352.out) hb); have n1_ := Aside0.mk (blk_below (g := gb353) (o := .cells #[.int .i64 a1_0, .int .i64 a1_1, .int .i64 a1_2, .int .i64 a1_3, .int .i64 a1_4] 23 (0, 0)) (by (with_reducible repeat (first | refine blk_drewN ?_ _ | refine blk_drew ?_ | refine blk_alloc ?_ _)); refine blk_far ?_ NB353_352.out _; (with_reducible repeat (first | refine blk_drewN ?_ _ | refine blk_drew ?_ | refine blk_alloc ?_ _)); exact BK353.out) hb); have n2_ := Aside0.mk (below_step (by repeat (first | (with_reducible first | exact HB.out | apply below_alloc | apply pw_below_drewN | apply below_drew1 | refine below_set ?_ GE352.out | refine below_set ?_ GE353.out) | exact HB.out)) hb); clear BK352; clear BK353; clear HB; have BK352 := n0_; have BK353 := n1_; have HB := n2_; clear n0_ n1_ n2_; (try clear hb); (try clear hb2); (try clear hk); (try clear hi))); try go_wp2_with (first | (go_at_call 13; (with_reducible refine (medl_Check.calls a1_0 a1_1 a1_2 a1_3 a1_4 t355 _ A13.out).mono ?_); rintro e w66 ⟨rfl, hb⟩; have n0_ := Aside0.mk (blk_below (g := gb352) (o := .cells #[.bool true, .bool a0_1, .int .u64 a0_2, .int .i64 a0_3] 55 (0, 0)) (by (with_reducible repeat (first | refine blk_drewN ?_ _ | refine blk_drew ?_ | refine blk_alloc ?_ _)); refine blk_put (cs := #[.bool a0_0, .bool a0_1, .int .u64 a0_2, .int .i64 a0_3]) ?_ 0 _ rfl; (with_reducible repeat (first | refine blk_drewN ?_ _ | refine blk_drew ?_ | refine blk_alloc ?_ _)); exact BK352.out) hb); have n1_ := Aside0.mk (blk_below (g := gb353) (o := .cells #[.int .i64 a1_0, .int .i64 a1_1, .int .i64 a1_2, .int .i64 a1_3, .int .i64 a1_4] 23 (0, 0)) (by (with_reducible repeat (first | refine blk_drewN ?_ _ | refine blk_drew ?_ | refine blk_alloc ?_ _)); refine blk_far ?_ NB353_352.out _; (with_reducible repeat (first | refine blk_drewN ?_ _ | refine blk_drew ?_ | refine blk_alloc ?_ _)); exact BK353.out) hb); have n2_ := Aside0.mk (below_step (by repeat (first | (with_reducible first | exact HB.out | apply below_alloc | apply pw_below_drewN | apply below_drew1 | refine below_set ?_ GE352.out | refine below_set ?_ GE353.out) | exact HB.out)) hb); clear BK352; clear BK353; clear HB; have BK352 := n0_; have BK353 := n1_; have HB := n2_; clear n0_ n1_ n2_; (try clear hb); (try clear hb2); (try clear hk); (try clear hi))))
    go_meet
    case rel => exact ⟨_, (true), (by first | rfl | (simp; done) | (simp [*]; done)), H', ⟨by first | omega | exact Nat.le_refl _⟩, ⟨by (with_reducible repeat (first | refine blk_drewN ?_ _ | refine blk_drew ?_ | refine blk_alloc ?_ _)); exact BK352.out⟩, ⟨by (with_reducible repeat (first | refine blk_drewN ?_ _ | refine blk_drew ?_ | refine blk_alloc ?_ _)); exact BK353.out⟩, ⟨by repeat (first | (with_reducible first | exact HB.out | apply below_alloc | apply pw_below_drewN | apply below_drew1 | refine below_set ?_ GE352.out | refine below_set ?_ GE353.out) | exact HB.out)⟩⟩
  case rest =>
   clear HC7
   try clear c1
   try clear c2
   try clear p2
   try clear c3
   try clear c4
   try clear c5
   try clear c6
   try clear c10
   try clear c11
   try clear c14
   try clear c14b0
   try clear c14b1
   try clear c15
   try clear c15b0
   try clear c16
   try clear c19
   try clear c19b0
   try clear c20
   try clear c24
   try clear c24b0
   try clear c24b1
   try clear c25
   try clear c26
   try clear c26b0
   try clear c27
   try clear c33
   try clear c33b0
   try clear c34
   try clear c40
   try clear c40b0
   try clear c41
   try clear c47
   try clear c53
   try clear c59
   try clear c64
   try clear hcz12_0
   try clear hcz12_1
   try clear hcz12_2
   try clear hcz12_3
   try clear hcz17_0
   try clear hcz17_1
   try clear hcz17_2
   try clear hcz17_3
   try clear hcz17_4
   try clear hcz21_0
   try clear hcz21_1
   try clear hcz21_2
   try clear hcz21_3
   try clear hcz21_4
   try clear hcz28_0
   try clear hcz28_1
   try clear hcz28_2
   try clear hcz28_3
   try clear hcz28_4
   try clear hcz30_0
   try clear hcz30_1
   try clear hcz30_2
   try clear hcz30_3
   try clear hcz32_0
   try clear hcz32_1
   try clear hcz32_2
   try clear hcz32_3
   try clear hcz35_0
   try clear hcz35_1
   try clear hcz35_2
   try clear hcz35_3
   try clear hcz35_4
   try clear hcz37_0
   try clear hcz37_1
   try clear hcz37_2
   try clear hcz37_3
   try clear hcz39_0
   try clear hcz39_1
   try clear hcz39_2
   try clear hcz39_3
   try clear hcz42_0
   try clear hcz42_1
   try clear hcz42_2
   try clear hcz42_3
   try clear hcz42_4
   try clear hcz44_0
   try clear hcz44_1
   try clear hcz44_2
   try clear hcz44_3
   try clear hcz46_0
   try clear hcz46_1
   try clear hcz46_2
   try clear hcz46_3
   try clear hcz48_0
   try clear hcz48_1
   try clear hcz48_2
   try clear hcz48_3
   try clear hcz48_4
   try clear hcz50_0
   try clear hcz50_1
   try clear hcz50_2
   try clear hcz50_3
   try clear hcz52_0
   try clear hcz52_1
   try clear hcz52_2
   try clear hcz52_3
   try clear hcz54_0
   try clear hcz54_1
   try clear hcz54_2
   try clear hcz54_3
   try clear hcz54_4
   try clear hcz56_0
   try clear hcz56_1
   try clear hcz56_2
   try clear hcz56_3
   try clear hcz58_0
   try clear hcz58_1
   try clear hcz58_2
   try clear hcz58_3
   try clear hcz60_0
   try clear hcz60_1
   try clear hcz60_2
   try clear hcz60_3
   try clear hcz60_4
   try clear hcz62_0
   try clear hcz62_1
   try clear hcz62_2
   try clear hcz62_3
   try clear hcz65_0
   try clear hcz65_1
   try clear hcz65_2
   try clear hcz65_3
   try clear hcz65_4
   try clear hfz12_0
   try clear hfz12_1
   try clear hfz12_2
   try clear hfz12_3
   try clear hfz17_0
   try clear hfz17_1
   try clear hfz17_2
   try clear hfz17_3
   try clear hfz17_4
   try clear hfz21_0
   try clear hfz21_1
   try clear hfz21_2
   try clear hfz21_3
   try clear hfz21_4
   try clear hfz28_0
   try clear hfz28_1
   try clear hfz28_2
   try clear hfz28_3
   try clear hfz28_4
   try clear hfz30_0
   try clear hfz30_1
   try clear hfz30_2
   try clear hfz30_3
   try clear hfz32_0
   try clear hfz32_1
   try clear hfz32_2
   try clear hfz32_3
   try clear hfz35_0
   try clear hfz35_1
   try clear hfz35_2
   try clear hfz35_3
   try clear hfz35_4
   try clear hfz37_0
   try clear hfz37_1
   try clear hfz37_2
   try clear hfz37_3
   try clear hfz39_0
   try clear hfz39_1
   try clear hfz39_2
   try clear hfz39_3
   try clear hfz42_0
   try clear hfz42_1
   try clear hfz42_2
   try clear hfz42_3
   try clear hfz42_4
   try clear hfz44_0
   try clear hfz44_1
   try clear hfz44_2
   try clear hfz44_3
   try clear hfz46_0
   try clear hfz46_1
   try clear hfz46_2
   try clear hfz46_3
   try clear hfz48_0
   try clear hfz48_1
   try clear hfz48_2
   try clear hfz48_3
   try clear hfz48_4
   try clear hfz50_0
   try clear hfz50_1
   try clear hfz50_2
   try clear hfz50_3
   try clear hfz52_0
   try clear hfz52_1
   try clear hfz52_2
   try clear hfz52_3
   try clear hfz54_0
   try clear hfz54_1
   try clear hfz54_2
   try clear hfz54_3
   try clear hfz54_4
   try clear hfz56_0
   try clear hfz56_1
   try clear hfz56_2
   try clear hfz56_3
   try clear hfz58_0
   try clear hfz58_1
   try clear hfz58_2
   try clear hfz58_3
   try clear hfz60_0
   try clear hfz60_1
   try clear hfz60_2
   try clear hfz60_3
   try clear hfz60_4
   try clear hfz62_0
   try clear hfz62_1
   try clear hfz62_2
   try clear hfz62_3
   try clear hfz65_0
   try clear hfz65_1
   try clear hfz65_2
   try clear hfz65_3
   try clear hfz65_4
   obtain ⟨kq, x64_6, rfl, HA, HJ6, BK352, BK353, HB⟩ := hcut
   cases kq with
   | zero => exact absurd HA.out (by simp [palletlaw12_GuardChains.j0])
   | succ kj6 =>
    have H := HA.out
    clear HA
    simp only [palletlaw12_GuardChains.j0] at H
    by_cases c67 : x64_6 = true
    ·subst c67
     have H1 : (some true) = some r := by rw [if_pos rfl] at H; exact H
     clear H
     have H := H1
     clear H1
     obtain rfl := Option.some.inj H
     go_wp2
     repeat (go_quiet (fail); try go_wp2)
     go_ret
     exact ⟨by first | rfl | (simp [errW_none, errW_some] <;> rfl) | (simp [*, errW_none, errW_some] <;> rfl), by repeat (first | (with_reducible first | exact HB.out | apply below_alloc | apply pw_below_drewN | apply below_drew1 | refine below_set ?_ GE352.out | refine below_set ?_ GE353.out) | exact HB.out)⟩
    ·replace c67 := Bool.eq_false_iff.mpr c67
     subst c67
     have H1 : (palletlaw12_GuardChains.l0 kj6 a2 true l3 (l3.length : Int) 0 true a0_1 a0_2 a0_3 a1_0 a1_1 a1_2 a1_3 a1_4) = some r := by rw [if_neg (show ¬ (false = true) by decide)] at H; exact H
     clear H
     have H := H1
     clear H1
     have H' := Aside0.mk H
     clear H
     go_wp2
     repeat (go_quiet (fail); try go_wp2)
     go_loopg [68] kj6 (fun kq v68 w' => ∃ (x68_2 : Int) (x353000_2 : Bool) (x353001_2 : Bool) (x353002_2 : Int) (x353003_2 : Int), v68 = .int .i64 x68_2 ∧ Aside0 (palletlaw12_GuardChains.l0 kq a2 true l3 (l3.length : Int) x68_2 x353000_2 x353001_2 x353002_2 x353003_2 a1_0 a1_1 a1_2 a1_3 a1_4 = some r) ∧ Aside0 (kq ≤ kj6) ∧ Aside0 (w'.heap[gb352]? = some (.cells #[.bool x353000_2, .bool x353001_2, .int .u64 x353002_2, .int .i64 x353003_2] 55 (0, 0))) ∧ Aside0 (w'.heap[gb353]? = some (.cells #[.int .i64 a1_0, .int .i64 a1_1, .int .i64 a1_2, .int .i64 a1_3, .int .i64 a1_4] 23 (0, 0))) ∧ Aside0 (Below w.heap.size w w'))
     case atStart => exact ⟨(0), (true), (a0_1), (a0_2), (a0_3), (by first | rfl | (simp; done) | (simp [*]; done)), H', ⟨Nat.le_refl _⟩, ⟨by (with_reducible repeat (first | refine blk_drewN ?_ _ | refine blk_drew ?_ | refine blk_alloc ?_ _)); exact BK352.out⟩, ⟨by (with_reducible repeat (first | refine blk_drewN ?_ _ | refine blk_drew ?_ | refine blk_alloc ?_ _)); exact BK353.out⟩, ⟨by repeat (first | (with_reducible first | exact HB.out | apply below_alloc | apply pw_below_drewN | apply below_drew1 | refine below_set ?_ GE352.out | refine below_set ?_ GE353.out) | exact HB.out)⟩⟩
     case round =>
      clear H'
      try clear c1
      try clear c2
      try clear p2
      try clear c3
      try clear c4
      try clear c5
      try clear c6
      try clear c10
      try clear c11
      try clear c14
      try clear c14b0
      try clear c14b1
      try clear c15
      try clear c15b0
      try clear c16
      try clear c19
      try clear c19b0
      try clear c20
      try clear c24
      try clear c24b0
      try clear c24b1
      try clear c25
      try clear c26
      try clear c26b0
      try clear c27
      try clear c33
      try clear c33b0
      try clear c34
      try clear c40
      try clear c40b0
      try clear c41
      try clear c47
      try clear c53
      try clear c59
      try clear c64
      try clear c67
      try clear hcz12_0
      try clear hcz12_1
      try clear hcz12_2
      try clear hcz12_3
      try clear hcz17_0
      try clear hcz17_1
      try clear hcz17_2
      try clear hcz17_3
      try clear hcz17_4
      try clear hcz21_0
      try clear hcz21_1
      try clear hcz21_2
      try clear hcz21_3
      try clear hcz21_4
      try clear hcz28_0
      try clear hcz28_1
      try clear hcz28_2
      try clear hcz28_3
      try clear hcz28_4
      try clear hcz30_0
      try clear hcz30_1
      try clear hcz30_2
      try clear hcz30_3
      try clear hcz32_0
      try clear hcz32_1
      try clear hcz32_2
      try clear hcz32_3
      try clear hcz35_0
      try clear hcz35_1
      try clear hcz35_2
      try clear hcz35_3
      try clear hcz35_4
      try clear hcz37_0
      try clear hcz37_1
      try clear hcz37_2
      try clear hcz37_3
      try clear hcz39_0
      try clear hcz39_1
      try clear hcz39_2
      try clear hcz39_3
      try clear hcz42_0
      try clear hcz42_1
      try clear hcz42_2
      try clear hcz42_3
      try clear hcz42_4
      try clear hcz44_0
      try clear hcz44_1
      try clear hcz44_2
      try clear hcz44_3
      try clear hcz46_0
      try clear hcz46_1
      try clear hcz46_2
      try clear hcz46_3
      try clear hcz48_0
      try clear hcz48_1
      try clear hcz48_2
      try clear hcz48_3
      try clear hcz48_4
      try clear hcz50_0
      try clear hcz50_1
      try clear hcz50_2
      try clear hcz50_3
      try clear hcz52_0
      try clear hcz52_1
      try clear hcz52_2
      try clear hcz52_3
      try clear hcz54_0
      try clear hcz54_1
      try clear hcz54_2
      try clear hcz54_3
      try clear hcz54_4
      try clear hcz56_0
      try clear hcz56_1
      try clear hcz56_2
      try clear hcz56_3
      try clear hcz58_0
      try clear hcz58_1
      try clear hcz58_2
      try clear hcz58_3
      try clear hcz60_0
      try clear hcz60_1
      try clear hcz60_2
      try clear hcz60_3
      try clear hcz60_4
      try clear hcz62_0
      try clear hcz62_1
      try clear hcz62_2
      try clear hcz62_3
      try clear hcz65_0
      try clear hcz65_1
      try clear hcz65_2
      try clear hcz65_3
      try clear hcz65_4
      try clear hfz12_0
      try clear hfz12_1
      try clear hfz12_2
      try clear hfz12_3
      try clear hfz17_0
      try clear hfz17_1
      try clear hfz17_2
      try clear hfz17_3
      try clear hfz17_4
      try clear hfz21_0
      try clear hfz21_1
      try clear hfz21_2
      try clear hfz21_3
      try clear hfz21_4
      try clear hfz28_0
      try clear hfz28_1
      try clear hfz28_2
      try clear hfz28_3
      try clear hfz28_4
      try clear hfz30_0
      try clear hfz30_1
      try clear hfz30_2
      try clear hfz30_3
      try clear hfz32_0
      try clear hfz32_1
      try clear hfz32_2
      try clear hfz32_3
      try clear hfz35_0
      try clear hfz35_1
      try clear hfz35_2
      try clear hfz35_3
      try clear hfz35_4
      try clear hfz37_0
      try clear hfz37_1
      try clear hfz37_2
      try clear hfz37_3
      try clear hfz39_0
      try clear hfz39_1
      try clear hfz39_2
      try clear hfz39_3
      try clear hfz42_0
      try clear hfz42_1
      try clear hfz42_2
      try clear hfz42_3
      try clear hfz42_4
      try clear hfz44_0
      try clear hfz44_1
      try clear hfz44_2
      try clear hfz44_3
      try clear hfz46_0
      try clear hfz46_1
      try clear hfz46_2
      try clear hfz46_3
      try clear hfz48_0
      try clear hfz48_1
      try clear hfz48_2
      try clear hfz48_3
      try clear hfz48_4
      try clear hfz50_0
      try clear hfz50_1
      try clear hfz50_2
      try clear hfz50_3
      try clear hfz52_0
      try clear hfz52_1
      try clear hfz52_2
      try clear hfz52_3
      try clear hfz54_0
      try clear hfz54_1
      try clear hfz54_2
      try clear hfz54_3
      try clear hfz54_4
      try clear hfz56_0
      try clear hfz56_1
      try clear hfz56_2
      try clear hfz56_3
      try clear hfz58_0
      try clear hfz58_1
      try clear hfz58_2
      try clear hfz58_3
      try clear hfz60_0
      try clear hfz60_1
      try clear hfz60_2
      try clear hfz60_3
      try clear hfz60_4
      try clear hfz62_0
      try clear hfz62_1
      try clear hfz62_2
      try clear hfz62_3
      try clear hfz65_0
      try clear hfz65_1
      try clear hfz65_2
      try clear hfz65_3
      try clear hfz65_4
      try clear p2
      obtain ⟨x68_2, x353000_2, x353001_2, x353002_2, x353003_2, rfl, HA, HK2, BK352, BK353, HB⟩ := hrel
      cases gk with
      | zero => exact absurd HA.out (by simp [palletlaw12_GuardChains.l0])
      | succ k2 =>
       have H := HA.out
       clear HA
       simp only [palletlaw12_GuardChains.l0] at H
       by_cases c68 : x68_2 < (l3.length : Int)
       ·rw [if_pos c68] at H
        have c68b0 : decide (x68_2 < (l3.length : Int)) = true := decide_eq_true c68
        clear c68
        by_cases c69 : 0 ≤ x68_2
        ·rw [if_pos c69] at H
         have c69b0 : decide (0 ≤ x68_2) = true := decide_eq_true c69
         clear c69
         by_cases c70 : x68_2 < (l3.length : Int)
         ·rw [if_pos c70] at H
          have c70b0 : decide (x68_2 < (l3.length : Int)) = true := decide_eq_true c70
          clear c70
          replace H := Option.bind_eq_some_iff.mp H
          obtain ⟨⟨t358, t359⟩, A710, H⟩ := H
          replace H : (if (wrap64 ((wrap64 ((wrap64 (2 * a1_4)) * a2)) + 1)) = 0 then (none) else ((guard_Pass.f k2 x353000_2 x353001_2 x353002_2 x353003_2 a1_0 a1_1 a1_2 a1_3 a1_4 a2 t358 0 0 0 0 (wrap64 ((wrap64 ((wrap64 ((wrap64 (x353003_2 + (wrap64 (a1_1 * a2)))) + (wrap64 (a1_2 * a2)))) + (Int.tmod (wrap64 ((Int.tmod (rd l3 x68_2) (wrap64 ((wrap64 ((wrap64 (2 * a1_4)) * a2)) + 1))) + (wrap64 ((wrap64 ((wrap64 (2 * a1_4)) * a2)) + 1)))) (wrap64 ((wrap64 ((wrap64 (2 * a1_4)) * a2)) + 1))))) - (wrap64 (a1_4 * a2))))).bind fun bt360 => (if t359 = 0 then (if bt360.2.2.2.2.2 = 0 then (if bt360.2.2.2.2.1 = true then (if bt360.2.2.1 = (IntKind.u64.wrap (x353002_2 + 1)) then (if bt360.2.2.2.1 = (wrap64 ((wrap64 ((wrap64 ((wrap64 ((wrap64 (x353003_2 + (wrap64 (a1_1 * a2)))) + (wrap64 (a1_2 * a2)))) + (Int.tmod (wrap64 ((Int.tmod (rd l3 x68_2) (wrap64 ((wrap64 ((wrap64 (2 * a1_4)) * a2)) + 1))) + (wrap64 ((wrap64 ((wrap64 (2 * a1_4)) * a2)) + 1)))) (wrap64 ((wrap64 ((wrap64 (2 * a1_4)) * a2)) + 1))))) - (wrap64 (a1_4 * a2)))) - (wrap64 (a1_2 * a2)))) then (palletlaw12_GuardChains.l0 k2 a2 true l3 (l3.length : Int) (wrap64 (x68_2 + 1)) bt360.1 bt360.2.1 bt360.2.2.1 bt360.2.2.2.1 a1_0 a1_1 a1_2 a1_3 a1_4) else (some false)) else (some false)) else (some false)) else (some false)) else (some false)))) = some r := H
          have A71 := Aside0.mk A710
          clear A710
          by_cases c72 : (wrap64 ((wrap64 ((wrap64 (2 * a1_4)) * a2)) + 1)) = 0
          ·rw [if_pos c72] at H
           exact absurd H (by simp)
          ·rw [if_neg c72] at H
           have c72b0 : ((wrap64 ((wrap64 ((wrap64 (2 * a1_4)) * a2)) + 1)) == 0) = false := beq_eq_false_iff_ne.mpr c72
           have c72b1 : ((wrap64 ((wrap64 ((wrap64 (2 * a1_4)) * a2)) + 1)) != 0) = true := bne_iff_ne.mpr c72
           replace H := Option.bind_eq_some_iff.mp H
           obtain ⟨⟨t360, t361, t362, t363, t364, t365⟩, A730, H⟩ := H
           replace H : (if t359 = 0 then (if t365 = 0 then (if t364 = true then (if t362 = (IntKind.u64.wrap (x353002_2 + 1)) then (if t363 = (wrap64 ((wrap64 ((wrap64 ((wrap64 ((wrap64 (x353003_2 + (wrap64 (a1_1 * a2)))) + (wrap64 (a1_2 * a2)))) + (Int.tmod (wrap64 ((Int.tmod (rd l3 x68_2) (wrap64 ((wrap64 ((wrap64 (2 * a1_4)) * a2)) + 1))) + (wrap64 ((wrap64 ((wrap64 (2 * a1_4)) * a2)) + 1)))) (wrap64 ((wrap64 ((wrap64 (2 * a1_4)) * a2)) + 1))))) - (wrap64 (a1_4 * a2)))) - (wrap64 (a1_2 * a2)))) then (palletlaw12_GuardChains.l0 k2 a2 true l3 (l3.length : Int) (wrap64 (x68_2 + 1)) t360 t361 t362 t363 a1_0 a1_1 a1_2 a1_3 a1_4) else (some false)) else (some false)) else (some false)) else (some false)) else (some false)) = some r := H
           have A73 := Aside0.mk A730
           clear A730
           by_cases c74 : t359 = 0
           ·rw [if_pos c74] at H
            have c74b0 : (t359 == 0) = true := beq_iff_eq.mpr c74
            have c74b1 : (t359 != 0) = false := bne_eq_false_iff_eq.mpr c74
            clear c74
            by_cases c75 : t365 = 0
            ·rw [if_pos c75] at H
             have c75b0 : (t365 == 0) = true := beq_iff_eq.mpr c75
             have c75b1 : (t365 != 0) = false := bne_eq_false_iff_eq.mpr c75
             clear c75
             by_cases c76 : t364 = true
             ·subst c76
              have H1 : (if t362 = (IntKind.u64.wrap (x353002_2 + 1)) then (if t363 = (wrap64 ((wrap64 ((wrap64 ((wrap64 ((wrap64 (x353003_2 + (wrap64 (a1_1 * a2)))) + (wrap64 (a1_2 * a2)))) + (Int.tmod (wrap64 ((Int.tmod (rd l3 x68_2) (wrap64 ((wrap64 ((wrap64 (2 * a1_4)) * a2)) + 1))) + (wrap64 ((wrap64 ((wrap64 (2 * a1_4)) * a2)) + 1)))) (wrap64 ((wrap64 ((wrap64 (2 * a1_4)) * a2)) + 1))))) - (wrap64 (a1_4 * a2)))) - (wrap64 (a1_2 * a2)))) then (palletlaw12_GuardChains.l0 k2 a2 true l3 (l3.length : Int) (wrap64 (x68_2 + 1)) t360 t361 t362 t363 a1_0 a1_1 a1_2 a1_3 a1_4) else (some false)) else (some false)) = some r := by rw [if_pos rfl] at H; exact H
              clear H
              have H := H1
              clear H1
              by_cases c77 : t362 = (IntKind.u64.wrap (x353002_2 + 1))
              ·rw [if_pos c77] at H
               have c77b0 : (t362 == (IntKind.u64.wrap (x353002_2 + 1))) = true := beq_iff_eq.mpr c77
               have c77b1 : (t362 != (IntKind.u64.wrap (x353002_2 + 1))) = false := bne_eq_false_iff_eq.mpr c77
               clear c77
               by_cases c78 : t363 = (wrap64 ((wrap64 ((wrap64 ((wrap64 ((wrap64 (x353003_2 + (wrap64 (a1_1 * a2)))) + (wrap64 (a1_2 * a2)))) + (Int.tmod (wrap64 ((Int.tmod (rd l3 x68_2) (wrap64 ((wrap64 ((wrap64 (2 * a1_4)) * a2)) + 1))) + (wrap64 ((wrap64 ((wrap64 (2 * a1_4)) * a2)) + 1)))) (wrap64 ((wrap64 ((wrap64 (2 * a1_4)) * a2)) + 1))))) - (wrap64 (a1_4 * a2)))) - (wrap64 (a1_2 * a2))))
               ·rw [if_pos c78] at H
                have c78b0 : (t363 == (wrap64 ((wrap64 ((wrap64 ((wrap64 ((wrap64 (x353003_2 + (wrap64 (a1_1 * a2)))) + (wrap64 (a1_2 * a2)))) + (Int.tmod (wrap64 ((Int.tmod (rd l3 x68_2) (wrap64 ((wrap64 ((wrap64 (2 * a1_4)) * a2)) + 1))) + (wrap64 ((wrap64 ((wrap64 (2 * a1_4)) * a2)) + 1)))) (wrap64 ((wrap64 ((wrap64 (2 * a1_4)) * a2)) + 1))))) - (wrap64 (a1_4 * a2)))) - (wrap64 (a1_2 * a2))))) = true := beq_iff_eq.mpr c78
                have c78b1 : (t363 != (wrap64 ((wrap64 ((wrap64 ((wrap64 ((wrap64 (x353003_2 + (wrap64 (a1_1 * a2)))) + (wrap64 (a1_2 * a2)))) + (Int.tmod (wrap64 ((Int.tmod (rd l3 x68_2) (wrap64 ((wrap64 ((wrap64 (2 * a1_4)) * a2)) + 1))) + (wrap64 ((wrap64 ((wrap64 (2 * a1_4)) * a2)) + 1)))) (wrap64 ((wrap64 ((wrap64 (2 * a1_4)) * a2)) + 1))))) - (wrap64 (a1_4 * a2)))) - (wrap64 (a1_2 * a2))))) = false := bne_eq_false_iff_eq.mpr c78
                clear c78
                have H' := Aside0.mk H
                clear H
                have p357 : 0 ≤ (x68_2 : Int) := of_decide_eq_true (by first | (with_reducible assumption) | assumption)
                have q357 : x68_2 < (l3.length : Int) := of_decide_eq_true (by first | (with_reducible assumption) | assumption)
                obtain ⟨ad357, e357, hx357_0⟩ := Kd.at_int HR3.out x68_2 p357 q357
                cases e357
                replace hx357_0 := (HB.out.cell (World.block_lt_of_cell? w _ hx357_0)).trans hx357_0
                replace p357 := eq_true p357
                replace q357 := eq_true q357
                have hnb79 := NB352_353.out
                have hnc79 := NB353_352.out
                have hcz80_0 : wr.cell? ⟨gb352, 0, none⟩ = some (.bool x353000_2) := (blk_cell BK352.out 0).trans rfl
                have hcz80_1 : wr.cell? ⟨gb352, 1, none⟩ = some (.bool x353001_2) := (blk_cell BK352.out 1).trans rfl
                have hcz80_2 : wr.cell? ⟨gb352, 2, none⟩ = some (.int .u64 x353002_2) := (blk_cell BK352.out 2).trans rfl
                have hcz80_3 : wr.cell? ⟨gb352, 3, none⟩ = some (.int .i64 x353003_2) := (blk_cell BK352.out 3).trans rfl
                have hfz80_0 := blk_frozen BK352.out 0
                have hfz80_1 := blk_frozen BK352.out 1
                have hfz80_2 := blk_frozen BK352.out 2
                have hfz80_3 := blk_frozen BK352.out 3
                have hcz81_0 : wr.cell? ⟨gb353, 0, none⟩ = some (.int .i64 a1_0) := (blk_cell BK353.out 0).trans rfl
                have hcz81_1 : wr.cell? ⟨gb353, 1, none⟩ = some (.int .i64 a1_1) := (blk_cell BK353.out 1).trans rfl
                have hcz81_2 : wr.cell? ⟨gb353, 2, none⟩ = some (.int .i64 a1_2) := (blk_cell BK353.out 2).trans rfl
                have hcz81_3 : wr.cell? ⟨gb353, 3, none⟩ = some (.int .i64 a1_3) := (blk_cell BK353.out 3).trans rfl
                have hcz81_4 : wr.cell? ⟨gb353, 4, none⟩ = some (.int .i64 a1_4) := (blk_cell BK353.out 4).trans rfl
                have hfz81_0 := blk_frozen BK353.out 0
                have hfz81_1 := blk_frozen BK353.out 1
                have hfz81_2 := blk_frozen BK353.out 2
                have hfz81_3 := blk_frozen BK353.out 3
                have hfz81_4 := blk_frozen BK353.out 4
                go_wp2_with (first | (go_at_call 15; (with_reducible refine (medl_Owner.calls a1_0 a1_1 a1_2 a1_3 a1_4 (IntKind.u64.wrap (x353002_2 + 1)) t358 t359 _ A71.out).mono ?_); rintro e w82 ⟨rfl, hb⟩; have n0_ := Aside0.mk (blk_below (g := gb352) (o := .cells #[.bool x353000_2, .bool x353001_2, .int .u64 x353002_2, .int .i64 x353003_2] 55 (0, 0)) (by (with_reducible repeat (first | refine blk_drewN ?_ _ | refine blk_drew ?_ | refine blk_alloc ?_ _)); exact BK352.out) hb); have n1_ := Aside0.mk (blk_below (g := gb353) (o := .cells #[.int .i64 a1_0, .int .i64 a1_1, .int .i64 a1_2, .int .i64 a1_3, .int .i64 a1_4] 23 (0, 0)) (by (with_reducible repeat (first | refine blk_drewN ?_ _ | refine blk_drew ?_ | refine blk_alloc ?_ _)); exact BK353.out) hb); have n2_ := Aside0.mk (below_step (by repeat (first | (with_reducible first | exact HB.out | apply below_alloc | apply pw_below_drewN | apply below_drew1 | refine below_set ?_ GE352.out | refine below_set ?_ GE353.out) | exact HB.out)) hb); clear BK352; clear BK353; clear HB; have BK352 := n0_; have BK353 := n1_; have HB := n2_; clear n0_ n1_ n2_; (try clear hb); (try clear hb2); (try clear hk); (try clear hi); have hcz83_0 : w82.cell? ⟨gb353, 0, none⟩ = some (.int .i64 a1_0) := (blk_cell BK353.out 0).trans rfl; have hcz83_1 : w82.cell? ⟨gb353, 1, none⟩ = some (.int .i64 a1_1) := (blk_cell BK353.out 1).trans rfl; have hcz83_2 : w82.cell? ⟨gb353, 2, none⟩ = some (.int .i64 a1_2) := (blk_cell BK353.out 2).trans rfl; have hcz83_3 : w82.cell? ⟨gb353, 3, none⟩ = some (.int .i64 a1_3) := (blk_cell BK353.out 3).trans rfl; have hcz83_4 : w82.cell? ⟨gb353, 4, none⟩ = some (.int .i64 a1_4) := (blk_cell BK353.out 4).trans rfl; have hfz83_0 := blk_frozen BK353.out 0; have hfz83_1 := blk_frozen BK353.out 1; have hfz83_2 := blk_frozen BK353.out 2; have hfz83_3 := blk_frozen BK353.out 3; have hfz83_4 := blk_frozen BK353.out 4; have hcz84_0 : w82.cell? ⟨gb352, 0, none⟩ = some (.bool x353000_2) := (blk_cell BK352.out 0).trans rfl; have hcz84_1 : w82.cell? ⟨gb352, 1, none⟩ = some (.bool x353001_2) := (blk_cell BK352.out 1).trans rfl; have hcz84_2 : w82.cell? ⟨gb352, 2, none⟩ = some (.int .u64 x353002_2) := (blk_cell BK352.out 2).trans rfl; have hcz84_3 : w82.cell? ⟨gb352, 3, none⟩ = some (.int .i64 x353003_2) := (blk_cell BK352.out 3).trans rfl; have hfz84_0 := blk_frozen BK352.out 0; have hfz84_1 := blk_frozen BK352.out 1; have hfz84_2 := blk_frozen BK352.out 2; have hfz84_3 := blk_frozen BK352.out 3) | (go_at_call 27; (with_reducible refine (guard_Pass.calls k2 x353000_2 x353001_2 x353002_2 x353003_2 a1_0 a1_1 a1_2 a1_3 a1_4 a2 t358 0 0 0 0 (wrap64 ((wrap64 ((wrap64 ((wrap64 (x353003_2 + (wrap64 (a1_1 * a2)))) + (wrap64 (a1_2 * a2)))) + (Int.tmod (wrap64 ((Int.tmod (rd l3 x68_2) (wrap64 ((wrap64 ((wrap64 (2 * a1_4)) * a2)) + 1))) + (wrap64 ((wrap64 ((wrap64 (2 * a1_4)) * a2)) + 1)))) (wrap64 ((wrap64 ((wrap64 (2 * a1_4)) * a2)) + 1))))) - (wrap64 (a1_4 * a2)))) t360 t361 t362 t363 true t365 _ A73.out).mono ?_); rintro e w85 ⟨rfl, hb⟩; have n0_ := Aside0.mk (blk_below (g := gb352) (o := .cells #[.bool x353000_2, .bool x353001_2, .int .u64 x353002_2, .int .i64 x353003_2] 55 (0, 0)) (by (with_reducible repeat (first | refine blk_drewN ?_ _ | refine blk_drew ?_ | refine blk_alloc ?_ _)); exact BK352.out) hb); have n1_ := Aside0.mk (blk_below (g := gb353) (o := .cells #[.int .i64 a1_0, .int .i64 a1_1, .int .i64 a1_2, .int .i64 a1_3, .int .i64 a1_4] 23 (0, 0)) (by (with_reducible repeat (first | refine blk_drewN ?_ _ | refine blk_drew ?_ | refine blk_alloc ?_ _)); exact BK353.out) hb); have n2_ := Aside0.mk (below_step (by repeat (first | (with_reducible first | exact HB.out | apply below_alloc | apply pw_below_drewN | apply below_drew1 | refine below_set ?_ GE352.out | refine below_set ?_ GE353.out) | exact HB.out)) hb); clear BK352; clear BK353; clear HB; have BK352 := n0_; have BK353 := n1_; have HB := n2_; clear n0_ n1_ n2_; (try clear hb); (try clear hb2); (try clear hk); (try clear hi)) | ((with_reducible refine gate_dst (N := 17) rfl ?_); (try (refine gate_guard (by rfl) ?_; dsimp only)); refine box_event ?hg (N := 17) ?hd (cs := #[.bool false, .bool false, .int .u64 0, .int .i64 0]) (t := 55) ?hr ?_; (case hd => rfl); (case hg => rfl); (case hr => first | (go_simp; done) | (go_simp; rfl)); intro gb366 hg w86 hbox hb; have n0_ := Aside0.mk (blk_below (g := gb352) (o := .cells #[.bool x353000_2, .bool x353001_2, .int .u64 x353002_2, .int .i64 x353003_2] 55 (0, 0)) (by (with_reducible repeat (first | refine blk_drewN ?_ _ | refine blk_drew ?_ | refine blk_alloc ?_ _)); exact BK352.out) hb); have n1_ := Aside0.mk (blk_below (g := gb353) (o := .cells #[.int .i64 a1_0, .int .i64 a1_1, .int .i64 a1_2, .int .i64 a1_3, .int .i64 a1_4] 23 (0, 0)) (by (with_reducible repeat (first | refine blk_drewN ?_ _ | refine blk_drew ?_ | refine blk_alloc ?_ _)); exact BK353.out) hb); have n2_ := Aside0.mk (below_step (by repeat (first | (with_reducible first | exact HB.out | apply below_alloc | apply pw_below_drewN | apply below_drew1 | refine below_set ?_ GE352.out | refine below_set ?_ GE353.out) | exact HB.out)) hb); have n3_ := Aside0.mk (hbox); have n4_ := Aside0.mk ((by rw [hg]; exact (below_size (by repeat (first | (with_reducible first | exact HB.out | apply below_alloc | apply pw_below_drewN | apply below_drew1 | refine below_set ?_ GE352.out | refine below_set ?_ GE353.out) | exact HB.out))) : w.heap.size ≤ gb366)); have n5_ := Aside0.mk ((by rw [hg]; exact (below_size (by repeat (first | (with_reducible first | exact HB.out | apply below_alloc | apply pw_below_drewN | apply below_drew1 | refine below_set ?_ GE352.out | refine below_set ?_ GE353.out) | exact HB.out))) : w.heap.size ≤ gb366)); have n6_ := Aside0.mk ((by rw [hg]; exact Nat.ne_of_lt (blk_lt (g := gb352) (o := .cells #[.bool x353000_2, .bool x353001_2, .int .u64 x353002_2, .int .i64 x353003_2] 55 (0, 0)) (by (with_reducible repeat (first | refine blk_drewN ?_ _ | refine blk_drew ?_ | refine blk_alloc ?_ _)); exact BK352.out)) : gb352 ≠ gb366)); have n7_ := Aside0.mk ((by rw [hg]; exact Nat.ne_of_gt (blk_lt (g := gb352) (o := .cells #[.bool x353000_2, .bool x353001_2, .int .u64 x353002_2, .int .i64 x353003_2] 55 (0, 0)) (by (with_reducible repeat (first | refine blk_drewN ?_ _ | refine blk_drew ?_ | refine blk_alloc ?_ _)); exact BK352.out)) : gb366 ≠ gb352)); have n8_ := Aside0.mk ((by rw [hg]; exact Nat.ne_of_lt (blk_lt (g := gb353) (o := .cells #[.int .i64 a1_0, .int .i64 a1_1, .int .i64 a1_2, .int .i64 a1_3, .int .i64 a1_4] 23 (0, 0)) (by (with_reducible repeat (first | refine blk_drewN ?_ _ | refine blk_drew ?_ | refine blk_alloc ?_ _)); exact BK353.out)) : gb353 ≠ gb366)); have n9_ := Aside0.mk ((by rw [hg]; exact Nat.ne_of_gt (blk_lt (g := gb353) (o := .cells #[.int .i64 a1_0, .int .i64 a1_1, .int .i64 a1_2, .int .i64 a1_3, .int .i64 a1_4] 23 (0, 0)) (by (with_reducible repeat (first | refine blk_drewN ?_ _ | refine blk_drew ?_ | refine blk_alloc ?_ _)); exact BK353.out)) : gb366 ≠ gb353)); clear BK352; clear BK353; clear HB; have BK352 := n0_; have BK353 := n1_; have HB := n2_; have BK366 := n3_; have GW366 := n4_; have GE366 := n5_; have NB352_366 := n6_; have NB366_352 := n7_; have NB353_366 := n8_; have NB366_353 := n9_; clear n0_ n1_ n2_ n3_ n4_ n5_ n6_ n7_ n8_ n9_; clear hb hbox hg; have hnb87 := NB366_352.out; have hnc87 := NB352_366.out; have hnb88 := NB366_353.out; have hnc88 := NB353_366.out; have hcz89_0 : w86.cell? ⟨gb366, 0, none⟩ = some (.bool false) := (blk_cell BK366.out 0).trans rfl; have hcz89_1 : w86.cell? ⟨gb366, 1, none⟩ = some (.bool false) := (blk_cell BK366.out 1).trans rfl; have hcz89_2 : w86.cell? ⟨gb366, 2, none⟩ = some (.int .u64 0) := (blk_cell BK366.out 2).trans rfl; have hcz89_3 : w86.cell? ⟨gb366, 3, none⟩ = some (.int .i64 0) := (blk_cell BK366.out 3).trans rfl; have hfz89_0 := blk_frozen BK366.out 0; have hfz89_1 := blk_frozen BK366.out 1; have hfz89_2 := blk_frozen BK366.out 2; have hfz89_3 := blk_frozen BK366.out 3; have hcz90_0 : w86.cell? ⟨gb353, 0, none⟩ = some (.int .i64 a1_0) := (blk_cell BK353.out 0).trans rfl; have hcz90_1 : w86.cell? ⟨gb353, 1, none⟩ = some (.int .i64 a1_1) := (blk_cell BK353.out 1).trans rfl; have hcz90_2 : w86.cell? ⟨gb353, 2, none⟩ = some (.int .i64 a1_2) := (blk_cell BK353.out 2).trans rfl; have hcz90_3 : w86.cell? ⟨gb353, 3, none⟩ = some (.int .i64 a1_3) := (blk_cell BK353.out 3).trans rfl; have hcz90_4 : w86.cell? ⟨gb353, 4, none⟩ = some (.int .i64 a1_4) := (blk_cell BK353.out 4).trans rfl; have hfz90_0 := blk_frozen BK353.out 0; have hfz90_1 := blk_frozen BK353.out 1; have hfz90_2 := blk_frozen BK353.out 2; have hfz90_3 := blk_frozen BK353.out 3; have hfz90_4 := blk_frozen BK353.out 4; have hcz91_0 : w86.cell? ⟨gb352, 0, none⟩ = some (.bool x353000_2) := (blk_cell BK352.out 0).trans rfl; have hcz91_1 : w86.cell? ⟨gb352, 1, none⟩ = some (.bool x353001_2) := (blk_cell BK352.out 1).trans rfl; have hcz91_2 : w86.cell? ⟨gb352, 2, none⟩ = some (.int .u64 x353002_2) := (blk_cell BK352.out 2).trans rfl; have hcz91_3 : w86.cell? ⟨gb352, 3, none⟩ = some (.int .i64 x353003_2) := (blk_cell BK352.out 3).trans rfl; have hfz91_0 := blk_frozen BK352.out 0; have hfz91_1 := blk_frozen BK352.out 1; have hfz91_2 := blk_frozen BK352.out 2; have hfz91_3 := blk_frozen BK352.out 3))
                repeat (go_quiet (first | (go_at_call 15; (with_reducible refine (medl_Owner.calls a1_0 a1_1 a1_2 a1_3 a1_4 (IntKind.u64.wrap (x353002_2 + 1)) t358 t359 _ A71.out).mono ?_); rintro e w82 ⟨rfl, hb⟩; have n0_ := Aside0.mk (blk_below (g := gb352) (o := .cells #[.bool x353000_2, .bool x353001_2, .int .u64 x353002_2, .int .i64 x353003_2] 55 (0, 0)) (by (with_reducible repeat (first | refine blk_drewN ?_ _ | refine blk_drew ?_ | refine blk_alloc ?_ _)); exact BK352.out) hb); have n1_ := Aside0.mk (blk_below (g := gb353) (o := .cells #[.int .i64 a1_0, .int .i64 a1_1, .int .i64 a1_2, .int .i64 a1_3, .int .i64 a1_4] 23 (0, 0)) (by (with_reducible repeat (first | refine blk_drewN ?_ _ | refine blk_drew ?_ | refine blk_alloc ?_ _)); exact BK353.out) hb); have n2_ := Aside0.mk (below_step (by repeat (first | (with_reducible first | exact HB.out | apply below_alloc | apply pw_below_drewN | apply below_drew1 | refine below_set ?_ GE352.out | refine below_set ?_ GE353.out) | exact HB.out)) hb); clear BK352; clear BK353; clear HB; have BK352 := n0_; have BK353 := n1_; have HB := n2_; clear n0_ n1_ n2_; (try clear hb); (try clear hb2); (try clear hk); (try clear hi); have hcz83_0 : w82.cell? ⟨gb353, 0, none⟩ = some (.int .i64 a1_0) := (blk_cell BK353.out 0).trans rfl; have hcz83_1 : w82.cell? ⟨gb353, 1, none⟩ = some (.int .i64 a1_1) := (blk_cell BK353.out 1).trans rfl; have hcz83_2 : w82.cell? ⟨gb353, 2, none⟩ = some (.int .i64 a1_2) := (blk_cell BK353.out 2).trans rfl; have hcz83_3 : w82.cell? ⟨gb353, 3, none⟩ = some (.int .i64 a1_3) := (blk_cell BK353.out 3).trans rfl; have hcz83_4 : w82.cell? ⟨gb353, 4, none⟩ = some (.int .i64 a1_4) := (blk_cell BK353.out 4).trans rfl; have hfz83_0 := blk_frozen BK353.out 0; have hfz83_1 := blk_frozen BK353.out 1; have hfz83_2 := blk_frozen BK353.out 2; have hfz83_3 := blk_frozen BK353.out 3; have hfz83_4 := blk_frozen BK353.out 4; have hcz84_0 : w82.cell? ⟨gb352, 0, none⟩ = some (.bool x353000_2) := (blk_cell BK352.out 0).trans rfl; have hcz84_1 : w82.cell? ⟨gb352, 1, none⟩ = some (.bool x353001_2) := (blk_cell BK352.out 1).trans rfl; have hcz84_2 : w82.cell? ⟨gb352, 2, none⟩ = some (.int .u64 x353002_2) := (blk_cell BK352.out 2).trans rfl; have hcz84_3 : w82.cell? ⟨gb352, 3, none⟩ = some (.int .i64 x353003_2) := (blk_cell BK352.out 3).trans rfl; have hfz84_0 := blk_frozen BK352.out 0; have hfz84_1 := blk_frozen BK352.out 1; have hfz84_2 := blk_frozen BK352.out 2; have hfz84_3 := blk_frozen BK352.out 3) | (go_at_call 27; (with_reducible refine (guard_Pass.calls k2 x353000_2 x353001_2 x353002_2 x353003_2 a1_0 a1_1 a1_2 a1_3 a1_4 a2 t358 0 0 0 0 (wrap64 ((wrap64 ((wrap64 ((wrap64 (x353003_2 + (wrap64 (a1_1 * a2)))) + (wrap64 (a1_2 * a2)))) + (Int.tmod (wrap64 ((Int.tmod (rd l3 x68_2) (wrap64 ((wrap64 ((wrap64 (2 * a1_4)) * a2)) + 1))) + (wrap64 ((wrap64 ((wrap64 (2 * a1_4)) * a2)) + 1)))) (wrap64 ((wrap64 ((wrap64 (2 * a1_4)) * a2)) + 1))))) - (wrap64 (a1_4 * a2)))) t360 t361 t362 t363 true t365 _ A73.out).mono ?_); rintro e w85 ⟨rfl, hb⟩; have n0_ := Aside0.mk (blk_below (g := gb352) (o := .cells #[.bool x353000_2, .bool x353001_2, .int .u64 x353002_2, .int .i64 x353003_2] 55 (0, 0)) (by (with_reducible repeat (first | refine blk_drewN ?_ _ | refine blk_drew ?_ | refine blk_alloc ?_ _)); exact BK352.out) hb); have n1_ := Aside0.mk (blk_below (g := gb353) (o := .cells #[.int .i64 a1_0, .int .i64 a1_1, .int .i64 a1_2, .int .i64 a1_3, .int .i64 a1_4] 23 (0, 0)) (by (with_reducible repeat (first | refine blk_drewN ?_ _ | refine blk_drew ?_ | refine blk_alloc ?_ _)); exact BK353.out) hb); have n2_ := Aside0.mk (below_step (by repeat (first | (with_reducible first | exact HB.out | apply below_alloc | apply pw_below_drewN | apply below_drew1 | refine below_set ?_ GE352.out | refine below_set ?_ GE353.out) | exact HB.out)) hb); clear BK352; clear BK353; clear HB; have BK352 := n0_; have BK353 := n1_; have HB := n2_; clear n0_ n1_ n2_; (try clear hb); (try clear hb2); (try clear hk); (try clear hi)) | ((with_reducible refine gate_dst (N := 17) rfl ?_); (try (refine gate_guard (by rfl) ?_; dsimp only)); refine box_event ?hg (N := 17) ?hd (cs := #[.bool false, .bool false, .int .u64 0, .int .i64 0]) (t := 55) ?hr ?_; (case hd => rfl); (case hg => rfl); (case hr => first | (go_simp; done) | (go_simp; rfl)); intro gb366 hg w86 hbox hb; have n0_ := Aside0.mk (blk_below (g := gb352) (o := .cells #[.bool x353000_2, .bool x353001_2, .int .u64 x353002_2, .int .i64 x353003_2] 55 (0, 0)) (by (with_reducible repeat (first | refine blk_drewN ?_ _ | refine blk_drew ?_ | refine blk_alloc ?_ _)); exact BK352.out) hb); have n1_ := Aside0.mk (blk_below (g := gb353) (o := .cells #[.int .i64 a1_0, .int .i64 a1_1, .int .i64 a1_2, .int .i64 a1_3, .int .i64 a1_4] 23 (0, 0)) (by (with_reducible repeat (first | refine blk_drewN ?_ _ | refine blk_drew ?_ | refine blk_alloc ?_ _)); exact BK353.out) hb); have n2_ := Aside0.mk (below_step (by repeat (first | (with_reducible first | exact HB.out | apply below_alloc | apply pw_below_drewN | apply below_drew1 | refine below_set ?_ GE352.out | refine below_set ?_ GE353.out) | exact HB.out)) hb); have n3_ := Aside0.mk (hbox); have n4_ := Aside0.mk ((by rw [hg]; exact (below_size (by repeat (first | (with_reducible first | exact HB.out | apply below_alloc | apply pw_below_drewN | apply below_drew1 | refine below_set ?_ GE352.out | refine below_set ?_ GE353.out) | exact HB.out))) : w.heap.size ≤ gb366)); have n5_ := Aside0.mk ((by rw [hg]; exact (below_size (by repeat (first | (with_reducible first | exact HB.out | apply below_alloc | apply pw_below_drewN | apply below_drew1 | refine below_set ?_ GE352.out | refine below_set ?_ GE353.out) | exact HB.out))) : w.heap.size ≤ gb366)); have n6_ := Aside0.mk ((by rw [hg]; exact Nat.ne_of_lt (blk_lt (g := gb352) (o := .cells #[.bool x353000_2, .bool x353001_2, .int .u64 x353002_2, .int .i64 x353003_2] 55 (0, 0)) (by (with_reducible repeat (first | refine blk_drewN ?_ _ | refine blk_drew ?_ | refine blk_alloc ?_ _)); exact BK352.out)) : gb352 ≠ gb366)); have n7_ := Aside0.mk ((by rw [hg]; exact Nat.ne_of_gt (blk_lt (g := gb352) (o := .cells #[.bool x353000_2, .bool x353001_2, .int .u64 x353002_2, .int .i64 x353003_2] 55 (0, 0)) (by (with_reducible repeat (first | refine blk_drewN ?_ _ | refine blk_drew ?_ | refine blk_alloc ?_ _)); exact BK352.out)) : gb366 ≠ gb352)); have n8_ := Aside0.mk ((by rw [hg]; exact Nat.ne_of_lt (blk_lt (g := gb353) (o := .cells #[.int .i64 a1_0, .int .i64 a1_1, .int .i64 a1_2, .int .i64 a1_3, .int .i64 a1_4] 23 (0, 0)) (by (with_reducible repeat (first | refine blk_drewN ?_ _ | refine blk_drew ?_ | refine blk_alloc ?_ _)); exact BK353.out)) : gb353 ≠ gb366)); have n9_ := Aside0.mk ((by rw [hg]; exact Nat.ne_of_gt (blk_lt (g := gb353) (o := .cells #[.int .i64 a1_0, .int .i64 a1_1, .int .i64 a1_2, .int .i64 a1_3, .int .i64 a1_4] 23 (0, 0)) (by (with_reducible repeat (first | refine blk_drewN ?_ _ | refine blk_drew ?_ | refine blk_alloc ?_ _)); exact BK353.out)) : gb366 ≠ gb353)); clear BK352; clear BK353; clear HB; have BK352 := n0_; have BK353 := n1_; have HB := n2_; have BK366 := n3_; have GW366 := n4_; have GE366 := n5_; have NB352_366 := n6_; have NB366_352 := n7_; have NB353_366 := n8_; have NB366_353 := n9_; clear n0_ n1_ n2_ n3_ n4_ n5_ n6_ n7_ n8_ n9_; clear hb hbox hg; have hnb87 := NB366_352.out; have hnc87 := NB352_366.out; have hnb88 := NB366_353.out; have hnc88 := NB353_366.out; have hcz89_0 : w86.cell? ⟨gb366, 0, none⟩ = some (.bool false) := (blk_cell BK366.out 0).trans rfl; have hcz89_1 : w86.cell? ⟨gb366, 1, none⟩ = some (.bool false) := (blk_cell BK366.out 1).trans rfl; have hcz89_2 : w86.cell? ⟨gb366, 2, none⟩ = some (.int .u64 0) := (blk_cell BK366.out 2).trans rfl; have hcz89_3 : w86.cell? ⟨gb366, 3, none⟩ = some (.int .i64 0) := (blk_cell BK366.out 3).trans rfl; have hfz89_0 := blk_frozen BK366.out 0; have hfz89_1 := blk_frozen BK366.out 1; have hfz89_2 := blk_frozen BK366.out 2; have hfz89_3 := blk_frozen BK366.out 3; have hcz90_0 : w86.cell? ⟨gb353, 0, none⟩ = some (.int .i64 a1_0) := (blk_cell BK353.out 0).trans rfl; have hcz90_1 : w86.cell? ⟨gb353, 1, none⟩ = some (.int .i64 a1_1) := (blk_cell BK353.out 1).trans rfl; have hcz90_2 : w86.cell? ⟨gb353, 2, none⟩ = some (.int .i64 a1_2) := (blk_cell BK353.out 2).trans rfl; have hcz90_3 : w86.cell? ⟨gb353, 3, none⟩ = some (.int .i64 a1_3) := (blk_cell BK353.out 3).trans rfl; have hcz90_4 : w86.cell? ⟨gb353, 4, none⟩ = some (.int .i64 a1_4) := (blk_cell BK353.out 4).trans rfl; have hfz90_0 := blk_frozen BK353.out 0; have hfz90_1 := blk_frozen BK353.out 1; have hfz90_2 := blk_frozen BK353.out 2; have hfz90_3 := blk_frozen BK353.out 3; have hfz90_4 := blk_frozen BK353.out 4; have hcz91_0 : w86.cell? ⟨gb352, 0, none⟩ = some (.bool x353000_2) := (blk_cell BK352.out 0).trans rfl; have hcz91_1 : w86.cell? ⟨gb352, 1, none⟩ = some (.bool x353001_2) := (blk_cell BK352.out 1).trans rfl; have hcz91_2 : w86.cell? ⟨gb352, 2, none⟩ = some (.int .u64 x353002_2) := (blk_cell BK352.out 2).trans rfl; have hcz91_3 : w86.cell? ⟨gb352, 3, none⟩ = some (.int .i64 x353003_2) := (blk_cell BK352.out 3).trans rfl; have hfz91_0 := blk_frozen BK352.out 0; have hfz91_1 := blk_frozen BK352.out 1; have hfz91_2 := blk_frozen BK352.out 2; have hfz91_3 := blk_frozen BK352.out 3)); try go_wp2_with (first | (go_at_call 15; (with_reducible refine (medl_Owner.calls a1_0 a1_1 a1_2 a1_3 a1_4 (IntKind.u64.wrap (x353002_2 + 1)) t358 t359 _ A71.out).mono ?_); rintro e w82 ⟨rfl, hb⟩; have n0_ := Aside0.mk (blk_below (g := gb352) (o := .cells #[.bool x353000_2, .bool x353001_2, .int .u64 x353002_2, .int .i64 x353003_2] 55 (0, 0)) (by (with_reducible repeat (first | refine blk_drewN ?_ _ | refine blk_drew ?_ | refine blk_alloc ?_ _)); exact BK352.out) hb); have n1_ := Aside0.mk (blk_below (g := gb353) (o := .cells #[.int .i64 a1_0, .int .i64 a1_1, .int .i64 a1_2, .int .i64 a1_3, .int .i64 a1_4] 23 (0, 0)) (by (with_reducible repeat (first | refine blk_drewN ?_ _ | refine blk_drew ?_ | refine blk_alloc ?_ _)); exact BK353.out) hb); have n2_ := Aside0.mk (below_step (by repeat (first | (with_reducible first | exact HB.out | apply below_alloc | apply pw_below_drewN | apply below_drew1 | refine below_set ?_ GE352.out | refine below_set ?_ GE353.out) | exact HB.out)) hb); clear BK352; clear BK353; clear HB; have BK352 := n0_; have BK353 := n1_; have HB := n2_; clear n0_ n1_ n2_; (try clear hb); (try clear hb2); (try clear hk); (try clear hi); have hcz83_0 : w82.cell? ⟨gb353, 0, none⟩ = some (.int .i64 a1_0) := (blk_cell BK353.out 0).trans rfl; have hcz83_1 : w82.cell? ⟨gb353, 1, none⟩ = some (.int .i64 a1_1) := (blk_cell BK353.out 1).trans rfl; have hcz83_2 : w82.cell? ⟨gb353, 2, none⟩ = some (.int .i64 a1_2) := (blk_cell BK353.out 2).trans rfl; have hcz83_3 : w82.cell? ⟨gb353, 3, none⟩ = some (.int .i64 a1_3) := (blk_cell BK353.out 3).trans rfl; have hcz83_4 : w82.cell? ⟨gb353, 4, none⟩ = some (.int .i64 a1_4) := (blk_cell BK353.out 4).trans rfl; have hfz83_0 := blk_frozen BK353.out 0; have hfz83_1 := blk_frozen BK353.out 1; have hfz83_2 := blk_frozen BK353.out 2; have hfz83_3 := blk_frozen BK353.out 3; have hfz83_4 := blk_frozen BK353.out 4; have hcz84_0 : w82.cell? ⟨gb352, 0, none⟩ = some (.bool x353000_2) := (blk_cell BK352.out 0).trans rfl; have hcz84_1 : w82.cell? ⟨gb352, 1, none⟩ = some (.bool x353001_2) := (blk_cell BK352.out 1).trans rfl; have hcz84_2 : w82.cell? ⟨gb352, 2, none⟩ = some (.int .u64 x353002_2) := (blk_cell BK352.out 2).trans rfl; have hcz84_3 : w82.cell? ⟨gb352, 3, none⟩ = some (.int .i64 x353003_2) := (blk_cell BK352.out 3).trans rfl; have hfz84_0 := blk_frozen BK352.out 0; have hfz84_1 := blk_frozen BK352.out 1; have hfz84_2 := blk_frozen BK352.out 2; have hfz84_3 := blk_frozen BK352.out 3) | (go_at_call 27; (with_reducible refine (guard_Pass.calls k2 x353000_2 x353001_2 x353002_2 x353003_2 a1_0 a1_1 a1_2 a1_3 a1_4 a2 t358 0 0 0 0 (wrap64 ((wrap64 ((wrap64 ((wrap64 (x353003_2 + (wrap64 (a1_1 * a2)))) + (wrap64 (a1_2 * a2)))) + (Int.tmod (wrap64 ((Int.tmod (rd l3 x68_2) (wrap64 ((wrap64 ((wrap64 (2 * a1_4)) * a2)) + 1))) + (wrap64 ((wrap64 ((wrap64 (2 * a1_4)) * a2)) + 1)))) (wrap64 ((wrap64 ((wrap64 (2 * a1_4)) * a2)) + 1))))) - (wrap64 (a1_4 * a2)))) t360 t361 t362 t363 true t365 _ A73.out).mono ?_); rintro e w85 ⟨rfl, hb⟩; have n0_ := Aside0.mk (blk_below (g := gb352) (o := .cells #[.bool x353000_2, .bool x353001_2, .int .u64 x353002_2, .int .i64 x353003_2] 55 (0, 0)) (by (with_reducible repeat (first | refine blk_drewN ?_ _ | refine blk_drew ?_ | refine blk_alloc ?_ _)); exact BK352.out) hb); have n1_ := Aside0.mk (blk_below (g := gb353) (o := .cells #[.int .i64 a1_0, .int .i64 a1_1, .int .i64 a1_2, .int .i64 a1_3, .int .i64 a1_4] 23 (0, 0)) (by (with_reducible repeat (first | refine blk_drewN ?_ _ | refine blk_drew ?_ | refine blk_alloc ?_ _)); exact BK353.out) hb); have n2_ := Aside0.mk (below_step (by repeat (first | (with_reducible first | exact HB.out | apply below_alloc | apply pw_below_drewN | apply below_drew1 | refine below_set ?_ GE352.out | refine below_set ?_ GE353.out) | exact HB.out)) hb); clear BK352; clear BK353; clear HB; have BK352 := n0_; have BK353 := n1_; have HB := n2_; clear n0_ n1_ n2_; (try clear hb); (try clear hb2); (try clear hk); (try clear hi)) | ((with_reducible refine gate_dst (N := 17) rfl ?_); (try (refine gate_guard (by rfl) ?_; dsimp only)); refine box_event ?hg (N := 17) ?hd (cs := #[.bool false, .bool false, .int .u64 0, .int .i64 0]) (t := 55) ?hr ?_; (case hd => rfl); (case hg => rfl); (case hr => first | (go_simp; done) | (go_simp; rfl)); intro gb366 hg w86 hbox hb; have n0_ := Aside0.mk (blk_below (g := gb352) (o := .cells #[.bool x353000_2, .bool x353001_2, .int .u64 x353002_2, .int .i64 x353003_2] 55 (0, 0)) (by (with_reducible repeat (first | refine blk_drewN ?_ _ | refine blk_drew ?_ | refine blk_alloc ?_ _)); exact BK352.out) hb); have n1_ := Aside0.mk (blk_below (g := gb353) (o := .cells #[.int .i64 a1_0, .int .i64 a1_1, .int .i64 a1_2, .int .i64 a1_3, .int .i64 a1_4] 23 (0, 0)) (by (with_reducible repeat (first | refine blk_drewN ?_ _ | refine blk_drew ?_ | refine blk_alloc ?_ _)); exact BK353.out) hb); have n2_ := Aside0.mk (below_step (by repeat (first | (with_reducible first | exact HB.out | apply below_alloc | apply pw_below_drewN | apply below_drew1 | refine below_set ?_ GE352.out | refine below_set ?_ GE353.out) | exact HB.out)) hb); have n3_ := Aside0.mk (hbox); have n4_ := Aside0.mk ((by rw [hg]; exact (below_size (by repeat (first | (with_reducible first | exact HB.out | apply below_alloc | apply pw_below_drewN | apply below_drew1 | refine below_set ?_ GE352.out | refine below_set ?_ GE353.out) | exact HB.out))) : w.heap.size ≤ gb366)); have n5_ := Aside0.mk ((by rw [hg]; exact (below_size (by repeat (first | (with_reducible first | exact HB.out | apply below_alloc | apply pw_below_drewN | apply below_drew1 | refine below_set ?_ GE352.out | refine below_set ?_ GE353.out) | exact HB.out))) : w.heap.size ≤ gb366)); have n6_ := Aside0.mk ((by rw [hg]; exact Nat.ne_of_lt (blk_lt (g := gb352) (o := .cells #[.bool x353000_2, .bool x353001_2, .int .u64 x353002_2, .int .i64 x353003_2] 55 (0, 0)) (by (with_reducible repeat (first | refine blk_drewN ?_ _ | refine blk_drew ?_ | refine blk_alloc ?_ _)); exact BK352.out)) : gb352 ≠ gb366)); have n7_ := Aside0.mk ((by rw [hg]; exact Nat.ne_of_gt (blk_lt (g := gb352) (o := .cells #[.bool x353000_2, .bool x353001_2, .int .u64 x353002_2, .int .i64 x353003_2] 55 (0, 0)) (by (with_reducible repeat (first | refine blk_drewN ?_ _ | refine blk_drew ?_ | refine blk_alloc ?_ _)); exact BK352.out)) : gb366 ≠ gb352)); have n8_ := Aside0.mk ((by rw [hg]; exact Nat.ne_of_lt (blk_lt (g := gb353) (o := .cells #[.int .i64 a1_0, .int .i64 a1_1, .int .i64 a1_2, .int .i64 a1_3, .int .i64 a1_4] 23 (0, 0)) (by (with_reducible repeat (first | refine blk_drewN ?_ _ | refine blk_drew ?_ | refine blk_alloc ?_ _)); exact BK353.out)) : gb353 ≠ gb366)); have n9_ := Aside0.mk ((by rw [hg]; exact Nat.ne_of_gt (blk_lt (g := gb353) (o := .cells #[.int .i64 a1_0, .int .i64 a1_1, .int .i64 a1_2, .int .i64 a1_3, .int .i64 a1_4] 23 (0, 0)) (by (with_reducible repeat (first | refine blk_drewN ?_ _ | refine blk_drew ?_ | refine blk_alloc ?_ _)); exact BK353.out)) : gb366 ≠ gb353)); clear BK352; clear BK353; clear HB; have BK352 := n0_; have BK353 := n1_; have HB := n2_; have BK366 := n3_; have GW366 := n4_; have GE366 := n5_; have NB352_366 := n6_; have NB366_352 := n7_; have NB353_366 := n8_; have NB366_353 := n9_; clear n0_ n1_ n2_ n3_ n4_ n5_ n6_ n7_ n8_ n9_; clear hb hbox hg; have hnb87 := NB366_352.out; have hnc87 := NB352_366.out; have hnb88 := NB366_353.out; have hnc88 := NB353_366.out; have hcz89_0 : w86.cell? ⟨gb366, 0, none⟩ = some (.bool false) := (blk_cell BK366.out 0).trans rfl; have hcz89_1 : w86.cell? ⟨gb366, 1, none⟩ = some (.bool false) := (blk_cell BK366.out 1).trans rfl; have hcz89_2 : w86.cell? ⟨gb366, 2, none⟩ = some (.int .u64 0) := (blk_cell BK366.out 2).trans rfl; have hcz89_3 : w86.cell? ⟨gb366, 3, none⟩ = some (.int .i64 0) := (blk_cell BK366.out 3).trans rfl; have hfz89_0 := blk_frozen BK366.out 0; have hfz89_1 := blk_frozen BK366.out 1; have hfz89_2 := blk_frozen BK366.out 2; have hfz89_3 := blk_frozen BK366.out 3; have hcz90_0 : w86.cell? ⟨gb353, 0, none⟩ = some (.int .i64 a1_0) := (blk_cell BK353.out 0).trans rfl; have hcz90_1 : w86.cell? ⟨gb353, 1, none⟩ = some (.int .i64 a1_1) := (blk_cell BK353.out 1).trans rfl; have hcz90_2 : w86.cell? ⟨gb353, 2, none⟩ = some (.int .i64 a1_2) := (blk_cell BK353.out 2).trans rfl; have hcz90_3 : w86.cell? ⟨gb353, 3, none⟩ = some (.int .i64 a1_3) := (blk_cell BK353.out 3).trans rfl; have hcz90_4 : w86.cell? ⟨gb353, 4, none⟩ = some (.int .i64 a1_4) := (blk_cell BK353.out 4).trans rfl; have hfz90_0 := blk_frozen BK353.out 0; have hfz90_1 := blk_frozen BK353.out 1; have hfz90_2 := blk_frozen BK353.out 2; have hfz90_3 := blk_frozen BK353.out 3; have hfz90_4 := blk_frozen BK353.out 4; have hcz91_0 : w86.cell? ⟨gb352, 0, none⟩ = some (.bool x353000_2) := (blk_cell BK352.out 0).trans rfl; have hcz91_1 : w86.cell? ⟨gb352, 1, none⟩ = some (.bool x353001_2) := (blk_cell BK352.out 1).trans rfl; have hcz91_2 : w86.cell? ⟨gb352, 2, none⟩ = some (.int .u64 x353002_2) := (blk_cell BK352.out 2).trans rfl; have hcz91_3 : w86.cell? ⟨gb352, 3, none⟩ = some (.int .i64 x353003_2) := (blk_cell BK352.out 3).trans rfl; have hfz91_0 := blk_frozen BK352.out 0; have hfz91_1 := blk_frozen BK352.out 1; have hfz91_2 := blk_frozen BK352.out 2; have hfz91_3 := blk_frozen BK352.out 3)))
                go_roundg k2
                case measure => have := HJ6.out; have := HK2.out; omega
                case rel => exact ⟨(wrap64 (x68_2 + 1)), (t360), (t361), (t362), (t363), (by first | rfl | (simp; done) | (simp [*]; done)), H', ⟨by have := HJ6.out; have := HK2.out; omega⟩, ⟨by (with_reducible repeat (first | refine blk_drewN ?_ _ | refine blk_drew ?_ | refine blk_alloc ?_ _)); refine blk_put (cs := #[.bool t360, .bool t361, .int .u64 t362, .int .i64 x353003_2]) ?_ 3 _ rfl; (with_reducible repeat (first | refine blk_drewN ?_ _ | refine blk_drew ?_ | refine blk_alloc ?_ _)); refine blk_put (cs := #[.bool t360, .bool t361, .int .u64 x353002_2, .int .i64 x353003_2]) ?_ 2 _ rfl; (with_reducible repeat (first | refine blk_drewN ?_ _ | refine blk_drew ?_ | refine blk_alloc ?_ _)); refine blk_put (cs := #[.bool t360, .bool x353001_2, .int .u64 x353002_2, .int .i64 x353003_2]) ?_ 1 _ rfl; (with_reducible repeat (first | refine blk_drewN ?_ _ | refine blk_drew ?_ | refine blk_alloc ?_ _)); refine blk_put (cs := #[.bool x353000_2, .bool x353001_2, .int .u64 x353002_2, .int .i64 x353003_2]) ?_ 0 _ rfl; (with_reducible repeat (first | refine blk_drewN ?_ _ | refine blk_drew ?_ | refine blk_alloc ?_ _)); refine blk_far ?_ NB352_366.out _; (with_reducible repeat (first | refine blk_drewN ?_ _ | refine blk_drew ?_ | refine blk_alloc ?_ _)); refine blk_far ?_ NB352_366.out _; (with_reducible repeat (first | refine blk_drewN ?_ _ | refine blk_drew ?_ | refine blk_alloc ?_ _)); refine blk_far ?_ NB352_366.out _; (with_reducible repeat (first | refine blk_drewN ?_ _ | refine blk_drew ?_ | refine blk_alloc ?_ _)); refine blk_far ?_ NB352_366.out _; (with_reducible repeat (first | refine blk_drewN ?_ _ | refine blk_drew ?_ | refine blk_alloc ?_ _)); exact BK352.out⟩, ⟨by (with_reducible repeat (first | refine blk_drewN ?_ _ | refine blk_drew ?_ | refine blk_alloc ?_ _)); refine blk_far ?_ NB353_352.out _; (with_reducible repeat (first | refine blk_drewN ?_ _ | refine blk_drew ?_ | refine blk_alloc ?_ _)); refine blk_far ?_ NB353_352.out _; (with_reducible repeat (first | refine blk_drewN ?_ _ | refine blk_drew ?_ | refine blk_alloc ?_ _)); refine blk_far ?_ NB353_352.out _; (with_reducible repeat (first | refine blk_drewN ?_ _ | refine blk_drew ?_ | refine blk_alloc ?_ _)); refine blk_far ?_ NB353_352.out _; (with_reducible repeat (first | refine blk_drewN ?_ _ | refine blk_drew ?_ | refine blk_alloc ?_ _)); refine blk_far ?_ NB353_366.out _; (with_reducible repeat (first | refine blk_drewN ?_ _ | refine blk_drew ?_ | refine blk_alloc ?_ _)); refine blk_far ?_ NB353_366.out _; (with_reducible repeat (first | refine blk_drewN ?_ _ | refine blk_drew ?_ | refine blk_alloc ?_ _)); refine blk_far ?_ NB353_366.out _; (with_reducible repeat (first | refine blk_drewN ?_ _ | refine blk_drew ?_ | refine blk_alloc ?_ _)); refine blk_far ?_ NB353_366.out _; (with_reducible repeat (first | refine blk_drewN ?_ _ | refine blk_drew ?_ | refine blk_alloc ?_ _)); exact BK353.out⟩, ⟨by repeat (first | (with_reducible first | exact HB.out | apply below_alloc | apply pw_below_drewN | apply below_drew1 | refine below_set ?_ GE352.out | refine below_set ?_ GE353.out | refine below_set ?_ GE366.out) | exact HB.out)⟩⟩
               ·rw [if_neg c78] at H
                have c78b0 : (t363 == (wrap64 ((wrap64 ((wrap64 ((wrap64 ((wrap64 (x353003_2 + (wrap64 (a1_1 * a2)))) + (wrap64 (a1_2 * a2)))) + (Int.tmod (wrap64 ((Int.tmod (rd l3 x68_2) (wrap64 ((wrap64 ((wrap64 (2 * a1_4)) * a2)) + 1))) + (wrap64 ((wrap64 ((wrap64 (2 * a1_4)) * a2)) + 1)))) (wrap64 ((wrap64 ((wrap64 (2 * a1_4)) * a2)) + 1))))) - (wrap64 (a1_4 * a2)))) - (wrap64 (a1_2 * a2))))) = false := beq_eq_false_iff_ne.mpr c78
                have c78b1 : (t363 != (wrap64 ((wrap64 ((wrap64 ((wrap64 ((wrap64 (x353003_2 + (wrap64 (a1_1 * a2)))) + (wrap64 (a1_2 * a2)))) + (Int.tmod (wrap64 ((Int.tmod (rd l3 x68_2) (wrap64 ((wrap64 ((wrap64 (2 * a1_4)) * a2)) + 1))) + (wrap64 ((wrap64 ((wrap64 (2 * a1_4)) * a2)) + 1)))) (wrap64 ((wrap64 ((wrap64 (2 * a1_4)) * a2)) + 1))))) - (wrap64 (a1_4 * a2)))) - (wrap64 (a1_2 * a2))))) = true := bne_iff_ne.mpr c78
                obtain rfl := Option.some.inj H
                exact absurd hr_.out (by decide)
              ·rw [if_neg c77] at H
               have c77b0 : (t362 == (IntKind.u64.wrap (x353002_2 + 1))) = false := beq_eq_false_iff_ne.mpr c77
               have c77b1 : (t362 != (IntKind.u64.wrap (x353002_2 + 1))) = true := bne_iff_ne.mpr c77
               obtain rfl := Option.some.inj H
               exact absurd hr_.out (by decide)
             ·replace c76 := Bool.eq_false_iff.mpr c76
              subst c76
              have H1 : (some false) = some r := by rw [if_neg (show ¬ (false = true) by decide)] at H; exact H
              clear H
              have H := H1
              clear H1
              obtain rfl := Option.some.inj H
              exact absurd hr_.out (by decide)
            ·rw [if_neg c75] at H
             have c75b0 : (t365 == 0) = false := beq_eq_false_iff_ne.mpr c75
             have c75b1 : (t365 != 0) = true := bne_iff_ne.mpr c75
             obtain rfl := Option.some.inj H
             exact absurd hr_.out (by decide)
           ·rw [if_neg c74] at H
            have c74b0 : (t359 == 0) = false := beq_eq_false_iff_ne.mpr c74
            have c74b1 : (t359 != 0) = true := bne_iff_ne.mpr c74
            obtain rfl := Option.some.inj H
            exact absurd hr_.out (by decide)
         ·rw [if_neg c70] at H
          exact absurd H (by simp)
        ·rw [if_neg c69] at H
         exact absurd H (by simp)
       ·rw [if_neg c68] at H
        have c68b0 : decide (x68_2 < (l3.length : Int)) = false := decide_eq_false c68
        clear c68
        obtain rfl := Option.some.inj H
        go_wp2
        repeat (go_quiet (fail); try go_wp2)
        go_ret
        exact ⟨by first | rfl | (simp [errW_none, errW_some] <;> rfl) | (simp [*, errW_none, errW_some] <;> rfl), by repeat (first | (with_reducible first | exact HB.out | apply below_alloc | apply pw_below_drewN | apply below_drew1 | refine below_set ?_ GE352.out | refine below_set ?_ GE353.out) | exact HB.out)⟩
 ·replace c6 := Bool.eq_false_iff.mpr c6
  subst c6
  have H1 : (some false) = some r := by rw [if_neg (show ¬ (false = true) by decide)] at H; exact H
  clear H
  have H := H1
  clear H1
  obtain rfl := Option.some.inj H
  exact absurd hr_.out (by decide)

end Go.Proofs.Ytpfkiljakiiieaa.Print
