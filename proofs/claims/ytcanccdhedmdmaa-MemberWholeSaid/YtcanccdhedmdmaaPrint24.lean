-- PRINTED by print.py (a twelfth state) out of the translation. Not trusted: Lean checks it.
import Derived.Test.YtcanccdhedmdmaaPrint0
import Derived.Test.YtcanccdhedmdmaaPrint1
import Derived.Test.YtcanccdhedmdmaaPrint2
import Derived.Test.YtcanccdhedmdmaaPrint3
import Derived.Test.YtcanccdhedmdmaaPrint6
import Derived.Test.YtcanccdhedmdmaaPrint7
import Derived.Test.YtcanccdhedmdmaaPrint20
namespace Go.Proofs.Ytcanccdhedmdmaa.Print
open Go.RowKit Go.Proofs.YtcanccdhedmdmaaW.PrintWords Go.Proofs.YtcanccdhedmdmaaW.PrintLast Go.Proofs.YtcanccdhedmdmaaW.PrintMore Go.Proofs.YtcanccdhedmdmaaX
attribute [local go_sem] max2_int min2_int max_two min_two max_three min_three max_four min_four   -- for this text's walks alone
set_option linter.unusedVariables false
set_option linter.unusedSimpArgs false

attribute [local go_sem high] eqA25
/-! ### palletlaw10_MemberWhole: function 9 -/
mutual
def palletlaw10_MemberWhole.j0 : Nat → Int → Int → Int → Bool → Bool → Int → Int → Int → Int → Int → Option (Bool)
 | 0, _, _, _, _, _, _, _, _, _, _ => none
 | k + 1, x1, x2, x3, x9, x43, x300000, x300001, x300002, x300003, x300004 => if x43 = true then (some x9) else (palletlaw10_MemberWhole.l0 k x1 x2 x3 x9 ([] : List Int) ([] : List Int) x300000 0 x300000 x300001 x300002 x300003 x300004)
def palletlaw10_MemberWhole.l0 : Nat → Int → Int → Int → Bool → List Int → List Int → Int → Int → Int → Int → Int → Int → Int → Option (Bool)
 | 0, _, _, _, _, _, _, _, _, _, _, _, _, _ => none
 | k + 1, x1, x2, x3, x9, x10, x11, x46, x47, x300000, x300001, x300002, x300003, x300004 => if x47 < x46 then (if x10.length < 17592186044416 then (if x11.length < 17592186044416 then (palletlaw10_MemberWhole.l0 k x1 x2 x3 x9 (x10 ++ [1]) (x11 ++ [0]) x46 (wrap64 (x47 + 1)) x300000 x300001 x300002 x300003 x300004) else (none)) else (none)) else ((member_Round.f k x300000 x300001 x300002 x300003 x300004 x1 x2 x3 x10).bind fun bt308 => ((member_Round.f k x300000 x300001 x300002 x300003 x300004 x1 x2 x3 x11).bind fun bt313 => (if bt308.2.2.2 = 0 then (if bt313.2.2.2 = 0 then (if bt308.2.1 = x300000 then (if bt308.2.2.1 = 0 then (if (!(bt313.2.1 == 0) || (!(bt313.2.2.1 == 0))) = true then (palletlaw10_MemberWhole.j2 k x1 x9 bt308.1 bt313.1 true x300000 x300001 x300002 x300003 x300004) else ((member_Clique.f bt308.2.1 bt308.2.2.1).bind fun t318 => (if t318 = true then (palletlaw10_MemberWhole.j2 k x1 x9 bt308.1 bt313.1 true x300000 x300001 x300002 x300003 x300004) else ((member_Clique.f bt313.2.1 bt313.2.2.1).bind fun t319 => (palletlaw10_MemberWhole.j2 k x1 x9 bt308.1 bt313.1 t319 x300000 x300001 x300002 x300003 x300004))))) else (palletlaw10_MemberWhole.j2 k x1 x9 bt308.1 bt313.1 true x300000 x300001 x300002 x300003 x300004)) else (palletlaw10_MemberWhole.j2 k x1 x9 bt308.1 bt313.1 true x300000 x300001 x300002 x300003 x300004)) else (palletlaw10_MemberWhole.j2 k x1 x9 bt308.1 bt313.1 true x300000 x300001 x300002 x300003 x300004)) else (palletlaw10_MemberWhole.j2 k x1 x9 bt308.1 bt313.1 true x300000 x300001 x300002 x300003 x300004))))
def palletlaw10_MemberWhole.j2 : Nat → Int → Bool → Int → Int → Bool → Int → Int → Int → Int → Int → Option (Bool)
 | 0, _, _, _, _, _, _, _, _, _, _ => none
 | k + 1, x1, x9, x12, x15, x106, x300000, x300001, x300002, x300003, x300004 => if x106 = true then (some false) else (palletlaw10_MemberWhole.l1 k x1 x9 x12 x15 x300000 0)
def palletlaw10_MemberWhole.l1 : Nat → Int → Bool → Int → Int → Int → Int → Option (Bool)
 | 0, _, _, _, _, _, _ => none
 | k + 1, x1, x9, x12, x15, x108, x109 => if x109 < x108 then ((frame_Has.f x12 x109).bind fun t320 => (if t320 = true then ((frame_Has.f x15 x109).bind fun t321 => (if (t321 != (x109 == x1)) = true then (some false) else (palletlaw10_MemberWhole.l1 k x1 x9 x12 x15 x108 (wrap64 (x109 + 1))))) else (some false))) else (some x9)
end
def palletlaw10_MemberWhole.f (k : Nat) (a0_0 : Int) (a0_1 : Int) (a0_2 : Int) (a0_3 : Int) (a0_4 : Int) (a1 : Int) (a2 : Int) (a3 : Int) : Option (Bool) := (palletlaw10_live.f k).bind fun t300 => (if t300 = true then ((medl_Check.f a0_0 a0_1 a0_2 a0_3 a0_4).bind fun t301 => (if t301 = 0 then (if a1 < 0 then (palletlaw10_MemberWhole.j0 k a1 a2 a3 t300 true a0_0 a0_1 a0_2 a0_3 a0_4) else (if a1 ≥ a0_0 then (palletlaw10_MemberWhole.j0 k a1 a2 a3 t300 true a0_0 a0_1 a0_2 a0_3 a0_4) else (if a3 > 2147483648 then (palletlaw10_MemberWhole.j0 k a1 a2 a3 t300 true a0_0 a0_1 a0_2 a0_3 a0_4) else (palletlaw10_MemberWhole.j0 k a1 a2 a3 t300 (decide (a0_0 > 16)) a0_0 a0_1 a0_2 a0_3 a0_4)))) else (palletlaw10_MemberWhole.j0 k a1 a2 a3 t300 true a0_0 a0_1 a0_2 a0_3 a0_4))) else (some false))
theorem palletlaw10_MemberWhole.mono_l : ∀ k, (∀ y0 y1 y2 y3 y4 y5 y6 y7 y8 y9, LeO (palletlaw10_MemberWhole.j0 k y0 y1 y2 y3 y4 y5 y6 y7 y8 y9) (palletlaw10_MemberWhole.j0 (k + 1) y0 y1 y2 y3 y4 y5 y6 y7 y8 y9)) ∧ (∀ y0 y1 y2 y3 y4 y5 y6 y7 y8 y9 y10 y11 y12, LeO (palletlaw10_MemberWhole.l0 k y0 y1 y2 y3 y4 y5 y6 y7 y8 y9 y10 y11 y12) (palletlaw10_MemberWhole.l0 (k + 1) y0 y1 y2 y3 y4 y5 y6 y7 y8 y9 y10 y11 y12)) ∧ (∀ y0 y1 y2 y3 y4 y5 y6 y7 y8 y9, LeO (palletlaw10_MemberWhole.j2 k y0 y1 y2 y3 y4 y5 y6 y7 y8 y9) (palletlaw10_MemberWhole.j2 (k + 1) y0 y1 y2 y3 y4 y5 y6 y7 y8 y9)) ∧ (∀ y0 y1 y2 y3 y4 y5, LeO (palletlaw10_MemberWhole.l1 k y0 y1 y2 y3 y4 y5) (palletlaw10_MemberWhole.l1 (k + 1) y0 y1 y2 y3 y4 y5))
 | 0 => ⟨fun _ _ _ _ _ _ _ _ _ _ r h => by simp [palletlaw10_MemberWhole.j0] at h, fun _ _ _ _ _ _ _ _ _ _ _ _ _ r h => by simp [palletlaw10_MemberWhole.l0] at h, fun _ _ _ _ _ _ _ _ _ _ r h => by simp [palletlaw10_MemberWhole.j2] at h, fun _ _ _ _ _ _ r h => by simp [palletlaw10_MemberWhole.l1] at h⟩
 | k + 1 => by
  obtain ⟨ih0, ih1, ih2, ih3⟩ := palletlaw10_MemberWhole.mono_l k
  refine ⟨?_, ?_, ?_, ?_⟩
  ·intro y0 y1 y2 y3 y4 y5 y6 y7 y8 y9
   unfold palletlaw10_MemberWhole.j0
   repeat' first
   | (with_reducible exact ih0 _ _ _ _ _ _ _ _ _ _)
   | (with_reducible exact ih1 _ _ _ _ _ _ _ _ _ _ _ _ _)
   | (with_reducible exact ih2 _ _ _ _ _ _ _ _ _ _)
   | (with_reducible exact ih3 _ _ _ _ _ _)
   | (with_reducible exact member_Round.mono _ _ _ _ _ _ _ _ _ _)
   | (with_reducible exact palletlaw10_live.mono _)
   | (with_reducible exact LeO.refl _)
   | (with_reducible exact LeO.none _)
   | (with_reducible refine LeO.ite ?_ ?_)
   | (with_reducible refine LeO.bind ?_ (fun _ => ?_))
   | exact ih0 _ _ _ _ _ _ _ _ _ _
   | exact ih1 _ _ _ _ _ _ _ _ _ _ _ _ _
   | exact ih2 _ _ _ _ _ _ _ _ _ _
   | exact ih3 _ _ _ _ _ _
   | exact member_Round.mono _ _ _ _ _ _ _ _ _ _
   | exact palletlaw10_live.mono _
   | exact LeO.none _
   | refine LeO.ite ?_ ?_
   | refine LeO.bind ?_ (fun _ => ?_)
  ·intro y0 y1 y2 y3 y4 y5 y6 y7 y8 y9 y10 y11 y12
   unfold palletlaw10_MemberWhole.l0
   repeat' first
   | (with_reducible exact ih0 _ _ _ _ _ _ _ _ _ _)
   | (with_reducible exact ih1 _ _ _ _ _ _ _ _ _ _ _ _ _)
   | (with_reducible exact ih2 _ _ _ _ _ _ _ _ _ _)
   | (with_reducible exact ih3 _ _ _ _ _ _)
   | (with_reducible exact member_Round.mono _ _ _ _ _ _ _ _ _ _)
   | (with_reducible exact palletlaw10_live.mono _)
   | (with_reducible exact LeO.refl _)
   | (with_reducible exact LeO.none _)
   | (with_reducible refine LeO.ite ?_ ?_)
   | (with_reducible refine LeO.bind ?_ (fun _ => ?_))
   | exact ih0 _ _ _ _ _ _ _ _ _ _
   | exact ih1 _ _ _ _ _ _ _ _ _ _ _ _ _
   | exact ih2 _ _ _ _ _ _ _ _ _ _
   | exact ih3 _ _ _ _ _ _
   | exact member_Round.mono _ _ _ _ _ _ _ _ _ _
   | exact palletlaw10_live.mono _
   | exact LeO.none _
   | refine LeO.ite ?_ ?_
   | refine LeO.bind ?_ (fun _ => ?_)
  ·intro y0 y1 y2 y3 y4 y5 y6 y7 y8 y9
   unfold palletlaw10_MemberWhole.j2
   repeat' first
   | (with_reducible exact ih0 _ _ _ _ _ _ _ _ _ _)
   | (with_reducible exact ih1 _ _ _ _ _ _ _ _ _ _ _ _ _)
   | (with_reducible exact ih2 _ _ _ _ _ _ _ _ _ _)
   | (with_reducible exact ih3 _ _ _ _ _ _)
   | (with_reducible exact member_Round.mono _ _ _ _ _ _ _ _ _ _)
   | (with_reducible exact palletlaw10_live.mono _)
   | (with_reducible exact LeO.refl _)
   | (with_reducible exact LeO.none _)
   | (with_reducible refine LeO.ite ?_ ?_)
   | (with_reducible refine LeO.bind ?_ (fun _ => ?_))
   | exact ih0 _ _ _ _ _ _ _ _ _ _
   | exact ih1 _ _ _ _ _ _ _ _ _ _ _ _ _
   | exact ih2 _ _ _ _ _ _ _ _ _ _
   | exact ih3 _ _ _ _ _ _
   | exact member_Round.mono _ _ _ _ _ _ _ _ _ _
   | exact palletlaw10_live.mono _
   | exact LeO.none _
   | refine LeO.ite ?_ ?_
   | refine LeO.bind ?_ (fun _ => ?_)
  ·intro y0 y1 y2 y3 y4 y5
   unfold palletlaw10_MemberWhole.l1
   repeat' first
   | (with_reducible exact ih0 _ _ _ _ _ _ _ _ _ _)
   | (with_reducible exact ih1 _ _ _ _ _ _ _ _ _ _ _ _ _)
   | (with_reducible exact ih2 _ _ _ _ _ _ _ _ _ _)
   | (with_reducible exact ih3 _ _ _ _ _ _)
   | (with_reducible exact member_Round.mono _ _ _ _ _ _ _ _ _ _)
   | (with_reducible exact palletlaw10_live.mono _)
   | (with_reducible exact LeO.refl _)
   | (with_reducible exact LeO.none _)
   | (with_reducible refine LeO.ite ?_ ?_)
   | (with_reducible refine LeO.bind ?_ (fun _ => ?_))
   | exact ih0 _ _ _ _ _ _ _ _ _ _
   | exact ih1 _ _ _ _ _ _ _ _ _ _ _ _ _
   | exact ih2 _ _ _ _ _ _ _ _ _ _
   | exact ih3 _ _ _ _ _ _
   | exact member_Round.mono _ _ _ _ _ _ _ _ _ _
   | exact palletlaw10_live.mono _
   | exact LeO.none _
   | refine LeO.ite ?_ ?_
   | refine LeO.bind ?_ (fun _ => ?_)
theorem palletlaw10_MemberWhole.mono : ∀ a0 a1 a2 a3 a4 a5 a6 a7 k, LeO (palletlaw10_MemberWhole.f k a0 a1 a2 a3 a4 a5 a6 a7) (palletlaw10_MemberWhole.f (k + 1) a0 a1 a2 a3 a4 a5 a6 a7) := by
 intro a0 a1 a2 a3 a4 a5 a6 a7 k
 obtain ⟨ih0, ih1, ih2, ih3⟩ := palletlaw10_MemberWhole.mono_l k
 unfold palletlaw10_MemberWhole.f
 repeat' first
   | (with_reducible exact ih0 _ _ _ _ _ _ _ _ _ _)
   | (with_reducible exact ih1 _ _ _ _ _ _ _ _ _ _ _ _ _)
   | (with_reducible exact ih2 _ _ _ _ _ _ _ _ _ _)
   | (with_reducible exact ih3 _ _ _ _ _ _)
   | (with_reducible exact member_Round.mono _ _ _ _ _ _ _ _ _ _)
   | (with_reducible exact palletlaw10_live.mono _)
   | (with_reducible exact LeO.refl _)
   | (with_reducible exact LeO.none _)
   | (with_reducible refine LeO.ite ?_ ?_)
   | (with_reducible refine LeO.bind ?_ (fun _ => ?_))
   | exact ih0 _ _ _ _ _ _ _ _ _ _
   | exact ih1 _ _ _ _ _ _ _ _ _ _ _ _ _
   | exact ih2 _ _ _ _ _ _ _ _ _ _
   | exact ih3 _ _ _ _ _ _
   | exact member_Round.mono _ _ _ _ _ _ _ _ _ _
   | exact palletlaw10_live.mono _
   | exact LeO.none _
   | refine LeO.ite ?_ ?_
   | refine LeO.bind ?_ (fun _ => ?_)
set_option maxHeartbeats 8000000 in
set_option maxRecDepth 100000 in
theorem palletlaw10_MemberWhole.calls (k : Nat) (a0_0 : Int) (a0_1 : Int) (a0_2 : Int) (a0_3 : Int) (a0_4 : Int) (a1 : Int) (a2 : Int) (a3 : Int) (r : Bool) (w : World) (hr_ : Aside0 (r = true)) (h : palletlaw10_MemberWhole.f k a0_0 a0_1 a0_2 a0_3 a0_4 a1 a2 a3 = some r) :
  Calls Try.prog 9 #[.agg #[.int .i64 a0_0, .int .i64 a0_1, .int .i64 a0_2, .int .i64 a0_3, .int .i64 a0_4], .int .i64 a1, .int .u16 a2, .int .u64 a3] w fun e w' => e = .returned (.bool r) ∧ Below w.heap.size w w' := by
 have hu32 := Try.underlying32
 have hu25 := Try.underlying25
 have HB := Aside0.mk (Below.refl w.heap.size w)
 have H : ((palletlaw10_live.f k).bind fun t300 => (if t300 = true then ((medl_Check.f a0_0 a0_1 a0_2 a0_3 a0_4).bind fun t301 => (if t301 = 0 then (if a1 < 0 then (palletlaw10_MemberWhole.j0 k a1 a2 a3 t300 true a0_0 a0_1 a0_2 a0_3 a0_4) else (if a1 ≥ a0_0 then (palletlaw10_MemberWhole.j0 k a1 a2 a3 t300 true a0_0 a0_1 a0_2 a0_3 a0_4) else (if a3 > 2147483648 then (palletlaw10_MemberWhole.j0 k a1 a2 a3 t300 true a0_0 a0_1 a0_2 a0_3 a0_4) else (palletlaw10_MemberWhole.j0 k a1 a2 a3 t300 (decide (a0_0 > 16)) a0_0 a0_1 a0_2 a0_3 a0_4)))) else (palletlaw10_MemberWhole.j0 k a1 a2 a3 t300 true a0_0 a0_1 a0_2 a0_3 a0_4))) else (some false))) = some r := h
 clear h
 replace H := Option.bind_eq_some_iff.mp H
 obtain ⟨t300, A50, H⟩ := H
 replace H : (if t300 = true then ((medl_Check.f a0_0 a0_1 a0_2 a0_3 a0_4).bind fun t301 => (if t301 = 0 then (if a1 < 0 then (palletlaw10_MemberWhole.j0 k a1 a2 a3 t300 true a0_0 a0_1 a0_2 a0_3 a0_4) else (if a1 ≥ a0_0 then (palletlaw10_MemberWhole.j0 k a1 a2 a3 t300 true a0_0 a0_1 a0_2 a0_3 a0_4) else (if a3 > 2147483648 then (palletlaw10_MemberWhole.j0 k a1 a2 a3 t300 true a0_0 a0_1 a0_2 a0_3 a0_4) else (palletlaw10_MemberWhole.j0 k a1 a2 a3 t300 (decide (a0_0 > 16)) a0_0 a0_1 a0_2 a0_3 a0_4)))) else (palletlaw10_MemberWhole.j0 k a1 a2 a3 t300 true a0_0 a0_1 a0_2 a0_3 a0_4))) else (some false)) = some r := H
 have A5 := Aside0.mk A50
 clear A50
 by_cases c6 : t300 = true
 ·subst c6
  have H1 : ((medl_Check.f a0_0 a0_1 a0_2 a0_3 a0_4).bind fun t301 => (if t301 = 0 then (if a1 < 0 then (palletlaw10_MemberWhole.j0 k a1 a2 a3 true true a0_0 a0_1 a0_2 a0_3 a0_4) else (if a1 ≥ a0_0 then (palletlaw10_MemberWhole.j0 k a1 a2 a3 true true a0_0 a0_1 a0_2 a0_3 a0_4) else (if a3 > 2147483648 then (palletlaw10_MemberWhole.j0 k a1 a2 a3 true true a0_0 a0_1 a0_2 a0_3 a0_4) else (palletlaw10_MemberWhole.j0 k a1 a2 a3 true (decide (a0_0 > 16)) a0_0 a0_1 a0_2 a0_3 a0_4)))) else (palletlaw10_MemberWhole.j0 k a1 a2 a3 true true a0_0 a0_1 a0_2 a0_3 a0_4))) = some r := by rw [if_pos rfl] at H; exact H
  clear H
  have H := H1
  clear H1
  have HC7 := Aside0.mk H
  clear H
  go_enter Try.func9, Try.ntmps9
  go_upto_region 4 with (first | ((with_reducible refine gate_dst (N := 4) rfl ?_); refine box_event ?hg (N := 4) ?hd (cs := #[.int .i64 a0_0, .int .i64 a0_1, .int .i64 a0_2, .int .i64 a0_3, .int .i64 a0_4]) (t := 32) ?hr ?_; (case hd => rfl); (case hg => rfl); (case hr => first | (go_simp; done) | (go_simp; rfl)); intro gb299 hg w8 hbox hb; have n0_ := Aside0.mk (below_step (by repeat (first | (with_reducible first | exact HB.out | apply below_alloc | apply pw_below_drewN | apply below_drew1) | exact HB.out)) hb); have n1_ := Aside0.mk (hbox); have n2_ := Aside0.mk ((by rw [hg]; exact (below_size (by repeat (first | (with_reducible first | exact HB.out | apply below_alloc | apply pw_below_drewN | apply below_drew1) | exact HB.out))) : w.heap.size ≤ gb299)); have n3_ := Aside0.mk ((by rw [hg]; exact (below_size (by repeat (first | (with_reducible first | exact HB.out | apply below_alloc | apply pw_below_drewN | apply below_drew1) | exact HB.out))) : w.heap.size ≤ gb299)); clear HB; have HB := n0_; have BK299 := n1_; have GW299 := n2_; have GE299 := n3_; clear n0_ n1_ n2_ n3_; clear hb hbox hg) | ((with_reducible refine gate_callee (f := 10) rfl ?_); refine goesL_ (some 19) rfl rfl Try.func10 (by kernel_rfl) rfl #[] rfl (by (try simp only [List.map_toArray, List.map_cons, List.map_nil]); first | done | rfl | (simp only [List.length_drop, List.length_take]; rfl)) ?_; (with_reducible refine (palletlaw10_live.calls k  true _ A5.out).mono ?_); rintro e w9 ⟨rfl, hb⟩; refine ⟨_, rfl, ?_⟩; have n0_ := Aside0.mk (blk_below (g := gb299) (o := .cells #[.int .i64 a0_0, .int .i64 a0_1, .int .i64 a0_2, .int .i64 a0_3, .int .i64 a0_4] 32 (0, 0)) (by (with_reducible repeat (first | refine blk_drewN ?_ _ | refine blk_drew ?_ | refine blk_alloc ?_ _)); exact BK299.out) hb); have n1_ := Aside0.mk (below_step (by repeat (first | (with_reducible first | exact HB.out | apply below_alloc | apply pw_below_drewN | apply below_drew1 | refine below_set ?_ GE299.out) | exact HB.out)) hb); clear BK299; clear HB; have BK299 := n0_; have HB := n1_; clear n0_ n1_; (try clear hb); (try clear hb2); (try clear hk); (try clear hi)))
  (try simp only [Act.put, List.setIfInBounds_toArray, List.set_cons_zero, List.set_cons_succ])
  go_cut [43] (fun v43 wc => ∃ (kq : Nat) (x43_6 : Bool), v43 = .bool x43_6 ∧ Aside0 (palletlaw10_MemberWhole.j0 kq a1 a2 a3 true x43_6 a0_0 a0_1 a0_2 a0_3 a0_4 = some r) ∧ Aside0 (kq ≤ k) ∧ Aside0 (wc.heap[gb299]? = some (.cells #[.int .i64 a0_0, .int .i64 a0_1, .int .i64 a0_2, .int .i64 a0_3, .int .i64 a0_4] 32 (0, 0))) ∧ Aside0 (Below w.heap.size w wc))
  case first =>
   have H := HC7.out
   clear HC7
   replace H := Option.bind_eq_some_iff.mp H
   obtain ⟨t301, A100, H⟩ := H
   replace H : (if t301 = 0 then (if a1 < 0 then (palletlaw10_MemberWhole.j0 k a1 a2 a3 true true a0_0 a0_1 a0_2 a0_3 a0_4) else (if a1 ≥ a0_0 then (palletlaw10_MemberWhole.j0 k a1 a2 a3 true true a0_0 a0_1 a0_2 a0_3 a0_4) else (if a3 > 2147483648 then (palletlaw10_MemberWhole.j0 k a1 a2 a3 true true a0_0 a0_1 a0_2 a0_3 a0_4) else (palletlaw10_MemberWhole.j0 k a1 a2 a3 true (decide (a0_0 > 16)) a0_0 a0_1 a0_2 a0_3 a0_4)))) else (palletlaw10_MemberWhole.j0 k a1 a2 a3 true true a0_0 a0_1 a0_2 a0_3 a0_4)) = some r := H
   have A10 := Aside0.mk A100
   clear A100
   by_cases c11 : t301 = 0
   ·rw [if_pos c11] at H
    have c11b0 : (t301 == 0) = true := beq_iff_eq.mpr c11
    have c11b1 : (t301 != 0) = false := bne_eq_false_iff_eq.mpr c11
    clear c11
    (first | rw [c11b0] | (simp only [i64_w, i32_w]; rw [c11b0]) | skip)
    by_cases c12 : a1 < 0
    ·rw [if_pos c12] at H
     have c12b0 : decide (a1 < 0) = true := decide_eq_true c12
     clear c12
     have H' := Aside0.mk H
     clear H
     have hcz13_0 : w9.cell? ⟨gb299, 0, none⟩ = some (.int .i64 a0_0) := (blk_cell BK299.out 0).trans rfl
     have hcz13_1 : w9.cell? ⟨gb299, 1, none⟩ = some (.int .i64 a0_1) := (blk_cell BK299.out 1).trans rfl
     have hcz13_2 : w9.cell? ⟨gb299, 2, none⟩ = some (.int .i64 a0_2) := (blk_cell BK299.out 2).trans rfl
     have hcz13_3 : w9.cell? ⟨gb299, 3, none⟩ = some (.int .i64 a0_3) := (blk_cell BK299.out 3).trans rfl
     have hcz13_4 : w9.cell? ⟨gb299, 4, none⟩ = some (.int .i64 a0_4) := (blk_cell BK299.out 4).trans rfl
     have hfz13_0 := blk_frozen BK299.out 0
     have hfz13_1 := blk_frozen BK299.out 1
     have hfz13_2 := blk_frozen BK299.out 2
     have hfz13_3 := blk_frozen BK299.out 3
     have hfz13_4 := blk_frozen BK299.out 4
     go_wp2_with (first | ((with_reducible refine gate_callee (f := 25) rfl ?_); refine goesL_ (some 23) rfl rfl Try.func25 (by kernel_rfl) rfl #[.agg #[.int .i64 a0_0, .int .i64 a0_1, .int .i64 a0_2, .int .i64 a0_3, .int .i64 a0_4]] rfl (by (try simp only [List.map_toArray, List.map_cons, List.map_nil]); first | done | rfl | (simp only [List.length_drop, List.length_take]; rfl)) ?_; (with_reducible refine (medl_Check.calls a0_0 a0_1 a0_2 a0_3 a0_4 t301 _ A10.out).mono ?_); rintro e w14 ⟨rfl, hb⟩; refine ⟨_, rfl, ?_⟩; have n0_ := Aside0.mk (blk_below (g := gb299) (o := .cells #[.int .i64 a0_0, .int .i64 a0_1, .int .i64 a0_2, .int .i64 a0_3, .int .i64 a0_4] 32 (0, 0)) (by (with_reducible repeat (first | refine blk_drewN ?_ _ | refine blk_drew ?_ | refine blk_alloc ?_ _)); exact BK299.out) hb); have n1_ := Aside0.mk (below_step (by repeat (first | (with_reducible first | exact HB.out | apply below_alloc | apply pw_below_drewN | apply below_drew1 | refine below_set ?_ GE299.out) | exact HB.out)) hb); clear BK299; clear HB; have BK299 := n0_; have HB := n1_; clear n0_ n1_; (try clear hb); (try clear hb2); (try clear hk); (try clear hi)))
     go_meet
     case rel => exact ⟨_, (true), (by first | rfl | (simp; done) | (simp [*]; done)), H', ⟨by first | omega | exact Nat.le_refl _⟩, ⟨by (with_reducible repeat (first | refine blk_drewN ?_ _ | refine blk_drew ?_ | refine blk_alloc ?_ _)); exact BK299.out⟩, ⟨by repeat (first | (with_reducible first | exact HB.out | apply below_alloc | apply pw_below_drewN | apply below_drew1 | refine below_set ?_ GE299.out) | exact HB.out)⟩⟩
    ·rw [if_neg c12] at H
     have c12b0 : decide (a1 < 0) = false := decide_eq_false c12
     clear c12
     by_cases c15 : a1 ≥ a0_0
     ·rw [if_pos c15] at H
      have c15b0 : decide (a0_0 ≤ a1) = true := decide_eq_true c15
      clear c15
      have H' := Aside0.mk H
      clear H
      have hcz16_0 : w9.cell? ⟨gb299, 0, none⟩ = some (.int .i64 a0_0) := (blk_cell BK299.out 0).trans rfl
      have hcz16_1 : w9.cell? ⟨gb299, 1, none⟩ = some (.int .i64 a0_1) := (blk_cell BK299.out 1).trans rfl
      have hcz16_2 : w9.cell? ⟨gb299, 2, none⟩ = some (.int .i64 a0_2) := (blk_cell BK299.out 2).trans rfl
      have hcz16_3 : w9.cell? ⟨gb299, 3, none⟩ = some (.int .i64 a0_3) := (blk_cell BK299.out 3).trans rfl
      have hcz16_4 : w9.cell? ⟨gb299, 4, none⟩ = some (.int .i64 a0_4) := (blk_cell BK299.out 4).trans rfl
      have hfz16_0 := blk_frozen BK299.out 0
      have hfz16_1 := blk_frozen BK299.out 1
      have hfz16_2 := blk_frozen BK299.out 2
      have hfz16_3 := blk_frozen BK299.out 3
      have hfz16_4 := blk_frozen BK299.out 4
      go_wp2_with (first | ((with_reducible refine gate_callee (f := 25) rfl ?_); refine goesL_ (some 23) rfl rfl Try.func25 (by kernel_rfl) rfl #[.agg #[.int .i64 a0_0, .int .i64 a0_1, .int .i64 a0_2, .int .i64 a0_3, .int .i64 a0_4]] rfl (by (try simp only [List.map_toArray, List.map_cons, List.map_nil]); first | done | rfl | (simp only [List.length_drop, List.length_take]; rfl)) ?_; (with_reducible refine (medl_Check.calls a0_0 a0_1 a0_2 a0_3 a0_4 t301 _ A10.out).mono ?_); rintro e w17 ⟨rfl, hb⟩; refine ⟨_, rfl, ?_⟩; have n0_ := Aside0.mk (blk_below (g := gb299) (o := .cells #[.int .i64 a0_0, .int .i64 a0_1, .int .i64 a0_2, .int .i64 a0_3, .int .i64 a0_4] 32 (0, 0)) (by (with_reducible repeat (first | refine blk_drewN ?_ _ | refine blk_drew ?_ | refine blk_alloc ?_ _)); exact BK299.out) hb); have n1_ := Aside0.mk (below_step (by repeat (first | (with_reducible first | exact HB.out | apply below_alloc | apply pw_below_drewN | apply below_drew1 | refine below_set ?_ GE299.out) | exact HB.out)) hb); clear BK299; clear HB; have BK299 := n0_; have HB := n1_; clear n0_ n1_; (try clear hb); (try clear hb2); (try clear hk); (try clear hi); have hcz18_0 : w17.cell? ⟨gb299, 0, none⟩ = some (.int .i64 a0_0) := (blk_cell BK299.out 0).trans rfl; have hcz18_1 : w17.cell? ⟨gb299, 1, none⟩ = some (.int .i64 a0_1) := (blk_cell BK299.out 1).trans rfl; have hcz18_2 : w17.cell? ⟨gb299, 2, none⟩ = some (.int .i64 a0_2) := (blk_cell BK299.out 2).trans rfl; have hcz18_3 : w17.cell? ⟨gb299, 3, none⟩ = some (.int .i64 a0_3) := (blk_cell BK299.out 3).trans rfl; have hcz18_4 : w17.cell? ⟨gb299, 4, none⟩ = some (.int .i64 a0_4) := (blk_cell BK299.out 4).trans rfl; have hfz18_0 := blk_frozen BK299.out 0; have hfz18_1 := blk_frozen BK299.out 1; have hfz18_2 := blk_frozen BK299.out 2; have hfz18_3 := blk_frozen BK299.out 3; have hfz18_4 := blk_frozen BK299.out 4))
      go_meet
      case rel => exact ⟨_, (true), (by first | rfl | (simp; done) | (simp [*]; done)), H', ⟨by first | omega | exact Nat.le_refl _⟩, ⟨by (with_reducible repeat (first | refine blk_drewN ?_ _ | refine blk_drew ?_ | refine blk_alloc ?_ _)); exact BK299.out⟩, ⟨by repeat (first | (with_reducible first | exact HB.out | apply below_alloc | apply pw_below_drewN | apply below_drew1 | refine below_set ?_ GE299.out) | exact HB.out)⟩⟩
     ·rw [if_neg c15] at H
      have c15b0 : decide (a0_0 ≤ a1) = false := decide_eq_false c15
      clear c15
      by_cases c19 : a3 > 2147483648
      ·rw [if_pos c19] at H
       have c19b0 : decide (2147483648 < a3) = true := decide_eq_true c19
       clear c19
       have H' := Aside0.mk H
       clear H
       have hcz20_0 : w9.cell? ⟨gb299, 0, none⟩ = some (.int .i64 a0_0) := (blk_cell BK299.out 0).trans rfl
       have hcz20_1 : w9.cell? ⟨gb299, 1, none⟩ = some (.int .i64 a0_1) := (blk_cell BK299.out 1).trans rfl
       have hcz20_2 : w9.cell? ⟨gb299, 2, none⟩ = some (.int .i64 a0_2) := (blk_cell BK299.out 2).trans rfl
       have hcz20_3 : w9.cell? ⟨gb299, 3, none⟩ = some (.int .i64 a0_3) := (blk_cell BK299.out 3).trans rfl
       have hcz20_4 : w9.cell? ⟨gb299, 4, none⟩ = some (.int .i64 a0_4) := (blk_cell BK299.out 4).trans rfl
       have hfz20_0 := blk_frozen BK299.out 0
       have hfz20_1 := blk_frozen BK299.out 1
       have hfz20_2 := blk_frozen BK299.out 2
       have hfz20_3 := blk_frozen BK299.out 3
       have hfz20_4 := blk_frozen BK299.out 4
       go_wp2_with (first | ((with_reducible refine gate_callee (f := 25) rfl ?_); refine goesL_ (some 23) rfl rfl Try.func25 (by kernel_rfl) rfl #[.agg #[.int .i64 a0_0, .int .i64 a0_1, .int .i64 a0_2, .int .i64 a0_3, .int .i64 a0_4]] rfl (by (try simp only [List.map_toArray, List.map_cons, List.map_nil]); first | done | rfl | (simp only [List.length_drop, List.length_take]; rfl)) ?_; (with_reducible refine (medl_Check.calls a0_0 a0_1 a0_2 a0_3 a0_4 t301 _ A10.out).mono ?_); rintro e w21 ⟨rfl, hb⟩; refine ⟨_, rfl, ?_⟩; have n0_ := Aside0.mk (blk_below (g := gb299) (o := .cells #[.int .i64 a0_0, .int .i64 a0_1, .int .i64 a0_2, .int .i64 a0_3, .int .i64 a0_4] 32 (0, 0)) (by (with_reducible repeat (first | refine blk_drewN ?_ _ | refine blk_drew ?_ | refine blk_alloc ?_ _)); exact BK299.out) hb); have n1_ := Aside0.mk (below_step (by repeat (first | (with_reducible first | exact HB.out | apply below_alloc | apply pw_below_drewN | apply below_drew1 | refine below_set ?_ GE299.out) | exact HB.out)) hb); clear BK299; clear HB; have BK299 := n0_; have HB := n1_; clear n0_ n1_; (try clear hb); (try clear hb2); (try clear hk); (try clear hi); have hcz22_0 : w21.cell? ⟨gb299, 0, none⟩ = some (.int .i64 a0_0) := (blk_cell BK299.out 0).trans rfl; have hcz22_1 : w21.cell? ⟨gb299, 1, none⟩ = some (.int .i64 a0_1) := (blk_cell BK299.out 1).trans rfl; have hcz22_2 : w21.cell? ⟨gb299, 2, none⟩ = some (.int .i64 a0_2) := (blk_cell BK299.out 2).trans rfl; have hcz22_3 : w21.cell? ⟨gb299, 3, none⟩ = some (.int .i64 a0_3) := (blk_cell BK299.out 3).trans rfl; have hcz22_4 : w21.cell? ⟨gb299, 4, none⟩ = some (.int .i64 a0_4) := (blk_cell BK299.out 4).trans rfl; have hfz22_0 := blk_frozen BK299.out 0; have hfz22_1 := blk_frozen BK299.out 1; have hfz22_2 := blk_frozen BK299.out 2; have hfz22_3 := blk_frozen BK299.out 3; have hfz22_4 := blk_frozen BK299.out 4))
       go_meet
       case rel => exact ⟨_, (true), (by first | rfl | (simp; done) | (simp [*]; done)), H', ⟨by first | omega | exact Nat.le_refl _⟩, ⟨by (with_reducible repeat (first | refine blk_drewN ?_ _ | refine blk_drew ?_ | refine blk_alloc ?_ _)); exact BK299.out⟩, ⟨by repeat (first | (with_reducible first | exact HB.out | apply below_alloc | apply pw_below_drewN | apply below_drew1 | refine below_set ?_ GE299.out) | exact HB.out)⟩⟩
      ·rw [if_neg c19] at H
       have c19b0 : decide (2147483648 < a3) = false := decide_eq_false c19
       clear c19
       have H' := Aside0.mk H
       clear H
       have hcz23_0 : w9.cell? ⟨gb299, 0, none⟩ = some (.int .i64 a0_0) := (blk_cell BK299.out 0).trans rfl
       have hcz23_1 : w9.cell? ⟨gb299, 1, none⟩ = some (.int .i64 a0_1) := (blk_cell BK299.out 1).trans rfl
       have hcz23_2 : w9.cell? ⟨gb299, 2, none⟩ = some (.int .i64 a0_2) := (blk_cell BK299.out 2).trans rfl
       have hcz23_3 : w9.cell? ⟨gb299, 3, none⟩ = some (.int .i64 a0_3) := (blk_cell BK299.out 3).trans rfl
       have hcz23_4 : w9.cell? ⟨gb299, 4, none⟩ = some (.int .i64 a0_4) := (blk_cell BK299.out 4).trans rfl
       have hfz23_0 := blk_frozen BK299.out 0
       have hfz23_1 := blk_frozen BK299.out 1
       have hfz23_2 := blk_frozen BK299.out 2
       have hfz23_3 := blk_frozen BK299.out 3
       have hfz23_4 := blk_frozen BK299.out 4
       go_wp2_with (first | ((with_reducible refine gate_callee (f := 25) rfl ?_); refine goesL_ (some 23) rfl rfl Try.func25 (by kernel_rfl) rfl #[.agg #[.int .i64 a0_0, .int .i64 a0_1, .int .i64 a0_2, .int .i64 a0_3, .int .i64 a0_4]] rfl (by (try simp only [List.map_toArray, List.map_cons, List.map_nil]); first | done | rfl | (simp only [List.length_drop, List.length_take]; rfl)) ?_; (with_reducible refine (medl_Check.calls a0_0 a0_1 a0_2 a0_3 a0_4 t301 _ A10.out).mono ?_); rintro e w24 ⟨rfl, hb⟩; refine ⟨_, rfl, ?_⟩; have n0_ := Aside0.mk (blk_below (g := gb299) (o := .cells #[.int .i64 a0_0, .int .i64 a0_1, .int .i64 a0_2, .int .i64 a0_3, .int .i64 a0_4] 32 (0, 0)) (by (with_reducible repeat (first | refine blk_drewN ?_ _ | refine blk_drew ?_ | refine blk_alloc ?_ _)); exact BK299.out) hb); have n1_ := Aside0.mk (below_step (by repeat (first | (with_reducible first | exact HB.out | apply below_alloc | apply pw_below_drewN | apply below_drew1 | refine below_set ?_ GE299.out) | exact HB.out)) hb); clear BK299; clear HB; have BK299 := n0_; have HB := n1_; clear n0_ n1_; (try clear hb); (try clear hb2); (try clear hk); (try clear hi); have hcz25_0 : w24.cell? ⟨gb299, 0, none⟩ = some (.int .i64 a0_0) := (blk_cell BK299.out 0).trans rfl; have hcz25_1 : w24.cell? ⟨gb299, 1, none⟩ = some (.int .i64 a0_1) := (blk_cell BK299.out 1).trans rfl; have hcz25_2 : w24.cell? ⟨gb299, 2, none⟩ = some (.int .i64 a0_2) := (blk_cell BK299.out 2).trans rfl; have hcz25_3 : w24.cell? ⟨gb299, 3, none⟩ = some (.int .i64 a0_3) := (blk_cell BK299.out 3).trans rfl; have hcz25_4 : w24.cell? ⟨gb299, 4, none⟩ = some (.int .i64 a0_4) := (blk_cell BK299.out 4).trans rfl; have hfz25_0 := blk_frozen BK299.out 0; have hfz25_1 := blk_frozen BK299.out 1; have hfz25_2 := blk_frozen BK299.out 2; have hfz25_3 := blk_frozen BK299.out 3; have hfz25_4 := blk_frozen BK299.out 4))
       go_meet
       case rel => exact ⟨_, (decide (a0_0 > 16)), (by first | rfl | (simp; done) | (simp [*]; done)), H', ⟨by first | omega | exact Nat.le_refl _⟩, ⟨by (with_reducible repeat (first | refine blk_drewN ?_ _ | refine blk_drew ?_ | refine blk_alloc ?_ _)); exact BK299.out⟩, ⟨by repeat (first | (with_reducible first | exact HB.out | apply below_alloc | apply pw_below_drewN | apply below_drew1 | refine below_set ?_ GE299.out) | exact HB.out)⟩⟩
   ·rw [if_neg c11] at H
    have c11b0 : (t301 == 0) = false := beq_eq_false_iff_ne.mpr c11
    have c11b1 : (t301 != 0) = true := bne_iff_ne.mpr c11
    (first | rw [c11b0] | (simp only [i64_w, i32_w]; rw [c11b0]) | skip)
    have H' := Aside0.mk H
    clear H
    have hcz26_0 : w9.cell? ⟨gb299, 0, none⟩ = some (.int .i64 a0_0) := (blk_cell BK299.out 0).trans rfl
    have hcz26_1 : w9.cell? ⟨gb299, 1, none⟩ = some (.int .i64 a0_1) := (blk_cell BK299.out 1).trans rfl
    have hcz26_2 : w9.cell? ⟨gb299, 2, none⟩ = some (.int .i64 a0_2) := (blk_cell BK299.out 2).trans rfl
    have hcz26_3 : w9.cell? ⟨gb299, 3, none⟩ = some (.int .i64 a0_3) := (blk_cell BK299.out 3).trans rfl
    have hcz26_4 : w9.cell? ⟨gb299, 4, none⟩ = some (.int .i64 a0_4) := (blk_cell BK299.out 4).trans rfl
    have hfz26_0 := blk_frozen BK299.out 0
    have hfz26_1 := blk_frozen BK299.out 1
    have hfz26_2 := blk_frozen BK299.out 2
    have hfz26_3 := blk_frozen BK299.out 3
    have hfz26_4 := blk_frozen BK299.out 4
    go_wp2_with (first | ((with_reducible refine gate_callee (f := 25) rfl ?_); refine goesL_ (some 23) rfl rfl Try.func25 (by kernel_rfl) rfl #[.agg #[.int .i64 a0_0, .int .i64 a0_1, .int .i64 a0_2, .int .i64 a0_3, .int .i64 a0_4]] rfl (by (try simp only [List.map_toArray, List.map_cons, List.map_nil]); first | done | rfl | (simp only [List.length_drop, List.length_take]; rfl)) ?_; (with_reducible refine (medl_Check.calls a0_0 a0_1 a0_2 a0_3 a0_4 t301 _ A10.out).mono ?_); rintro e w27 ⟨rfl, hb⟩; refine ⟨_, rfl, ?_⟩; have n0_ := Aside0.mk (blk_below (g := gb299) (o := .cells #[.int .i64 a0_0, .int .i64 a0_1, .int .i64 a0_2, .int .i64 a0_3, .int .i64 a0_4] 32 (0, 0)) (by (with_reducible repeat (first | refine blk_drewN ?_ _ | refine blk_drew ?_ | refine blk_alloc ?_ _)); exact BK299.out) hb); have n1_ := Aside0.mk (below_step (by repeat (first | (with_reducible first | exact HB.out | apply below_alloc | apply pw_below_drewN | apply below_drew1 | refine below_set ?_ GE299.out) | exact HB.out)) hb); clear BK299; clear HB; have BK299 := n0_; have HB := n1_; clear n0_ n1_; (try clear hb); (try clear hb2); (try clear hk); (try clear hi)))
    go_meet
    case rel => exact ⟨_, (true), (by first | rfl | (simp; done) | (simp [*]; done)), H', ⟨by first | omega | exact Nat.le_refl _⟩, ⟨by (with_reducible repeat (first | refine blk_drewN ?_ _ | refine blk_drew ?_ | refine blk_alloc ?_ _)); exact BK299.out⟩, ⟨by repeat (first | (with_reducible first | exact HB.out | apply below_alloc | apply pw_below_drewN | apply below_drew1 | refine below_set ?_ GE299.out) | exact HB.out)⟩⟩
  case rest =>
   clear HC7
   try clear c1
   try clear c2
   try clear p2
   try clear c6
   try clear c9
   try clear c10
   try clear c11
   try clear c11b0
   try clear c11b1
   try clear c12
   try clear c12b0
   try clear c15
   try clear c15b0
   try clear c19
   try clear c19b0
   try clear c25
   try clear hcz13_0
   try clear hcz13_1
   try clear hcz13_2
   try clear hcz13_3
   try clear hcz13_4
   try clear hcz16_0
   try clear hcz16_1
   try clear hcz16_2
   try clear hcz16_3
   try clear hcz16_4
   try clear hcz18_0
   try clear hcz18_1
   try clear hcz18_2
   try clear hcz18_3
   try clear hcz18_4
   try clear hcz20_0
   try clear hcz20_1
   try clear hcz20_2
   try clear hcz20_3
   try clear hcz20_4
   try clear hcz22_0
   try clear hcz22_1
   try clear hcz22_2
   try clear hcz22_3
   try clear hcz22_4
   try clear hcz23_0
   try clear hcz23_1
   try clear hcz23_2
   try clear hcz23_3
   try clear hcz23_4
   try clear hcz25_0
   try clear hcz25_1
   try clear hcz25_2
   try clear hcz25_3
   try clear hcz25_4
   try clear hcz26_0
   try clear hcz26_1
   try clear hcz26_2
   try clear hcz26_3
   try clear hcz26_4
   try clear hfz13_0
   try clear hfz13_1
   try clear hfz13_2
   try clear hfz13_3
   try clear hfz13_4
   try clear hfz16_0
   try clear hfz16_1
   try clear hfz16_2
   try clear hfz16_3
   try clear hfz16_4
   try clear hfz18_0
   try clear hfz18_1
   try clear hfz18_2
   try clear hfz18_3
   try clear hfz18_4
   try clear hfz20_0
   try clear hfz20_1
   try clear hfz20_2
   try clear hfz20_3
   try clear hfz20_4
   try clear hfz22_0
   try clear hfz22_1
   try clear hfz22_2
   try clear hfz22_3
   try clear hfz22_4
   try clear hfz23_0
   try clear hfz23_1
   try clear hfz23_2
   try clear hfz23_3
   try clear hfz23_4
   try clear hfz25_0
   try clear hfz25_1
   try clear hfz25_2
   try clear hfz25_3
   try clear hfz25_4
   try clear hfz26_0
   try clear hfz26_1
   try clear hfz26_2
   try clear hfz26_3
   try clear hfz26_4
   obtain ⟨kq, x43_6, rfl, HA, HJ6, BK299, HB⟩ := hcut
   cases kq with
   | zero => exact absurd HA.out (by simp [palletlaw10_MemberWhole.j0])
   | succ kj6 =>
    have H := HA.out
    clear HA
    simp only [palletlaw10_MemberWhole.j0] at H
    by_cases c28 : x43_6 = true
    ·subst c28
     have H1 : (some true) = some r := by rw [if_pos rfl] at H; exact H
     clear H
     have H := H1
     clear H1
     obtain rfl := Option.some.inj H
     go_wp2
     go_ret
     exact ⟨by first | rfl | (simp [errW_none, errW_some] <;> rfl) | (simp [*, errW_none, errW_some] <;> rfl), by repeat (first | (with_reducible first | exact HB.out | apply below_alloc | apply pw_below_drewN | apply below_drew1 | refine below_set ?_ GE299.out) | exact HB.out)⟩
    ·replace c28 := Bool.eq_false_iff.mpr c28
     subst c28
     have H1 : (palletlaw10_MemberWhole.l0 kj6 a1 a2 a3 true ([] : List Int) ([] : List Int) a0_0 0 a0_0 a0_1 a0_2 a0_3 a0_4) = some r := by rw [if_neg (show ¬ (false = true) by decide)] at H; exact H
     clear H
     have H := H1
     clear H1
     have H' := Aside0.mk H
     clear H
     have hcz29_0 : wc.cell? ⟨gb299, 0, none⟩ = some (.int .i64 a0_0) := (blk_cell BK299.out 0).trans rfl
     have hcz29_1 : wc.cell? ⟨gb299, 1, none⟩ = some (.int .i64 a0_1) := (blk_cell BK299.out 1).trans rfl
     have hcz29_2 : wc.cell? ⟨gb299, 2, none⟩ = some (.int .i64 a0_2) := (blk_cell BK299.out 2).trans rfl
     have hcz29_3 : wc.cell? ⟨gb299, 3, none⟩ = some (.int .i64 a0_3) := (blk_cell BK299.out 3).trans rfl
     have hcz29_4 : wc.cell? ⟨gb299, 4, none⟩ = some (.int .i64 a0_4) := (blk_cell BK299.out 4).trans rfl
     have hfz29_0 := blk_frozen BK299.out 0
     have hfz29_1 := blk_frozen BK299.out 1
     have hfz29_2 := blk_frozen BK299.out 2
     have hfz29_3 := blk_frozen BK299.out 3
     have hfz29_4 := blk_frozen BK299.out 4
     go_wp2
     go_loopg [10, 11, 47] kj6 (fun kq v10 v11 v47 w' => ∃ (x10_2 : List Int) (x11_2 : List Int) (x47_2 : Int), v47 = .int .i64 x47_2 ∧ Aside0 (palletlaw10_MemberWhole.l0 kq a1 a2 a3 true x10_2 x11_2 a0_0 x47_2 a0_0 a0_1 a0_2 a0_3 a0_4 = some r) ∧ Aside0 (kq ≤ kj6) ∧ Aside0 (Kd.R (Kd.int .i64) 3 w' w.heap.size (fun k_ => some k_ ≠ (v11 : Value).ownBlock) v10 x10_2) ∧ Aside0 (Kd.R (Kd.int .i64) 3 w' w.heap.size (fun k_ => some k_ ≠ (v10 : Value).ownBlock) v11 x11_2) ∧ Aside0 (w'.heap[gb299]? = some (.cells #[.int .i64 a0_0, .int .i64 a0_1, .int .i64 a0_2, .int .i64 a0_3, .int .i64 a0_4] 32 (0, 0))) ∧ Aside0 (Below w.heap.size w w'))
     case atStart => exact ⟨(([] : List Int)), (([] : List Int)), (0), (by first | rfl | (simp; done) | (simp [*]; done)), H', ⟨Nat.le_refl _⟩, ⟨by first | exact Kd.R_nil _ _ _ _ _ | exact Kd.N_nil _ _ _ _ _ | exact Kd.V_nil _ _ _ _ _ | exact Kd.Q_nil _ _ _ _ _ | exact Kd.S_nil _ _ _ _ _⟩, ⟨by first | exact Kd.R_nil _ _ _ _ _ | exact Kd.N_nil _ _ _ _ _ | exact Kd.V_nil _ _ _ _ _ | exact Kd.Q_nil _ _ _ _ _ | exact Kd.S_nil _ _ _ _ _⟩, ⟨by (with_reducible repeat (first | refine blk_drewN ?_ _ | refine blk_drew ?_ | refine blk_alloc ?_ _)); exact BK299.out⟩, ⟨by repeat (first | (with_reducible first | exact HB.out | apply below_alloc | apply pw_below_drewN | apply below_drew1 | refine below_set ?_ GE299.out) | exact HB.out)⟩⟩
     case round =>
      clear H'
      try clear c1
      try clear c2
      try clear p2
      try clear c6
      try clear c9
      try clear c10
      try clear c11
      try clear c11b0
      try clear c11b1
      try clear c12
      try clear c12b0
      try clear c15
      try clear c15b0
      try clear c19
      try clear c19b0
      try clear c25
      try clear c28
      try clear hcz13_0
      try clear hcz13_1
      try clear hcz13_2
      try clear hcz13_3
      try clear hcz13_4
      try clear hcz16_0
      try clear hcz16_1
      try clear hcz16_2
      try clear hcz16_3
      try clear hcz16_4
      try clear hcz18_0
      try clear hcz18_1
      try clear hcz18_2
      try clear hcz18_3
      try clear hcz18_4
      try clear hcz20_0
      try clear hcz20_1
      try clear hcz20_2
      try clear hcz20_3
      try clear hcz20_4
      try clear hcz22_0
      try clear hcz22_1
      try clear hcz22_2
      try clear hcz22_3
      try clear hcz22_4
      try clear hcz23_0
      try clear hcz23_1
      try clear hcz23_2
      try clear hcz23_3
      try clear hcz23_4
      try clear hcz25_0
      try clear hcz25_1
      try clear hcz25_2
      try clear hcz25_3
      try clear hcz25_4
      try clear hcz26_0
      try clear hcz26_1
      try clear hcz26_2
      try clear hcz26_3
      try clear hcz26_4
      try clear hcz29_0
      try clear hcz29_1
      try clear hcz29_2
      try clear hcz29_3
      try clear hcz29_4
      try clear hfz13_0
      try clear hfz13_1
      try clear hfz13_2
      try clear hfz13_3
      try clear hfz13_4
      try clear hfz16_0
      try clear hfz16_1
      try clear hfz16_2
      try clear hfz16_3
      try clear hfz16_4
      try clear hfz18_0
      try clear hfz18_1
      try clear hfz18_2
      try clear hfz18_3
      try clear hfz18_4
      try clear hfz20_0
      try clear hfz20_1
      try clear hfz20_2
      try clear hfz20_3
      try clear hfz20_4
      try clear hfz22_0
      try clear hfz22_1
      try clear hfz22_2
      try clear hfz22_3
      try clear hfz22_4
      try clear hfz23_0
      try clear hfz23_1
      try clear hfz23_2
      try clear hfz23_3
      try clear hfz23_4
      try clear hfz25_0
      try clear hfz25_1
      try clear hfz25_2
      try clear hfz25_3
      try clear hfz25_4
      try clear hfz26_0
      try clear hfz26_1
      try clear hfz26_2
      try clear hfz26_3
      try clear hfz26_4
      try clear hfz29_0
      try clear hfz29_1
      try clear hfz29_2
      try clear hfz29_3
      try clear hfz29_4
      try clear p2
      obtain ⟨x10_2, x11_2, x47_2, rfl, HA, HK2, HO_10, HO_11, BK299, HB⟩ := hrel
      cases gk with
      | zero => exact absurd HA.out (by simp [palletlaw10_MemberWhole.l0])
      | succ k2 =>
       have H := HA.out
       clear HA
       simp only [palletlaw10_MemberWhole.l0] at H
       by_cases c30 : x47_2 < a0_0
       ·rw [if_pos c30] at H
        have c30b0 : decide (x47_2 < a0_0) = true := decide_eq_true c30
        clear c30
        by_cases c31 : x10_2.length < 17592186044416
        ·rw [if_pos c31] at H
         have LMc31 := Aside0.mk c31
         clear c31
         obtain ⟨y302, hy302⟩ : ∃ y_ : List Int, y_ = (x10_2 ++ [1]) := ⟨_, rfl⟩
         replace H : (if x11_2.length < 17592186044416 then (palletlaw10_MemberWhole.l0 k2 a1 a2 a3 true y302 (x11_2 ++ [0]) a0_0 (wrap64 (x47_2 + 1)) a0_0 a0_1 a0_2 a0_3 a0_4) else (none)) = some r := by first | (rw [hy302]; with_reducible exact H) | (have H2_ := (Option.bind_some _ _).symm.trans H; rw [hy302]; with_reducible exact H2_) | (have H2_ := (Option.bind_some _ _).symm.trans H; with_reducible exact H2_) | with_reducible exact H | (rw [hy302]; exact H) | exact H
         have Ny302 := Aside0.mk hy302
         clear hy302
         by_cases c32 : x11_2.length < 17592186044416
         ·rw [if_pos c32] at H
          have LMc32 := Aside0.mk c32
          clear c32
          obtain ⟨y305, hy305⟩ : ∃ y_ : List Int, y_ = (x11_2 ++ [0]) := ⟨_, rfl⟩
          replace H : (palletlaw10_MemberWhole.l0 k2 a1 a2 a3 true y302 y305 a0_0 (wrap64 (x47_2 + 1)) a0_0 a0_1 a0_2 a0_3 a0_4) = some r := by first | (rw [hy305]; with_reducible exact H) | (have H2_ := (Option.bind_some _ _).symm.trans H; rw [hy305]; with_reducible exact H2_) | (have H2_ := (Option.bind_some _ _).symm.trans H; with_reducible exact H2_) | with_reducible exact H | (rw [hy305]; exact H) | exact H
          have Ny305 := Aside0.mk hy305
          clear hy305
          have H' := Aside0.mk H
          clear H
          go_wp2_with (first | ((with_reducible refine gate_builtin (b := .append) (xs := #[.tmp 49, .tmp 50]) rfl ?_); at_builtin; refine Kd.R_append (Kd.int .i64) (w0 := w) w.heap.size rfl (.tmp 49) (.tmp 50) 47 3 (.int .i64 0) 8 rfl Try.underlying47 info3 rfl (by decide) (by omega) u10 x10_2 1 [.int .i64 1] (fun k_ => some k_ ≠ (u11 : Value).ownBlock) (fun _ => False) rfl rfl ?aP (fun _ hk => hk.elim) ?aF ?aO ?aB ?aS ?aL ?_; (case aP => exact rfl); (case aB => exact (by repeat (first | (with_reducible first | exact HB.out | apply below_alloc | apply pw_below_drewN | apply below_drew1 | refine below_set ?_ GE299.out) | exact HB.out))); (case aF => exact (fun k_ hk => Kd.fresh' (Kd.R_lt (by (with_reducible repeat (first | apply Kd.R_alloc | apply Kd.R_drewN | apply Kd.R_drew)); exact HO_11.out)) k_ hk)); (case aO => exact (by (with_reducible repeat (first | apply Kd.R_alloc | apply Kd.R_drewN | apply Kd.R_drew)); exact HO_10.out)); (case aS => exact (below_size (by repeat (first | (with_reducible first | exact HB.out | apply below_alloc | apply pw_below_drewN | apply below_drew1 | refine below_set ?_ GE299.out) | exact HB.out)))); (case aL => have := LMc31.out; omega); intro v303 w33 ho hb hg hat; rw [← Ny302.out] at ho; have n0_ := Aside0.mk (Kd.R_after (ok := (fun _ => True)) (by (with_reducible repeat (first | apply Kd.R_alloc | apply Kd.R_drewN | apply Kd.R_drew)); exact Kd.R_mono HO_11.out (fun _ hk => ⟨trivial, hk⟩)) hg hat); have n1_ := Aside0.mk (blk_grown (g := gb299) (o := .cells #[.int .i64 a0_0, .int .i64 a0_1, .int .i64 a0_2, .int .i64 a0_3, .int .i64 a0_4] 32 (0, 0)) (by (with_reducible repeat (first | refine blk_drewN ?_ _ | refine blk_drew ?_ | refine blk_alloc ?_ _)); exact BK299.out) hg (Kd.R_ne HO_10.out BK299.out (by decide))); have n2_ := Aside0.mk (hb); have n3_ := Aside0.mk (ho); clear HO_11; clear BK299; clear HB; clear HO_10; have HO_11 := n0_; have BK299 := n1_; have HB := n2_; have HO304 := n3_; clear n0_ n1_ n2_ n3_; clear ho hb hg hat) | ((with_reducible refine gate_builtin (b := .append) (xs := #[.tmp 52, .tmp 53]) rfl ?_); at_builtin; refine Kd.R_append (Kd.int .i64) (w0 := w) w.heap.size rfl (.tmp 52) (.tmp 53) 47 3 (.int .i64 0) 8 rfl Try.underlying47 info3 rfl (by decide) (by omega) u11 x11_2 0 [.int .i64 0] (fun k_ => some k_ ≠ (v303 : Value).ownBlock) (fun _ => False) rfl rfl ?aP (fun _ hk => hk.elim) ?aF ?aO ?aB ?aS ?aL ?_; (case aP => exact rfl); (case aB => exact (by repeat (first | (with_reducible first | exact HB.out | apply below_alloc | apply pw_below_drewN | apply below_drew1 | refine below_set ?_ GE299.out) | exact HB.out))); (case aF => exact (fun k_ hk => Kd.fresh' (Kd.R_lt (by (with_reducible repeat (first | apply Kd.R_alloc | apply Kd.R_drewN | apply Kd.R_drew)); exact HO304.out)) k_ hk)); (case aO => exact (by (with_reducible repeat (first | apply Kd.R_alloc | apply Kd.R_drewN | apply Kd.R_drew)); exact Kd.R_mono HO_11.out (fun _ hk => hk.2))); (case aS => exact (below_size (by repeat (first | (with_reducible first | exact HB.out | apply below_alloc | apply pw_below_drewN | apply below_drew1 | refine below_set ?_ GE299.out) | exact HB.out)))); (case aL => have := LMc32.out; omega); intro v306 w34 ho hb hg hat; rw [← Ny305.out] at ho; have n0_ := Aside0.mk (blk_grown (g := gb299) (o := .cells #[.int .i64 a0_0, .int .i64 a0_1, .int .i64 a0_2, .int .i64 a0_3, .int .i64 a0_4] 32 (0, 0)) (by (with_reducible repeat (first | refine blk_drewN ?_ _ | refine blk_drew ?_ | refine blk_alloc ?_ _)); exact BK299.out) hg (Kd.R_ne HO_11.out BK299.out (by decide))); have n1_ := Aside0.mk (Kd.R_after (ok := (fun _ => True)) (by (with_reducible repeat (first | apply Kd.R_alloc | apply Kd.R_drewN | apply Kd.R_drew)); exact Kd.R_mono HO304.out (fun _ hk => ⟨trivial, hk⟩)) hg hat); have n2_ := Aside0.mk (hb); have n3_ := Aside0.mk (ho); clear BK299; clear HO304; clear HB; clear HO_11; have BK299 := n0_; have HO304 := n1_; have HB := n2_; have HO307 := n3_; clear n0_ n1_ n2_ n3_; clear ho hb hg hat))
          go_roundg k2
          case measure => have := HJ6.out; have := HK2.out; omega
          case rel => exact ⟨(y302), (y305), (wrap64 (x47_2 + 1)), (by first | rfl | (simp; done) | (simp [*]; done)), H', ⟨by have := HJ6.out; have := HK2.out; omega⟩, ⟨by (with_reducible repeat (first | apply Kd.R_alloc | apply Kd.R_drewN | apply Kd.R_drew)); exact Kd.R_mono HO304.out (fun _ hk => hk.2)⟩, ⟨by (with_reducible repeat (first | apply Kd.R_alloc | apply Kd.R_drewN | apply Kd.R_drew)); exact HO307.out⟩, ⟨by (with_reducible repeat (first | refine blk_drewN ?_ _ | refine blk_drew ?_ | refine blk_alloc ?_ _)); exact BK299.out⟩, ⟨by repeat (first | (with_reducible first | exact HB.out | apply below_alloc | apply pw_below_drewN | apply below_drew1 | refine below_set ?_ GE299.out) | exact HB.out)⟩⟩
         ·rw [if_neg c32] at H
          exact absurd H (by simp)
        ·rw [if_neg c31] at H
         exact absurd H (by simp)
       ·rw [if_neg c30] at H
        have c30b0 : decide (x47_2 < a0_0) = false := decide_eq_false c30
        clear c30
        replace H := Option.bind_eq_some_iff.mp H
        obtain ⟨⟨t308, t309, t310, t311⟩, A350, H⟩ := H
        replace H : ((member_Round.f k2 a0_0 a0_1 a0_2 a0_3 a0_4 a1 a2 a3 x11_2).bind fun bt313 => (if t311 = 0 then (if bt313.2.2.2 = 0 then (if t309 = a0_0 then (if t310 = 0 then (if (!(bt313.2.1 == 0) || (!(bt313.2.2.1 == 0))) = true then (palletlaw10_MemberWhole.j2 k2 a1 true t308 bt313.1 true a0_0 a0_1 a0_2 a0_3 a0_4) else ((member_Clique.f t309 t310).bind fun t318 => (if t318 = true then (palletlaw10_MemberWhole.j2 k2 a1 true t308 bt313.1 true a0_0 a0_1 a0_2 a0_3 a0_4) else ((member_Clique.f bt313.2.1 bt313.2.2.1).bind fun t319 => (palletlaw10_MemberWhole.j2 k2 a1 true t308 bt313.1 t319 a0_0 a0_1 a0_2 a0_3 a0_4))))) else (palletlaw10_MemberWhole.j2 k2 a1 true t308 bt313.1 true a0_0 a0_1 a0_2 a0_3 a0_4)) else (palletlaw10_MemberWhole.j2 k2 a1 true t308 bt313.1 true a0_0 a0_1 a0_2 a0_3 a0_4)) else (palletlaw10_MemberWhole.j2 k2 a1 true t308 bt313.1 true a0_0 a0_1 a0_2 a0_3 a0_4)) else (palletlaw10_MemberWhole.j2 k2 a1 true t308 bt313.1 true a0_0 a0_1 a0_2 a0_3 a0_4))) = some r := H
        have A35 := Aside0.mk A350
        clear A350
        replace H := Option.bind_eq_some_iff.mp H
        obtain ⟨⟨t313, t314, t315, t316⟩, A360, H⟩ := H
        replace H : (if t311 = 0 then (if t316 = 0 then (if t309 = a0_0 then (if t310 = 0 then (if (!(t314 == 0) || (!(t315 == 0))) = true then (palletlaw10_MemberWhole.j2 k2 a1 true t308 t313 true a0_0 a0_1 a0_2 a0_3 a0_4) else ((member_Clique.f t309 t310).bind fun t318 => (if t318 = true then (palletlaw10_MemberWhole.j2 k2 a1 true t308 t313 true a0_0 a0_1 a0_2 a0_3 a0_4) else ((member_Clique.f t314 t315).bind fun t319 => (palletlaw10_MemberWhole.j2 k2 a1 true t308 t313 t319 a0_0 a0_1 a0_2 a0_3 a0_4))))) else (palletlaw10_MemberWhole.j2 k2 a1 true t308 t313 true a0_0 a0_1 a0_2 a0_3 a0_4)) else (palletlaw10_MemberWhole.j2 k2 a1 true t308 t313 true a0_0 a0_1 a0_2 a0_3 a0_4)) else (palletlaw10_MemberWhole.j2 k2 a1 true t308 t313 true a0_0 a0_1 a0_2 a0_3 a0_4)) else (palletlaw10_MemberWhole.j2 k2 a1 true t308 t313 true a0_0 a0_1 a0_2 a0_3 a0_4)) = some r := H
        have A36 := Aside0.mk A360
        clear A360
        have HC37 := Aside0.mk H
        clear H
        have hcz38_0 : wr.cell? ⟨gb299, 0, none⟩ = some (.int .i64 a0_0) := (blk_cell BK299.out 0).trans rfl
        have hcz38_1 : wr.cell? ⟨gb299, 1, none⟩ = some (.int .i64 a0_1) := (blk_cell BK299.out 1).trans rfl
        have hcz38_2 : wr.cell? ⟨gb299, 2, none⟩ = some (.int .i64 a0_2) := (blk_cell BK299.out 2).trans rfl
        have hcz38_3 : wr.cell? ⟨gb299, 3, none⟩ = some (.int .i64 a0_3) := (blk_cell BK299.out 3).trans rfl
        have hcz38_4 : wr.cell? ⟨gb299, 4, none⟩ = some (.int .i64 a0_4) := (blk_cell BK299.out 4).trans rfl
        have hfz38_0 := blk_frozen BK299.out 0
        have hfz38_1 := blk_frozen BK299.out 1
        have hfz38_2 := blk_frozen BK299.out 2
        have hfz38_3 := blk_frozen BK299.out 3
        have hfz38_4 := blk_frozen BK299.out 4
        obtain ⟨Ao39, co39, eo39⟩ := Kd.R_slice HO_10.out
        subst eo39
        go_upto_region 14 with (first | ((with_reducible refine gate_callee (f := 23) rfl ?_); refine goesL_ (some 62) rfl rfl Try.func23 (by kernel_rfl) rfl #[.agg #[.int .i64 a0_0, .int .i64 a0_1, .int .i64 a0_2, .int .i64 a0_3, .int .i64 a0_4], .int .i64 a1, .int .u16 a2, .int .u64 a3, .slice Ao39 x10_2.length co39] rfl (by (try simp only [List.map_toArray, List.map_cons, List.map_nil]); first | done | rfl | (simp only [List.length_drop, List.length_take]; rfl)) ?_; (with_reducible refine (member_Round.calls k2 a0_0 a0_1 a0_2 a0_3 a0_4 a1 a2 a3 _ _ x10_2 t308 t309 t310 t311 _ ?side1 ?side2 A35.out).mono ?_); (case side1 => repeat (first | exact (Kd.R_reads' HO_10.out).2.2 | (with_reducible refine Kd.C_alloc ?_ _) | (with_reducible refine Kd.C_drewN ?_ _) | (with_reducible refine Kd.C_drew ?_))); (case side2 => exact (Kd.R_reads' HO_10.out).2.1); rintro e w40 ⟨rfl, hb⟩; refine ⟨_, rfl, ?_⟩; have n0_ := Aside0.mk (Kd.R_below (by (with_reducible repeat (first | apply Kd.R_alloc | apply Kd.R_drewN | apply Kd.R_drew)); exact HO_10.out) hb); have n1_ := Aside0.mk (Kd.R_below (by (with_reducible repeat (first | apply Kd.R_alloc | apply Kd.R_drewN | apply Kd.R_drew)); exact HO_11.out) hb); have n2_ := Aside0.mk (blk_below (g := gb299) (o := .cells #[.int .i64 a0_0, .int .i64 a0_1, .int .i64 a0_2, .int .i64 a0_3, .int .i64 a0_4] 32 (0, 0)) (by (with_reducible repeat (first | refine blk_drewN ?_ _ | refine blk_drew ?_ | refine blk_alloc ?_ _)); exact BK299.out) hb); have n3_ := Aside0.mk (below_step (by repeat (first | (with_reducible first | exact HB.out | apply below_alloc | apply pw_below_drewN | apply below_drew1 | refine below_set ?_ GE299.out) | exact HB.out)) hb); clear HO_10; clear HO_11; clear BK299; clear HB; have HO_10 := n0_; have HO_11 := n1_; have BK299 := n2_; have HB := n3_; clear n0_ n1_ n2_ n3_; (try clear hb); (try clear hb2); (try clear hk); (try clear hi)) | ((with_reducible refine gate_dst (N := 13) rfl ?_); refine box_event ?hg (N := 13) ?hd (cs := #[.int .i64 0, .int .i64 0]) (t := 25) ?hr ?_; (case hd => rfl); (case hg => rfl); (case hr => first | (go_simp; done) | (go_simp; rfl)); intro gb312 hg w41 hbox hb; have n0_ := Aside0.mk (Kd.R_below (by (with_reducible repeat (first | apply Kd.R_alloc | apply Kd.R_drewN | apply Kd.R_drew)); exact HO_10.out) hb); have n1_ := Aside0.mk (Kd.R_below (by (with_reducible repeat (first | apply Kd.R_alloc | apply Kd.R_drewN | apply Kd.R_drew)); exact HO_11.out) hb); have n2_ := Aside0.mk (blk_below (g := gb299) (o := .cells #[.int .i64 a0_0, .int .i64 a0_1, .int .i64 a0_2, .int .i64 a0_3, .int .i64 a0_4] 32 (0, 0)) (by (with_reducible repeat (first | refine blk_drewN ?_ _ | refine blk_drew ?_ | refine blk_alloc ?_ _)); exact BK299.out) hb); have n3_ := Aside0.mk (below_step (by repeat (first | (with_reducible first | exact HB.out | apply below_alloc | apply pw_below_drewN | apply below_drew1 | refine below_set ?_ GE299.out) | exact HB.out)) hb); have n4_ := Aside0.mk (hbox); have n5_ := Aside0.mk ((by rw [hg]; exact (below_size (by repeat (first | (with_reducible first | exact HB.out | apply below_alloc | apply pw_below_drewN | apply below_drew1 | refine below_set ?_ GE299.out) | exact HB.out))) : w.heap.size ≤ gb312)); have n6_ := Aside0.mk ((by rw [hg]; exact (below_size (by repeat (first | (with_reducible first | exact HB.out | apply below_alloc | apply pw_below_drewN | apply below_drew1 | refine below_set ?_ GE299.out) | exact HB.out))) : w.heap.size ≤ gb312)); have n7_ := Aside0.mk ((by rw [hg]; exact Nat.ne_of_lt (blk_lt (g := gb299) (o := .cells #[.int .i64 a0_0, .int .i64 a0_1, .int .i64 a0_2, .int .i64 a0_3, .int .i64 a0_4] 32 (0, 0)) (by (with_reducible repeat (first | refine blk_drewN ?_ _ | refine blk_drew ?_ | refine blk_alloc ?_ _)); exact BK299.out)) : gb299 ≠ gb312)); have n8_ := Aside0.mk ((by rw [hg]; exact Nat.ne_of_gt (blk_lt (g := gb299) (o := .cells #[.int .i64 a0_0, .int .i64 a0_1, .int .i64 a0_2, .int .i64 a0_3, .int .i64 a0_4] 32 (0, 0)) (by (with_reducible repeat (first | refine blk_drewN ?_ _ | refine blk_drew ?_ | refine blk_alloc ?_ _)); exact BK299.out)) : gb312 ≠ gb299)); clear HO_10; clear HO_11; clear BK299; clear HB; have HO_10 := n0_; have HO_11 := n1_; have BK299 := n2_; have HB := n3_; have BK312 := n4_; have GW312 := n5_; have GE312 := n6_; have NB299_312 := n7_; have NB312_299 := n8_; clear n0_ n1_ n2_ n3_ n4_ n5_ n6_ n7_ n8_; clear hb hbox hg; have hnb42 := NB312_299.out; have hnc42 := NB299_312.out; have hcz43_0 : w41.cell? ⟨gb312, 0, none⟩ = some (.int .i64 0) := (blk_cell BK312.out 0).trans rfl; have hcz43_1 : w41.cell? ⟨gb312, 1, none⟩ = some (.int .i64 0) := (blk_cell BK312.out 1).trans rfl; have hfz43_0 := blk_frozen BK312.out 0; have hfz43_1 := blk_frozen BK312.out 1; have hcz44_0 : w41.cell? ⟨gb299, 0, none⟩ = some (.int .i64 a0_0) := (blk_cell BK299.out 0).trans rfl; have hcz44_1 : w41.cell? ⟨gb299, 1, none⟩ = some (.int .i64 a0_1) := (blk_cell BK299.out 1).trans rfl; have hcz44_2 : w41.cell? ⟨gb299, 2, none⟩ = some (.int .i64 a0_2) := (blk_cell BK299.out 2).trans rfl; have hcz44_3 : w41.cell? ⟨gb299, 3, none⟩ = some (.int .i64 a0_3) := (blk_cell BK299.out 3).trans rfl; have hcz44_4 : w41.cell? ⟨gb299, 4, none⟩ = some (.int .i64 a0_4) := (blk_cell BK299.out 4).trans rfl; have hfz44_0 := blk_frozen BK299.out 0; have hfz44_1 := blk_frozen BK299.out 1; have hfz44_2 := blk_frozen BK299.out 2; have hfz44_3 := blk_frozen BK299.out 3; have hfz44_4 := blk_frozen BK299.out 4; obtain ⟨Ao45, co45, eo45⟩ := Kd.R_slice HO_11.out; subst eo45) | ((with_reducible refine gate_callee (f := 23) rfl ?_); refine goesL_ (some 72) rfl rfl Try.func23 (by kernel_rfl) rfl #[.agg #[.int .i64 a0_0, .int .i64 a0_1, .int .i64 a0_2, .int .i64 a0_3, .int .i64 a0_4], .int .i64 a1, .int .u16 a2, .int .u64 a3, .slice Ao45 x11_2.length co45] rfl (by (try simp only [List.map_toArray, List.map_cons, List.map_nil]); first | done | rfl | (simp only [List.length_drop, List.length_take]; rfl)) ?_; (with_reducible refine (member_Round.calls k2 a0_0 a0_1 a0_2 a0_3 a0_4 a1 a2 a3 _ _ x11_2 t313 t314 t315 t316 _ ?side1 ?side2 A36.out).mono ?_); (case side1 => refine (Kd.R_reads' (e := 3) (base := w.heap.size) (ok := fun k_ => some k_ ≠ (.slice Ao39 x10_2.length co39 : Value).ownBlock) (n := x11_2.length) (c := co45) ?_).2.2; exact (by (with_reducible repeat (first | apply Kd.R_alloc | apply Kd.R_drewN | apply Kd.R_drew)); exact (Kd.R_mono (Kd.R_far (p := ⟨gb312, 1, none⟩) (Kd.R_far (p := ⟨gb312, 0, none⟩) (Kd.R_types HO_11.out BK312.out (by decide)) (fun _ hk => hk.2) (.int .i64 t309)) (fun _ hk => hk.2) (.int .i64 t310)) (fun _ h_ => h_.1)))); (case side2 => exact (Kd.R_reads' HO_11.out).2.1); rintro e w46 ⟨rfl, hb⟩; refine ⟨_, rfl, ?_⟩; have n0_ := Aside0.mk (Kd.R_below (by (with_reducible repeat (first | apply Kd.R_alloc | apply Kd.R_drewN | apply Kd.R_drew)); exact (Kd.R_mono (Kd.R_far (p := ⟨gb312, 1, none⟩) (Kd.R_far (p := ⟨gb312, 0, none⟩) (Kd.R_types HO_10.out BK312.out (by decide)) (fun _ hk => hk.2) (.int .i64 t309)) (fun _ hk => hk.2) (.int .i64 t310)) (fun _ h_ => h_.1))) hb); have n1_ := Aside0.mk (Kd.R_below (by (with_reducible repeat (first | apply Kd.R_alloc | apply Kd.R_drewN | apply Kd.R_drew)); exact (Kd.R_mono (Kd.R_far (p := ⟨gb312, 1, none⟩) (Kd.R_far (p := ⟨gb312, 0, none⟩) (Kd.R_types HO_11.out BK312.out (by decide)) (fun _ hk => hk.2) (.int .i64 t309)) (fun _ hk => hk.2) (.int .i64 t310)) (fun _ h_ => h_.1))) hb); have n2_ := Aside0.mk (blk_below (g := gb299) (o := .cells #[.int .i64 a0_0, .int .i64 a0_1, .int .i64 a0_2, .int .i64 a0_3, .int .i64 a0_4] 32 (0, 0)) (by (with_reducible repeat (first | refine blk_drewN ?_ _ | refine blk_drew ?_ | refine blk_alloc ?_ _)); refine blk_far ?_ NB299_312.out _; (with_reducible repeat (first | refine blk_drewN ?_ _ | refine blk_drew ?_ | refine blk_alloc ?_ _)); refine blk_far ?_ NB299_312.out _; (with_reducible repeat (first | refine blk_drewN ?_ _ | refine blk_drew ?_ | refine blk_alloc ?_ _)); exact BK299.out) hb); have n3_ := Aside0.mk (blk_below (g := gb312) (o := .cells #[.int .i64 t309, .int .i64 t310] 25 (0, 0)) (by (with_reducible repeat (first | refine blk_drewN ?_ _ | refine blk_drew ?_ | refine blk_alloc ?_ _)); refine blk_put (cs := #[.int .i64 t309, .int .i64 0]) ?_ 1 _ rfl; (with_reducible repeat (first | refine blk_drewN ?_ _ | refine blk_drew ?_ | refine blk_alloc ?_ _)); refine blk_put (cs := #[.int .i64 0, .int .i64 0]) ?_ 0 _ rfl; (with_reducible repeat (first | refine blk_drewN ?_ _ | refine blk_drew ?_ | refine blk_alloc ?_ _)); exact BK312.out) hb); have n4_ := Aside0.mk (below_step (by repeat (first | (with_reducible first | exact HB.out | apply below_alloc | apply pw_below_drewN | apply below_drew1 | refine below_set ?_ GE299.out | refine below_set ?_ GE312.out) | exact HB.out)) hb); clear HO_10; clear HO_11; clear BK299; clear BK312; clear HB; have HO_10 := n0_; have HO_11 := n1_; have BK299 := n2_; have BK312 := n3_; have HB := n4_; clear n0_ n1_ n2_ n3_ n4_; (try clear hb); (try clear hb2); (try clear hk); (try clear hi)) | ((with_reducible refine gate_dst (N := 16) rfl ?_); refine box_event ?hg (N := 16) ?hd (cs := #[.int .i64 0, .int .i64 0]) (t := 25) ?hr ?_; (case hd => rfl); (case hg => rfl); (case hr => first | (go_simp; done) | (go_simp; rfl)); intro gb317 hg w47 hbox hb; have n0_ := Aside0.mk (Kd.R_below (by (with_reducible repeat (first | apply Kd.R_alloc | apply Kd.R_drewN | apply Kd.R_drew)); exact HO_10.out) hb); have n1_ := Aside0.mk (Kd.R_below (by (with_reducible repeat (first | apply Kd.R_alloc | apply Kd.R_drewN | apply Kd.R_drew)); exact HO_11.out) hb); have n2_ := Aside0.mk (blk_below (g := gb299) (o := .cells #[.int .i64 a0_0, .int .i64 a0_1, .int .i64 a0_2, .int .i64 a0_3, .int .i64 a0_4] 32 (0, 0)) (by (with_reducible repeat (first | refine blk_drewN ?_ _ | refine blk_drew ?_ | refine blk_alloc ?_ _)); exact BK299.out) hb); have n3_ := Aside0.mk (blk_below (g := gb312) (o := .cells #[.int .i64 t309, .int .i64 t310] 25 (0, 0)) (by (with_reducible repeat (first | refine blk_drewN ?_ _ | refine blk_drew ?_ | refine blk_alloc ?_ _)); exact BK312.out) hb); have n4_ := Aside0.mk (below_step (by repeat (first | (with_reducible first | exact HB.out | apply below_alloc | apply pw_below_drewN | apply below_drew1 | refine below_set ?_ GE299.out | refine below_set ?_ GE312.out) | exact HB.out)) hb); have n5_ := Aside0.mk (hbox); have n6_ := Aside0.mk ((by rw [hg]; exact (below_size (by repeat (first | (with_reducible first | exact HB.out | apply below_alloc | apply pw_below_drewN | apply below_drew1 | refine below_set ?_ GE299.out | refine below_set ?_ GE312.out) | exact HB.out))) : w.heap.size ≤ gb317)); have n7_ := Aside0.mk ((by rw [hg]; exact (below_size (by repeat (first | (with_reducible first | exact HB.out | apply below_alloc | apply pw_below_drewN | apply below_drew1 | refine below_set ?_ GE299.out | refine below_set ?_ GE312.out) | exact HB.out))) : w.heap.size ≤ gb317)); have n8_ := Aside0.mk ((by rw [hg]; exact Nat.ne_of_lt (blk_lt (g := gb299) (o := .cells #[.int .i64 a0_0, .int .i64 a0_1, .int .i64 a0_2, .int .i64 a0_3, .int .i64 a0_4] 32 (0, 0)) (by (with_reducible repeat (first | refine blk_drewN ?_ _ | refine blk_drew ?_ | refine blk_alloc ?_ _)); exact BK299.out)) : gb299 ≠ gb317)); have n9_ := Aside0.mk ((by rw [hg]; exact Nat.ne_of_gt (blk_lt (g := gb299) (o := .cells #[.int .i64 a0_0, .int .i64 a0_1, .int .i64 a0_2, .int .i64 a0_3, .int .i64 a0_4] 32 (0, 0)) (by (with_reducible repeat (first | refine blk_drewN ?_ _ | refine blk_drew ?_ | refine blk_alloc ?_ _)); exact BK299.out)) : gb317 ≠ gb299)); have n10_ := Aside0.mk ((by rw [hg]; exact Nat.ne_of_lt (blk_lt (g := gb312) (o := .cells #[.int .i64 t309, .int .i64 t310] 25 (0, 0)) (by (with_reducible repeat (first | refine blk_drewN ?_ _ | refine blk_drew ?_ | refine blk_alloc ?_ _)); exact BK312.out)) : gb312 ≠ gb317)); have n11_ := Aside0.mk ((by rw [hg]; exact Nat.ne_of_gt (blk_lt (g := gb312) (o := .cells #[.int .i64 t309, .int .i64 t310] 25 (0, 0)) (by (with_reducible repeat (first | refine blk_drewN ?_ _ | refine blk_drew ?_ | refine blk_alloc ?_ _)); exact BK312.out)) : gb317 ≠ gb312)); clear HO_10; clear HO_11; clear BK299; clear BK312; clear HB; have HO_10 := n0_; have HO_11 := n1_; have BK299 := n2_; have BK312 := n3_; have HB := n4_; have BK317 := n5_; have GW317 := n6_; have GE317 := n7_; have NB299_317 := n8_; have NB317_299 := n9_; have NB312_317 := n10_; have NB317_312 := n11_; clear n0_ n1_ n2_ n3_ n4_ n5_ n6_ n7_ n8_ n9_ n10_ n11_; clear hb hbox hg; have hnb48 := NB317_299.out; have hnc48 := NB299_317.out; have hnb49 := NB317_312.out; have hnc49 := NB312_317.out; have hcz50_0 : w47.cell? ⟨gb317, 0, none⟩ = some (.int .i64 0) := (blk_cell BK317.out 0).trans rfl; have hcz50_1 : w47.cell? ⟨gb317, 1, none⟩ = some (.int .i64 0) := (blk_cell BK317.out 1).trans rfl; have hfz50_0 := blk_frozen BK317.out 0; have hfz50_1 := blk_frozen BK317.out 1))
        (try simp only [Act.put, List.setIfInBounds_toArray, List.set_cons_zero, List.set_cons_succ])
        go_cut [106] (fun v106 wc => ∃ (kq : Nat) (x106_36 : Bool), v106 = .bool x106_36 ∧ Aside0 (palletlaw10_MemberWhole.j2 kq a1 true t308 t313 x106_36 a0_0 a0_1 a0_2 a0_3 a0_4 = some r) ∧ Aside0 (kq ≤ k2) ∧ Aside0 (wc.heap[gb299]? = some (.cells #[.int .i64 a0_0, .int .i64 a0_1, .int .i64 a0_2, .int .i64 a0_3, .int .i64 a0_4] 32 (0, 0))) ∧ Aside0 (wc.heap[gb312]? = some (.cells #[.int .i64 t309, .int .i64 t310] 25 (0, 0))) ∧ Aside0 (wc.heap[gb317]? = some (.cells #[.int .i64 t314, .int .i64 t315] 25 (0, 0))) ∧ Aside0 (Below w.heap.size w wc))
        case first =>
         have H := HC37.out
         clear HC37
         by_cases c51 : t311 = 0
         ·rw [if_pos c51] at H
          have c51b0 : (t311 == 0) = true := beq_iff_eq.mpr c51
          have c51b1 : (t311 != 0) = false := bne_eq_false_iff_eq.mpr c51
          clear c51
          (first | rw [c51b0] | (simp only [i64_w, i32_w]; rw [c51b0]) | skip)
          by_cases c52 : t316 = 0
          ·rw [if_pos c52] at H
           have c52b0 : (t316 == 0) = true := beq_iff_eq.mpr c52
           have c52b1 : (t316 != 0) = false := bne_eq_false_iff_eq.mpr c52
           clear c52
           by_cases c53 : t309 = a0_0
           ·rw [if_pos c53] at H
            have c53b0 : (t309 == a0_0) = true := beq_iff_eq.mpr c53
            have c53b1 : (t309 != a0_0) = false := bne_eq_false_iff_eq.mpr c53
            clear c53
            by_cases c54 : t310 = 0
            ·rw [if_pos c54] at H
             have c54b0 : (t310 == 0) = true := beq_iff_eq.mpr c54
             have c54b1 : (t310 != 0) = false := bne_eq_false_iff_eq.mpr c54
             clear c54
             by_cases c55 : (!(t314 == 0) || (!(t315 == 0))) = true
             ·rw [if_pos c55] at H
              have c55b0 : (!(t314 == 0) || (!(t315 == 0))) = true := c55
              clear c55
              have H' := Aside0.mk H
              clear H
              have hnb56 := NB312_299.out
              have hnc56 := NB299_312.out
              have hnb57 := NB312_317.out
              have hnc57 := NB317_312.out
              have hcz58_0 : w47.cell? ⟨gb312, 0, none⟩ = some (.int .i64 t309) := (blk_cell BK312.out 0).trans rfl
              have hcz58_1 : w47.cell? ⟨gb312, 1, none⟩ = some (.int .i64 t310) := (blk_cell BK312.out 1).trans rfl
              have hfz58_0 := blk_frozen BK312.out 0
              have hfz58_1 := blk_frozen BK312.out 1
              have hnb59 := NB299_317.out
              have hnc59 := NB317_299.out
              have hcz60_0 : w47.cell? ⟨gb299, 0, none⟩ = some (.int .i64 a0_0) := (blk_cell BK299.out 0).trans rfl
              have hcz60_1 : w47.cell? ⟨gb299, 1, none⟩ = some (.int .i64 a0_1) := (blk_cell BK299.out 1).trans rfl
              have hcz60_2 : w47.cell? ⟨gb299, 2, none⟩ = some (.int .i64 a0_2) := (blk_cell BK299.out 2).trans rfl
              have hcz60_3 : w47.cell? ⟨gb299, 3, none⟩ = some (.int .i64 a0_3) := (blk_cell BK299.out 3).trans rfl
              have hcz60_4 : w47.cell? ⟨gb299, 4, none⟩ = some (.int .i64 a0_4) := (blk_cell BK299.out 4).trans rfl
              have hfz60_0 := blk_frozen BK299.out 0
              have hfz60_1 := blk_frozen BK299.out 1
              have hfz60_2 := blk_frozen BK299.out 2
              have hfz60_3 := blk_frozen BK299.out 3
              have hfz60_4 := blk_frozen BK299.out 4
              have hcz61_0 : w47.cell? ⟨gb317, 0, none⟩ = some (.int .i64 0) := (blk_cell BK317.out 0).trans rfl
              have hcz61_1 : w47.cell? ⟨gb317, 1, none⟩ = some (.int .i64 0) := (blk_cell BK317.out 1).trans rfl
              have hfz61_0 := blk_frozen BK317.out 0
              have hfz61_1 := blk_frozen BK317.out 1
              go_wp2
              go_meet
              case rel => exact ⟨_, (true), (by first | rfl | (simp; done) | (simp [*]; done)), H', ⟨by have := HJ6.out; have := HK2.out; first | omega | exact Nat.le_refl _⟩, ⟨by (with_reducible repeat (first | refine blk_drewN ?_ _ | refine blk_drew ?_ | refine blk_alloc ?_ _)); refine blk_far ?_ NB299_317.out _; (with_reducible repeat (first | refine blk_drewN ?_ _ | refine blk_drew ?_ | refine blk_alloc ?_ _)); refine blk_far ?_ NB299_317.out _; (with_reducible repeat (first | refine blk_drewN ?_ _ | refine blk_drew ?_ | refine blk_alloc ?_ _)); exact BK299.out⟩, ⟨by (with_reducible repeat (first | refine blk_drewN ?_ _ | refine blk_drew ?_ | refine blk_alloc ?_ _)); refine blk_far ?_ NB312_317.out _; (with_reducible repeat (first | refine blk_drewN ?_ _ | refine blk_drew ?_ | refine blk_alloc ?_ _)); refine blk_far ?_ NB312_317.out _; (with_reducible repeat (first | refine blk_drewN ?_ _ | refine blk_drew ?_ | refine blk_alloc ?_ _)); exact BK312.out⟩, ⟨by (with_reducible repeat (first | refine blk_drewN ?_ _ | refine blk_drew ?_ | refine blk_alloc ?_ _)); refine blk_put (cs := #[.int .i64 t314, .int .i64 0]) ?_ 1 _ rfl; (with_reducible repeat (first | refine blk_drewN ?_ _ | refine blk_drew ?_ | refine blk_alloc ?_ _)); refine blk_put (cs := #[.int .i64 0, .int .i64 0]) ?_ 0 _ rfl; (with_reducible repeat (first | refine blk_drewN ?_ _ | refine blk_drew ?_ | refine blk_alloc ?_ _)); exact BK317.out⟩, ⟨by repeat (first | (with_reducible first | exact HB.out | apply below_alloc | apply pw_below_drewN | apply below_drew1 | refine below_set ?_ GE299.out | refine below_set ?_ GE312.out | refine below_set ?_ GE317.out) | exact HB.out)⟩⟩
             ·rw [if_neg c55] at H
              have c55b0 : (!(t314 == 0) || (!(t315 == 0))) = false := by simpa using c55
              clear c55
              replace H := Option.bind_eq_some_iff.mp H
              obtain ⟨t318, A620, H⟩ := H
              replace H : (if t318 = true then (palletlaw10_MemberWhole.j2 k2 a1 true t308 t313 true a0_0 a0_1 a0_2 a0_3 a0_4) else ((member_Clique.f t314 t315).bind fun t319 => (palletlaw10_MemberWhole.j2 k2 a1 true t308 t313 t319 a0_0 a0_1 a0_2 a0_3 a0_4))) = some r := H
              have A62 := Aside0.mk A620
              clear A620
              by_cases c63 : t318 = true
              ·subst c63
               have H1 : (palletlaw10_MemberWhole.j2 k2 a1 true t308 t313 true a0_0 a0_1 a0_2 a0_3 a0_4) = some r := by rw [if_pos rfl] at H; exact H
               clear H
               have H := H1
               clear H1
               have H' := Aside0.mk H
               clear H
               have hnb64 := NB312_299.out
               have hnc64 := NB299_312.out
               have hnb65 := NB312_317.out
               have hnc65 := NB317_312.out
               have hcz66_0 : w47.cell? ⟨gb312, 0, none⟩ = some (.int .i64 t309) := (blk_cell BK312.out 0).trans rfl
               have hcz66_1 : w47.cell? ⟨gb312, 1, none⟩ = some (.int .i64 t310) := (blk_cell BK312.out 1).trans rfl
               have hfz66_0 := blk_frozen BK312.out 0
               have hfz66_1 := blk_frozen BK312.out 1
               have hnb67 := NB299_317.out
               have hnc67 := NB317_299.out
               have hcz68_0 : w47.cell? ⟨gb299, 0, none⟩ = some (.int .i64 a0_0) := (blk_cell BK299.out 0).trans rfl
               have hcz68_1 : w47.cell? ⟨gb299, 1, none⟩ = some (.int .i64 a0_1) := (blk_cell BK299.out 1).trans rfl
               have hcz68_2 : w47.cell? ⟨gb299, 2, none⟩ = some (.int .i64 a0_2) := (blk_cell BK299.out 2).trans rfl
               have hcz68_3 : w47.cell? ⟨gb299, 3, none⟩ = some (.int .i64 a0_3) := (blk_cell BK299.out 3).trans rfl
               have hcz68_4 : w47.cell? ⟨gb299, 4, none⟩ = some (.int .i64 a0_4) := (blk_cell BK299.out 4).trans rfl
               have hfz68_0 := blk_frozen BK299.out 0
               have hfz68_1 := blk_frozen BK299.out 1
               have hfz68_2 := blk_frozen BK299.out 2
               have hfz68_3 := blk_frozen BK299.out 3
               have hfz68_4 := blk_frozen BK299.out 4
               have hcz69_0 : w47.cell? ⟨gb317, 0, none⟩ = some (.int .i64 0) := (blk_cell BK317.out 0).trans rfl
               have hcz69_1 : w47.cell? ⟨gb317, 1, none⟩ = some (.int .i64 0) := (blk_cell BK317.out 1).trans rfl
               have hfz69_0 := blk_frozen BK317.out 0
               have hfz69_1 := blk_frozen BK317.out 1
               go_wp2_with (first | (go_at_call 12; (with_reducible refine (member_Clique.calls t309 t310 true _ A62.out).mono ?_); rintro e w70 ⟨rfl, hb⟩; have n0_ := Aside0.mk (Kd.R_below (by (with_reducible repeat (first | apply Kd.R_alloc | apply Kd.R_drewN | apply Kd.R_drew)); exact (Kd.R_mono (Kd.R_far (p := ⟨gb317, 1, none⟩) (Kd.R_far (p := ⟨gb317, 0, none⟩) (Kd.R_types HO_10.out BK317.out (by decide)) (fun _ hk => hk.2) (.int .i64 t314)) (fun _ hk => hk.2) (.int .i64 t315)) (fun _ h_ => h_.1))) hb); have n1_ := Aside0.mk (Kd.R_below (by (with_reducible repeat (first | apply Kd.R_alloc | apply Kd.R_drewN | apply Kd.R_drew)); exact (Kd.R_mono (Kd.R_far (p := ⟨gb317, 1, none⟩) (Kd.R_far (p := ⟨gb317, 0, none⟩) (Kd.R_types HO_11.out BK317.out (by decide)) (fun _ hk => hk.2) (.int .i64 t314)) (fun _ hk => hk.2) (.int .i64 t315)) (fun _ h_ => h_.1))) hb); have n2_ := Aside0.mk (blk_below (g := gb299) (o := .cells #[.int .i64 a0_0, .int .i64 a0_1, .int .i64 a0_2, .int .i64 a0_3, .int .i64 a0_4] 32 (0, 0)) (by (with_reducible repeat (first | refine blk_drewN ?_ _ | refine blk_drew ?_ | refine blk_alloc ?_ _)); refine blk_far ?_ NB299_317.out _; (with_reducible repeat (first | refine blk_drewN ?_ _ | refine blk_drew ?_ | refine blk_alloc ?_ _)); refine blk_far ?_ NB299_317.out _; (with_reducible repeat (first | refine blk_drewN ?_ _ | refine blk_drew ?_ | refine blk_alloc ?_ _)); exact BK299.out) hb); have n3_ := Aside0.mk (blk_below (g := gb312) (o := .cells #[.int .i64 t309, .int .i64 t310] 25 (0, 0)) (by (with_reducible repeat (first | refine blk_drewN ?_ _ | refine blk_drew ?_ | refine blk_alloc ?_ _)); refine blk_far ?_ NB312_317.out _; (with_reducible repeat (first | refine blk_drewN ?_ _ | refine blk_drew ?_ | refine blk_alloc ?_ _)); refine blk_far ?_ NB312_317.out _; (with_reducible repeat (first | refine blk_drewN ?_ _ | refine blk_drew ?_ | refine blk_alloc ?_ _)); exact BK312.out) hb); have n4_ := Aside0.mk (blk_below (g := gb317) (o := .cells #[.int .i64 t314, .int .i64 t315] 25 (0, 0)) (by (with_reducible repeat (first | refine blk_drewN ?_ _ | refine blk_drew ?_ | refine blk_alloc ?_ _)); refine blk_put (cs := #[.int .i64 t314, .int .i64 0]) ?_ 1 _ rfl; (with_reducible repeat (first | refine blk_drewN ?_ _ | refine blk_drew ?_ | refine blk_alloc ?_ _)); refine blk_put (cs := #[.int .i64 0, .int .i64 0]) ?_ 0 _ rfl; (with_reducible repeat (first | refine blk_drewN ?_ _ | refine blk_drew ?_ | refine blk_alloc ?_ _)); exact BK317.out) hb); have n5_ := Aside0.mk (below_step (by repeat (first | (with_reducible first | exact HB.out | apply below_alloc | apply pw_below_drewN | apply below_drew1 | refine below_set ?_ GE299.out | refine below_set ?_ GE312.out | refine below_set ?_ GE317.out) | exact HB.out)) hb); clear HO_10; clear HO_11; clear BK299; clear BK312; clear BK317; clear HB; have HO_10 := n0_; have HO_11 := n1_; have BK299 := n2_; have BK312 := n3_; have BK317 := n4_; have HB := n5_; clear n0_ n1_ n2_ n3_ n4_ n5_; (try clear hb); (try clear hb2); (try clear hk); (try clear hi)))
               go_meet
               case rel => exact ⟨_, (true), (by first | rfl | (simp; done) | (simp [*]; done)), H', ⟨by have := HJ6.out; have := HK2.out; first | omega | exact Nat.le_refl _⟩, ⟨by (with_reducible repeat (first | refine blk_drewN ?_ _ | refine blk_drew ?_ | refine blk_alloc ?_ _)); exact BK299.out⟩, ⟨by (with_reducible repeat (first | refine blk_drewN ?_ _ | refine blk_drew ?_ | refine blk_alloc ?_ _)); exact BK312.out⟩, ⟨by (with_reducible repeat (first | refine blk_drewN ?_ _ | refine blk_drew ?_ | refine blk_alloc ?_ _)); exact BK317.out⟩, ⟨by repeat (first | (with_reducible first | exact HB.out | apply below_alloc | apply pw_below_drewN | apply below_drew1 | refine below_set ?_ GE299.out | refine below_set ?_ GE312.out | refine below_set ?_ GE317.out) | exact HB.out)⟩⟩
              ·replace c63 := Bool.eq_false_iff.mpr c63
               subst c63
               have H1 : ((member_Clique.f t314 t315).bind fun t319 => (palletlaw10_MemberWhole.j2 k2 a1 true t308 t313 t319 a0_0 a0_1 a0_2 a0_3 a0_4)) = some r := by rw [if_neg (show ¬ (false = true) by decide)] at H; exact H
               clear H
               have H := H1
               clear H1
               replace H := Option.bind_eq_some_iff.mp H
               obtain ⟨t319, A710, H⟩ := H
               replace H : (palletlaw10_MemberWhole.j2 k2 a1 true t308 t313 t319 a0_0 a0_1 a0_2 a0_3 a0_4) = some r := H
               have A71 := Aside0.mk A710
               clear A710
               have H' := Aside0.mk H
               clear H
               have hnb72 := NB312_299.out
               have hnc72 := NB299_312.out
               have hnb73 := NB312_317.out
               have hnc73 := NB317_312.out
               have hcz74_0 : w47.cell? ⟨gb312, 0, none⟩ = some (.int .i64 t309) := (blk_cell BK312.out 0).trans rfl
               have hcz74_1 : w47.cell? ⟨gb312, 1, none⟩ = some (.int .i64 t310) := (blk_cell BK312.out 1).trans rfl
               have hfz74_0 := blk_frozen BK312.out 0
               have hfz74_1 := blk_frozen BK312.out 1
               have hnb75 := NB299_317.out
               have hnc75 := NB317_299.out
               have hcz76_0 : w47.cell? ⟨gb299, 0, none⟩ = some (.int .i64 a0_0) := (blk_cell BK299.out 0).trans rfl
               have hcz76_1 : w47.cell? ⟨gb299, 1, none⟩ = some (.int .i64 a0_1) := (blk_cell BK299.out 1).trans rfl
               have hcz76_2 : w47.cell? ⟨gb299, 2, none⟩ = some (.int .i64 a0_2) := (blk_cell BK299.out 2).trans rfl
               have hcz76_3 : w47.cell? ⟨gb299, 3, none⟩ = some (.int .i64 a0_3) := (blk_cell BK299.out 3).trans rfl
               have hcz76_4 : w47.cell? ⟨gb299, 4, none⟩ = some (.int .i64 a0_4) := (blk_cell BK299.out 4).trans rfl
               have hfz76_0 := blk_frozen BK299.out 0
               have hfz76_1 := blk_frozen BK299.out 1
               have hfz76_2 := blk_frozen BK299.out 2
               have hfz76_3 := blk_frozen BK299.out 3
               have hfz76_4 := blk_frozen BK299.out 4
               have hcz77_0 : w47.cell? ⟨gb317, 0, none⟩ = some (.int .i64 0) := (blk_cell BK317.out 0).trans rfl
               have hcz77_1 : w47.cell? ⟨gb317, 1, none⟩ = some (.int .i64 0) := (blk_cell BK317.out 1).trans rfl
               have hfz77_0 := blk_frozen BK317.out 0
               have hfz77_1 := blk_frozen BK317.out 1
               go_wp2_with (first | (go_at_call 12; (with_reducible refine (member_Clique.calls t309 t310 false _ A62.out).mono ?_); rintro e w78 ⟨rfl, hb⟩; have n0_ := Aside0.mk (Kd.R_below (by (with_reducible repeat (first | apply Kd.R_alloc | apply Kd.R_drewN | apply Kd.R_drew)); exact (Kd.R_mono (Kd.R_far (p := ⟨gb317, 1, none⟩) (Kd.R_far (p := ⟨gb317, 0, none⟩) (Kd.R_types HO_10.out BK317.out (by decide)) (fun _ hk => hk.2) (.int .i64 t314)) (fun _ hk => hk.2) (.int .i64 t315)) (fun _ h_ => h_.1))) hb); have n1_ := Aside0.mk (Kd.R_below (by (with_reducible repeat (first | apply Kd.R_alloc | apply Kd.R_drewN | apply Kd.R_drew)); exact (Kd.R_mono (Kd.R_far (p := ⟨gb317, 1, none⟩) (Kd.R_far (p := ⟨gb317, 0, none⟩) (Kd.R_types HO_11.out BK317.out (by decide)) (fun _ hk => hk.2) (.int .i64 t314)) (fun _ hk => hk.2) (.int .i64 t315)) (fun _ h_ => h_.1))) hb); have n2_ := Aside0.mk (blk_below (g := gb299) (o := .cells #[.int .i64 a0_0, .int .i64 a0_1, .int .i64 a0_2, .int .i64 a0_3, .int .i64 a0_4] 32 (0, 0)) (by (with_reducible repeat (first | refine blk_drewN ?_ _ | refine blk_drew ?_ | refine blk_alloc ?_ _)); refine blk_far ?_ NB299_317.out _; (with_reducible repeat (first | refine blk_drewN ?_ _ | refine blk_drew ?_ | refine blk_alloc ?_ _)); refine blk_far ?_ NB299_317.out _; (with_reducible repeat (first | refine blk_drewN ?_ _ | refine blk_drew ?_ | refine blk_alloc ?_ _)); exact BK299.out) hb); have n3_ := Aside0.mk (blk_below (g := gb312) (o := .cells #[.int .i64 t309, .int .i64 t310] 25 (0, 0)) (by (with_reducible repeat (first | refine blk_drewN ?_ _ | refine blk_drew ?_ | refine blk_alloc ?_ _)); refine blk_far ?_ NB312_317.out _; (with_reducible repeat (first | refine blk_drewN ?_ _ | refine blk_drew ?_ | refine blk_alloc ?_ _)); refine blk_far ?_ NB312_317.out _; (with_reducible repeat (first | refine blk_drewN ?_ _ | refine blk_drew ?_ | refine blk_alloc ?_ _)); exact BK312.out) hb); have n4_ := Aside0.mk (blk_below (g := gb317) (o := .cells #[.int .i64 t314, .int .i64 t315] 25 (0, 0)) (by (with_reducible repeat (first | refine blk_drewN ?_ _ | refine blk_drew ?_ | refine blk_alloc ?_ _)); refine blk_put (cs := #[.int .i64 t314, .int .i64 0]) ?_ 1 _ rfl; (with_reducible repeat (first | refine blk_drewN ?_ _ | refine blk_drew ?_ | refine blk_alloc ?_ _)); refine blk_put (cs := #[.int .i64 0, .int .i64 0]) ?_ 0 _ rfl; (with_reducible repeat (first | refine blk_drewN ?_ _ | refine blk_drew ?_ | refine blk_alloc ?_ _)); exact BK317.out) hb); have n5_ := Aside0.mk (below_step (by repeat (first | (with_reducible first | exact HB.out | apply below_alloc | apply pw_below_drewN | apply below_drew1 | refine below_set ?_ GE299.out | refine below_set ?_ GE312.out | refine below_set ?_ GE317.out) | exact HB.out)) hb); clear HO_10; clear HO_11; clear BK299; clear BK312; clear BK317; clear HB; have HO_10 := n0_; have HO_11 := n1_; have BK299 := n2_; have BK312 := n3_; have BK317 := n4_; have HB := n5_; clear n0_ n1_ n2_ n3_ n4_ n5_; (try clear hb); (try clear hb2); (try clear hk); (try clear hi); have hcz79_0 : w78.cell? ⟨gb317, 0, none⟩ = some (.int .i64 t314) := (blk_cell BK317.out 0).trans rfl; have hcz79_1 : w78.cell? ⟨gb317, 1, none⟩ = some (.int .i64 t315) := (blk_cell BK317.out 1).trans rfl; have hfz79_0 := blk_frozen BK317.out 0; have hfz79_1 := blk_frozen BK317.out 1) | (go_at_call 12; (with_reducible refine (member_Clique.calls t314 t315 t319 _ A71.out).mono ?_); rintro e w80 ⟨rfl, hb⟩; have n0_ := Aside0.mk (Kd.R_below (by (with_reducible repeat (first | apply Kd.R_alloc | apply Kd.R_drewN | apply Kd.R_drew)); exact HO_10.out) hb); have n1_ := Aside0.mk (Kd.R_below (by (with_reducible repeat (first | apply Kd.R_alloc | apply Kd.R_drewN | apply Kd.R_drew)); exact HO_11.out) hb); have n2_ := Aside0.mk (blk_below (g := gb299) (o := .cells #[.int .i64 a0_0, .int .i64 a0_1, .int .i64 a0_2, .int .i64 a0_3, .int .i64 a0_4] 32 (0, 0)) (by (with_reducible repeat (first | refine blk_drewN ?_ _ | refine blk_drew ?_ | refine blk_alloc ?_ _)); exact BK299.out) hb); have n3_ := Aside0.mk (blk_below (g := gb312) (o := .cells #[.int .i64 t309, .int .i64 t310] 25 (0, 0)) (by (with_reducible repeat (first | refine blk_drewN ?_ _ | refine blk_drew ?_ | refine blk_alloc ?_ _)); exact BK312.out) hb); have n4_ := Aside0.mk (blk_below (g := gb317) (o := .cells #[.int .i64 t314, .int .i64 t315] 25 (0, 0)) (by (with_reducible repeat (first | refine blk_drewN ?_ _ | refine blk_drew ?_ | refine blk_alloc ?_ _)); exact BK317.out) hb); have n5_ := Aside0.mk (below_step (by repeat (first | (with_reducible first | exact HB.out | apply below_alloc | apply pw_below_drewN | apply below_drew1 | refine below_set ?_ GE299.out | refine below_set ?_ GE312.out | refine below_set ?_ GE317.out) | exact HB.out)) hb); clear HO_10; clear HO_11; clear BK299; clear BK312; clear BK317; clear HB; have HO_10 := n0_; have HO_11 := n1_; have BK299 := n2_; have BK312 := n3_; have BK317 := n4_; have HB := n5_; clear n0_ n1_ n2_ n3_ n4_ n5_; (try clear hb); (try clear hb2); (try clear hk); (try clear hi)))
               go_meet
               case rel => exact ⟨_, (t319), (by first | rfl | (simp; done) | (simp [*]; done)), H', ⟨by have := HJ6.out; have := HK2.out; first | omega | exact Nat.le_refl _⟩, ⟨by (with_reducible repeat (first | refine blk_drewN ?_ _ | refine blk_drew ?_ | refine blk_alloc ?_ _)); exact BK299.out⟩, ⟨by (with_reducible repeat (first | refine blk_drewN ?_ _ | refine blk_drew ?_ | refine blk_alloc ?_ _)); exact BK312.out⟩, ⟨by (with_reducible repeat (first | refine blk_drewN ?_ _ | refine blk_drew ?_ | refine blk_alloc ?_ _)); exact BK317.out⟩, ⟨by repeat (first | (with_reducible first | exact HB.out | apply below_alloc | apply pw_below_drewN | apply below_drew1 | refine below_set ?_ GE299.out | refine below_set ?_ GE312.out | refine below_set ?_ GE317.out) | exact HB.out)⟩⟩
            ·rw [if_neg c54] at H
             have c54b0 : (t310 == 0) = false := beq_eq_false_iff_ne.mpr c54
             have c54b1 : (t310 != 0) = true := bne_iff_ne.mpr c54
             have H' := Aside0.mk H
             clear H
             have hnb81 := NB312_299.out
             have hnc81 := NB299_312.out
             have hnb82 := NB312_317.out
             have hnc82 := NB317_312.out
             have hcz83_0 : w47.cell? ⟨gb312, 0, none⟩ = some (.int .i64 t309) := (blk_cell BK312.out 0).trans rfl
             have hcz83_1 : w47.cell? ⟨gb312, 1, none⟩ = some (.int .i64 t310) := (blk_cell BK312.out 1).trans rfl
             have hfz83_0 := blk_frozen BK312.out 0
             have hfz83_1 := blk_frozen BK312.out 1
             have hnb84 := NB299_317.out
             have hnc84 := NB317_299.out
             have hcz85_0 : w47.cell? ⟨gb299, 0, none⟩ = some (.int .i64 a0_0) := (blk_cell BK299.out 0).trans rfl
             have hcz85_1 : w47.cell? ⟨gb299, 1, none⟩ = some (.int .i64 a0_1) := (blk_cell BK299.out 1).trans rfl
             have hcz85_2 : w47.cell? ⟨gb299, 2, none⟩ = some (.int .i64 a0_2) := (blk_cell BK299.out 2).trans rfl
             have hcz85_3 : w47.cell? ⟨gb299, 3, none⟩ = some (.int .i64 a0_3) := (blk_cell BK299.out 3).trans rfl
             have hcz85_4 : w47.cell? ⟨gb299, 4, none⟩ = some (.int .i64 a0_4) := (blk_cell BK299.out 4).trans rfl
             have hfz85_0 := blk_frozen BK299.out 0
             have hfz85_1 := blk_frozen BK299.out 1
             have hfz85_2 := blk_frozen BK299.out 2
             have hfz85_3 := blk_frozen BK299.out 3
             have hfz85_4 := blk_frozen BK299.out 4
             go_wp2
             go_meet
             case rel => exact ⟨_, (true), (by first | rfl | (simp; done) | (simp [*]; done)), H', ⟨by have := HJ6.out; have := HK2.out; first | omega | exact Nat.le_refl _⟩, ⟨by (with_reducible repeat (first | refine blk_drewN ?_ _ | refine blk_drew ?_ | refine blk_alloc ?_ _)); refine blk_far ?_ NB299_317.out _; (with_reducible repeat (first | refine blk_drewN ?_ _ | refine blk_drew ?_ | refine blk_alloc ?_ _)); refine blk_far ?_ NB299_317.out _; (with_reducible repeat (first | refine blk_drewN ?_ _ | refine blk_drew ?_ | refine blk_alloc ?_ _)); exact BK299.out⟩, ⟨by (with_reducible repeat (first | refine blk_drewN ?_ _ | refine blk_drew ?_ | refine blk_alloc ?_ _)); refine blk_far ?_ NB312_317.out _; (with_reducible repeat (first | refine blk_drewN ?_ _ | refine blk_drew ?_ | refine blk_alloc ?_ _)); refine blk_far ?_ NB312_317.out _; (with_reducible repeat (first | refine blk_drewN ?_ _ | refine blk_drew ?_ | refine blk_alloc ?_ _)); exact BK312.out⟩, ⟨by (with_reducible repeat (first | refine blk_drewN ?_ _ | refine blk_drew ?_ | refine blk_alloc ?_ _)); refine blk_put (cs := #[.int .i64 t314, .int .i64 0]) ?_ 1 _ rfl; (with_reducible repeat (first | refine blk_drewN ?_ _ | refine blk_drew ?_ | refine blk_alloc ?_ _)); refine blk_put (cs := #[.int .i64 0, .int .i64 0]) ?_ 0 _ rfl; (with_reducible repeat (first | refine blk_drewN ?_ _ | refine blk_drew ?_ | refine blk_alloc ?_ _)); exact BK317.out⟩, ⟨by repeat (first | (with_reducible first | exact HB.out | apply below_alloc | apply pw_below_drewN | apply below_drew1 | refine below_set ?_ GE299.out | refine below_set ?_ GE312.out | refine below_set ?_ GE317.out) | exact HB.out)⟩⟩
           ·rw [if_neg c53] at H
            have c53b0 : (t309 == a0_0) = false := beq_eq_false_iff_ne.mpr c53
            have c53b1 : (t309 != a0_0) = true := bne_iff_ne.mpr c53
            have H' := Aside0.mk H
            clear H
            have hnb86 := NB312_299.out
            have hnc86 := NB299_312.out
            have hnb87 := NB312_317.out
            have hnc87 := NB317_312.out
            have hcz88_0 : w47.cell? ⟨gb312, 0, none⟩ = some (.int .i64 t309) := (blk_cell BK312.out 0).trans rfl
            have hcz88_1 : w47.cell? ⟨gb312, 1, none⟩ = some (.int .i64 t310) := (blk_cell BK312.out 1).trans rfl
            have hfz88_0 := blk_frozen BK312.out 0
            have hfz88_1 := blk_frozen BK312.out 1
            have hnb89 := NB299_317.out
            have hnc89 := NB317_299.out
            have hcz90_0 : w47.cell? ⟨gb299, 0, none⟩ = some (.int .i64 a0_0) := (blk_cell BK299.out 0).trans rfl
            have hcz90_1 : w47.cell? ⟨gb299, 1, none⟩ = some (.int .i64 a0_1) := (blk_cell BK299.out 1).trans rfl
            have hcz90_2 : w47.cell? ⟨gb299, 2, none⟩ = some (.int .i64 a0_2) := (blk_cell BK299.out 2).trans rfl
            have hcz90_3 : w47.cell? ⟨gb299, 3, none⟩ = some (.int .i64 a0_3) := (blk_cell BK299.out 3).trans rfl
            have hcz90_4 : w47.cell? ⟨gb299, 4, none⟩ = some (.int .i64 a0_4) := (blk_cell BK299.out 4).trans rfl
            have hfz90_0 := blk_frozen BK299.out 0
            have hfz90_1 := blk_frozen BK299.out 1
            have hfz90_2 := blk_frozen BK299.out 2
            have hfz90_3 := blk_frozen BK299.out 3
            have hfz90_4 := blk_frozen BK299.out 4
            go_wp2
            go_meet
            case rel => exact ⟨_, (true), (by first | rfl | (simp; done) | (simp [*]; done)), H', ⟨by have := HJ6.out; have := HK2.out; first | omega | exact Nat.le_refl _⟩, ⟨by (with_reducible repeat (first | refine blk_drewN ?_ _ | refine blk_drew ?_ | refine blk_alloc ?_ _)); refine blk_far ?_ NB299_317.out _; (with_reducible repeat (first | refine blk_drewN ?_ _ | refine blk_drew ?_ | refine blk_alloc ?_ _)); refine blk_far ?_ NB299_317.out _; (with_reducible repeat (first | refine blk_drewN ?_ _ | refine blk_drew ?_ | refine blk_alloc ?_ _)); exact BK299.out⟩, ⟨by (with_reducible repeat (first | refine blk_drewN ?_ _ | refine blk_drew ?_ | refine blk_alloc ?_ _)); refine blk_far ?_ NB312_317.out _; (with_reducible repeat (first | refine blk_drewN ?_ _ | refine blk_drew ?_ | refine blk_alloc ?_ _)); refine blk_far ?_ NB312_317.out _; (with_reducible repeat (first | refine blk_drewN ?_ _ | refine blk_drew ?_ | refine blk_alloc ?_ _)); exact BK312.out⟩, ⟨by (with_reducible repeat (first | refine blk_drewN ?_ _ | refine blk_drew ?_ | refine blk_alloc ?_ _)); refine blk_put (cs := #[.int .i64 t314, .int .i64 0]) ?_ 1 _ rfl; (with_reducible repeat (first | refine blk_drewN ?_ _ | refine blk_drew ?_ | refine blk_alloc ?_ _)); refine blk_put (cs := #[.int .i64 0, .int .i64 0]) ?_ 0 _ rfl; (with_reducible repeat (first | refine blk_drewN ?_ _ | refine blk_drew ?_ | refine blk_alloc ?_ _)); exact BK317.out⟩, ⟨by repeat (first | (with_reducible first | exact HB.out | apply below_alloc | apply pw_below_drewN | apply below_drew1 | refine below_set ?_ GE299.out | refine below_set ?_ GE312.out | refine below_set ?_ GE317.out) | exact HB.out)⟩⟩
          ·rw [if_neg c52] at H
           have c52b0 : (t316 == 0) = false := beq_eq_false_iff_ne.mpr c52
           have c52b1 : (t316 != 0) = true := bne_iff_ne.mpr c52
           have H' := Aside0.mk H
           clear H
           go_wp2
           go_meet
           case rel => exact ⟨_, (true), (by first | rfl | (simp; done) | (simp [*]; done)), H', ⟨by have := HJ6.out; have := HK2.out; first | omega | exact Nat.le_refl _⟩, ⟨by (with_reducible repeat (first | refine blk_drewN ?_ _ | refine blk_drew ?_ | refine blk_alloc ?_ _)); refine blk_far ?_ NB299_317.out _; (with_reducible repeat (first | refine blk_drewN ?_ _ | refine blk_drew ?_ | refine blk_alloc ?_ _)); refine blk_far ?_ NB299_317.out _; (with_reducible repeat (first | refine blk_drewN ?_ _ | refine blk_drew ?_ | refine blk_alloc ?_ _)); exact BK299.out⟩, ⟨by (with_reducible repeat (first | refine blk_drewN ?_ _ | refine blk_drew ?_ | refine blk_alloc ?_ _)); refine blk_far ?_ NB312_317.out _; (with_reducible repeat (first | refine blk_drewN ?_ _ | refine blk_drew ?_ | refine blk_alloc ?_ _)); refine blk_far ?_ NB312_317.out _; (with_reducible repeat (first | refine blk_drewN ?_ _ | refine blk_drew ?_ | refine blk_alloc ?_ _)); exact BK312.out⟩, ⟨by (with_reducible repeat (first | refine blk_drewN ?_ _ | refine blk_drew ?_ | refine blk_alloc ?_ _)); refine blk_put (cs := #[.int .i64 t314, .int .i64 0]) ?_ 1 _ rfl; (with_reducible repeat (first | refine blk_drewN ?_ _ | refine blk_drew ?_ | refine blk_alloc ?_ _)); refine blk_put (cs := #[.int .i64 0, .int .i64 0]) ?_ 0 _ rfl; (with_reducible repeat (first | refine blk_drewN ?_ _ | refine blk_drew ?_ | refine blk_alloc ?_ _)); exact BK317.out⟩, ⟨by repeat (first | (with_reducible first | exact HB.out | apply below_alloc | apply pw_below_drewN | apply below_drew1 | refine below_set ?_ GE299.out | refine below_set ?_ GE312.out | refine below_set ?_ GE317.out) | exact HB.out)⟩⟩
         ·rw [if_neg c51] at H
          have c51b0 : (t311 == 0) = false := beq_eq_false_iff_ne.mpr c51
          have c51b1 : (t311 != 0) = true := bne_iff_ne.mpr c51
          (first | rw [c51b0] | (simp only [i64_w, i32_w]; rw [c51b0]) | skip)
          have H' := Aside0.mk H
          clear H
          go_wp2
          go_meet
          case rel => exact ⟨_, (true), (by first | rfl | (simp; done) | (simp [*]; done)), H', ⟨by have := HJ6.out; have := HK2.out; first | omega | exact Nat.le_refl _⟩, ⟨by (with_reducible repeat (first | refine blk_drewN ?_ _ | refine blk_drew ?_ | refine blk_alloc ?_ _)); refine blk_far ?_ NB299_317.out _; (with_reducible repeat (first | refine blk_drewN ?_ _ | refine blk_drew ?_ | refine blk_alloc ?_ _)); refine blk_far ?_ NB299_317.out _; (with_reducible repeat (first | refine blk_drewN ?_ _ | refine blk_drew ?_ | refine blk_alloc ?_ _)); exact BK299.out⟩, ⟨by (with_reducible repeat (first | refine blk_drewN ?_ _ | refine blk_drew ?_ | refine blk_alloc ?_ _)); refine blk_far ?_ NB312_317.out _; (with_reducible repeat (first | refine blk_drewN ?_ _ | refine blk_drew ?_ | refine blk_alloc ?_ _)); refine blk_far ?_ NB312_317.out _; (with_reducible repeat (first | refine blk_drewN ?_ _ | refine blk_drew ?_ | refine blk_alloc ?_ _)); exact BK312.out⟩, ⟨by (with_reducible repeat (first | refine blk_drewN ?_ _ | refine blk_drew ?_ | refine blk_alloc ?_ _)); refine blk_put (cs := #[.int .i64 t314, .int .i64 0]) ?_ 1 _ rfl; (with_reducible repeat (first | refine blk_drewN ?_ _ | refine blk_drew ?_ | refine blk_alloc ?_ _)); refine blk_put (cs := #[.int .i64 0, .int .i64 0]) ?_ 0 _ rfl; (with_reducible repeat (first | refine blk_drewN ?_ _ | refine blk_drew ?_ | refine blk_alloc ?_ _)); exact BK317.out⟩, ⟨by repeat (first | (with_reducible first | exact HB.out | apply below_alloc | apply pw_below_drewN | apply below_drew1 | refine below_set ?_ GE299.out | refine below_set ?_ GE312.out | refine below_set ?_ GE317.out) | exact HB.out)⟩⟩
        case rest =>
         clear HC37
         try clear c1
         try clear c2
         try clear p2
         try clear c3
         try clear c4
         try clear c5
         try clear c6
         try clear p6
         try clear c7
         try clear c8
         try clear c9
         try clear c10
         try clear c11
         try clear c11b0
         try clear c11b1
         try clear c12
         try clear c12b0
         try clear c15
         try clear c15b0
         try clear c19
         try clear c19b0
         try clear c23
         try clear c25
         try clear c28
         try clear c30
         try clear c30b0
         try clear c31
         try clear c32
         try clear c42
         try clear c48
         try clear c49
         try clear c51
         try clear c51b0
         try clear c51b1
         try clear c52
         try clear c52b0
         try clear c52b1
         try clear c53
         try clear c53b0
         try clear c53b1
         try clear c54
         try clear c54b0
         try clear c54b1
         try clear c55
         try clear c55b0
         try clear c56
         try clear c57
         try clear c59
         try clear c63
         try clear c64
         try clear p64
         try clear c65
         try clear c67
         try clear c72
         try clear c73
         try clear c75
         try clear c81
         try clear c82
         try clear c84
         try clear c86
         try clear c87
         try clear c89
         try clear hcz13_0
         try clear hcz13_1
         try clear hcz13_2
         try clear hcz13_3
         try clear hcz13_4
         try clear hcz16_0
         try clear hcz16_1
         try clear hcz16_2
         try clear hcz16_3
         try clear hcz16_4
         try clear hcz18_0
         try clear hcz18_1
         try clear hcz18_2
         try clear hcz18_3
         try clear hcz18_4
         try clear hcz20_0
         try clear hcz20_1
         try clear hcz20_2
         try clear hcz20_3
         try clear hcz20_4
         try clear hcz22_0
         try clear hcz22_1
         try clear hcz22_2
         try clear hcz22_3
         try clear hcz22_4
         try clear hcz23_0
         try clear hcz23_1
         try clear hcz23_2
         try clear hcz23_3
         try clear hcz23_4
         try clear hcz25_0
         try clear hcz25_1
         try clear hcz25_2
         try clear hcz25_3
         try clear hcz25_4
         try clear hcz26_0
         try clear hcz26_1
         try clear hcz26_2
         try clear hcz26_3
         try clear hcz26_4
         try clear hcz29_0
         try clear hcz29_1
         try clear hcz29_2
         try clear hcz29_3
         try clear hcz29_4
         try clear hcz38_0
         try clear hcz38_1
         try clear hcz38_2
         try clear hcz38_3
         try clear hcz38_4
         try clear hcz43_0
         try clear hcz43_1
         try clear hcz44_0
         try clear hcz44_1
         try clear hcz44_2
         try clear hcz44_3
         try clear hcz44_4
         try clear hcz50_0
         try clear hcz50_1
         try clear hcz58_0
         try clear hcz58_1
         try clear hcz60_0
         try clear hcz60_1
         try clear hcz60_2
         try clear hcz60_3
         try clear hcz60_4
         try clear hcz61_0
         try clear hcz61_1
         try clear hcz66_0
         try clear hcz66_1
         try clear hcz68_0
         try clear hcz68_1
         try clear hcz68_2
         try clear hcz68_3
         try clear hcz68_4
         try clear hcz69_0
         try clear hcz69_1
         try clear hcz74_0
         try clear hcz74_1
         try clear hcz76_0
         try clear hcz76_1
         try clear hcz76_2
         try clear hcz76_3
         try clear hcz76_4
         try clear hcz77_0
         try clear hcz77_1
         try clear hcz79_0
         try clear hcz79_1
         try clear hcz83_0
         try clear hcz83_1
         try clear hcz85_0
         try clear hcz85_1
         try clear hcz85_2
         try clear hcz85_3
         try clear hcz85_4
         try clear hcz88_0
         try clear hcz88_1
         try clear hcz90_0
         try clear hcz90_1
         try clear hcz90_2
         try clear hcz90_3
         try clear hcz90_4
         try clear hfz13_0
         try clear hfz13_1
         try clear hfz13_2
         try clear hfz13_3
         try clear hfz13_4
         try clear hfz16_0
         try clear hfz16_1
         try clear hfz16_2
         try clear hfz16_3
         try clear hfz16_4
         try clear hfz18_0
         try clear hfz18_1
         try clear hfz18_2
         try clear hfz18_3
         try clear hfz18_4
         try clear hfz20_0
         try clear hfz20_1
         try clear hfz20_2
         try clear hfz20_3
         try clear hfz20_4
         try clear hfz22_0
         try clear hfz22_1
         try clear hfz22_2
         try clear hfz22_3
         try clear hfz22_4
         try clear hfz23_0
         try clear hfz23_1
         try clear hfz23_2
         try clear hfz23_3
         try clear hfz23_4
         try clear hfz25_0
         try clear hfz25_1
         try clear hfz25_2
         try clear hfz25_3
         try clear hfz25_4
         try clear hfz26_0
         try clear hfz26_1
         try clear hfz26_2
         try clear hfz26_3
         try clear hfz26_4
         try clear hfz29_0
         try clear hfz29_1
         try clear hfz29_2
         try clear hfz29_3
         try clear hfz29_4
         try clear hfz38_0
         try clear hfz38_1
         try clear hfz38_2
         try clear hfz38_3
         try clear hfz38_4
         try clear hfz43_0
         try clear hfz43_1
         try clear hfz44_0
         try clear hfz44_1
         try clear hfz44_2
         try clear hfz44_3
         try clear hfz44_4
         try clear hfz50_0
         try clear hfz50_1
         try clear hfz58_0
         try clear hfz58_1
         try clear hfz60_0
         try clear hfz60_1
         try clear hfz60_2
         try clear hfz60_3
         try clear hfz60_4
         try clear hfz61_0
         try clear hfz61_1
         try clear hfz66_0
         try clear hfz66_1
         try clear hfz68_0
         try clear hfz68_1
         try clear hfz68_2
         try clear hfz68_3
         try clear hfz68_4
         try clear hfz69_0
         try clear hfz69_1
         try clear hfz74_0
         try clear hfz74_1
         try clear hfz76_0
         try clear hfz76_1
         try clear hfz76_2
         try clear hfz76_3
         try clear hfz76_4
         try clear hfz77_0
         try clear hfz77_1
         try clear hfz79_0
         try clear hfz79_1
         try clear hfz83_0
         try clear hfz83_1
         try clear hfz85_0
         try clear hfz85_1
         try clear hfz85_2
         try clear hfz85_3
         try clear hfz85_4
         try clear hfz88_0
         try clear hfz88_1
         try clear hfz90_0
         try clear hfz90_1
         try clear hfz90_2
         try clear hfz90_3
         try clear hfz90_4
         try clear p2
         obtain ⟨kq, x106_36, rfl, HA, HJ36, BK299, BK312, BK317, HB⟩ := hcut
         cases kq with
         | zero => exact absurd HA.out (by simp [palletlaw10_MemberWhole.j2])
         | succ kj36 =>
          have H := HA.out
          clear HA
          simp only [palletlaw10_MemberWhole.j2] at H
          by_cases c91 : x106_36 = true
          ·subst c91
           have H1 : (some false) = some r := by rw [if_pos rfl] at H; exact H
           clear H
           have H := H1
           clear H1
           obtain rfl := Option.some.inj H
           exact absurd hr_.out (by decide)
          ·replace c91 := Bool.eq_false_iff.mpr c91
           subst c91
           have H1 : (palletlaw10_MemberWhole.l1 kj36 a1 true t308 t313 a0_0 0) = some r := by rw [if_neg (show ¬ (false = true) by decide)] at H; exact H
           clear H
           have H := H1
           clear H1
           have H' := Aside0.mk H
           clear H
           have hnb92 := NB299_312.out
           have hnc92 := NB312_299.out
           have hnb93 := NB299_317.out
           have hnc93 := NB317_299.out
           have hcz94_0 : wc.cell? ⟨gb299, 0, none⟩ = some (.int .i64 a0_0) := (blk_cell BK299.out 0).trans rfl
           have hcz94_1 : wc.cell? ⟨gb299, 1, none⟩ = some (.int .i64 a0_1) := (blk_cell BK299.out 1).trans rfl
           have hcz94_2 : wc.cell? ⟨gb299, 2, none⟩ = some (.int .i64 a0_2) := (blk_cell BK299.out 2).trans rfl
           have hcz94_3 : wc.cell? ⟨gb299, 3, none⟩ = some (.int .i64 a0_3) := (blk_cell BK299.out 3).trans rfl
           have hcz94_4 : wc.cell? ⟨gb299, 4, none⟩ = some (.int .i64 a0_4) := (blk_cell BK299.out 4).trans rfl
           have hfz94_0 := blk_frozen BK299.out 0
           have hfz94_1 := blk_frozen BK299.out 1
           have hfz94_2 := blk_frozen BK299.out 2
           have hfz94_3 := blk_frozen BK299.out 3
           have hfz94_4 := blk_frozen BK299.out 4
           go_wp2
           go_loopg [109] kj36 (fun kq v109 w' => ∃ (x109_4 : Int), v109 = .int .i64 x109_4 ∧ Aside0 (palletlaw10_MemberWhole.l1 kq a1 true t308 t313 a0_0 x109_4 = some r) ∧ Aside0 (kq ≤ kj36) ∧ Aside0 (w'.heap[gb299]? = some (.cells #[.int .i64 a0_0, .int .i64 a0_1, .int .i64 a0_2, .int .i64 a0_3, .int .i64 a0_4] 32 (0, 0))) ∧ Aside0 (w'.heap[gb312]? = some (.cells #[.int .i64 t309, .int .i64 t310] 25 (0, 0))) ∧ Aside0 (w'.heap[gb317]? = some (.cells #[.int .i64 t314, .int .i64 t315] 25 (0, 0))) ∧ Aside0 (Below w.heap.size w w'))
           case atStart => exact ⟨(0), (by first | rfl | (simp; done) | (simp [*]; done)), H', ⟨Nat.le_refl _⟩, ⟨by (with_reducible repeat (first | refine blk_drewN ?_ _ | refine blk_drew ?_ | refine blk_alloc ?_ _)); exact BK299.out⟩, ⟨by (with_reducible repeat (first | refine blk_drewN ?_ _ | refine blk_drew ?_ | refine blk_alloc ?_ _)); exact BK312.out⟩, ⟨by (with_reducible repeat (first | refine blk_drewN ?_ _ | refine blk_drew ?_ | refine blk_alloc ?_ _)); exact BK317.out⟩, ⟨by repeat (first | (with_reducible first | exact HB.out | apply below_alloc | apply pw_below_drewN | apply below_drew1 | refine below_set ?_ GE299.out | refine below_set ?_ GE312.out | refine below_set ?_ GE317.out) | exact HB.out)⟩⟩
           case round =>
            clear H'
            try clear c1
            try clear c2
            try clear p2
            try clear c3
            try clear c4
            try clear c5
            try clear c6
            try clear p6
            try clear c7
            try clear c8
            try clear c9
            try clear c10
            try clear c11
            try clear c11b0
            try clear c11b1
            try clear c12
            try clear c12b0
            try clear c15
            try clear c15b0
            try clear c19
            try clear c19b0
            try clear c23
            try clear c25
            try clear c28
            try clear c30
            try clear c30b0
            try clear c31
            try clear c32
            try clear c42
            try clear c48
            try clear c49
            try clear c51
            try clear c51b0
            try clear c51b1
            try clear c52
            try clear c52b0
            try clear c52b1
            try clear c53
            try clear c53b0
            try clear c53b1
            try clear c54
            try clear c54b0
            try clear c54b1
            try clear c55
            try clear c55b0
            try clear c56
            try clear c57
            try clear c59
            try clear c63
            try clear c64
            try clear p64
            try clear c65
            try clear c67
            try clear c72
            try clear c73
            try clear c75
            try clear c81
            try clear c82
            try clear c84
            try clear c86
            try clear c87
            try clear c89
            try clear c91
            try clear c92
            try clear c93
            try clear hcz13_0
            try clear hcz13_1
            try clear hcz13_2
            try clear hcz13_3
            try clear hcz13_4
            try clear hcz16_0
            try clear hcz16_1
            try clear hcz16_2
            try clear hcz16_3
            try clear hcz16_4
            try clear hcz18_0
            try clear hcz18_1
            try clear hcz18_2
            try clear hcz18_3
            try clear hcz18_4
            try clear hcz20_0
            try clear hcz20_1
            try clear hcz20_2
            try clear hcz20_3
            try clear hcz20_4
            try clear hcz22_0
            try clear hcz22_1
            try clear hcz22_2
            try clear hcz22_3
            try clear hcz22_4
            try clear hcz23_0
            try clear hcz23_1
            try clear hcz23_2
            try clear hcz23_3
            try clear hcz23_4
            try clear hcz25_0
            try clear hcz25_1
            try clear hcz25_2
            try clear hcz25_3
            try clear hcz25_4
            try clear hcz26_0
            try clear hcz26_1
            try clear hcz26_2
            try clear hcz26_3
            try clear hcz26_4
            try clear hcz29_0
            try clear hcz29_1
            try clear hcz29_2
            try clear hcz29_3
            try clear hcz29_4
            try clear hcz38_0
            try clear hcz38_1
            try clear hcz38_2
            try clear hcz38_3
            try clear hcz38_4
            try clear hcz43_0
            try clear hcz43_1
            try clear hcz44_0
            try clear hcz44_1
            try clear hcz44_2
            try clear hcz44_3
            try clear hcz44_4
            try clear hcz50_0
            try clear hcz50_1
            try clear hcz58_0
            try clear hcz58_1
            try clear hcz60_0
            try clear hcz60_1
            try clear hcz60_2
            try clear hcz60_3
            try clear hcz60_4
            try clear hcz61_0
            try clear hcz61_1
            try clear hcz66_0
            try clear hcz66_1
            try clear hcz68_0
            try clear hcz68_1
            try clear hcz68_2
            try clear hcz68_3
            try clear hcz68_4
            try clear hcz69_0
            try clear hcz69_1
            try clear hcz74_0
            try clear hcz74_1
            try clear hcz76_0
            try clear hcz76_1
            try clear hcz76_2
            try clear hcz76_3
            try clear hcz76_4
            try clear hcz77_0
            try clear hcz77_1
            try clear hcz79_0
            try clear hcz79_1
            try clear hcz83_0
            try clear hcz83_1
            try clear hcz85_0
            try clear hcz85_1
            try clear hcz85_2
            try clear hcz85_3
            try clear hcz85_4
            try clear hcz88_0
            try clear hcz88_1
            try clear hcz90_0
            try clear hcz90_1
            try clear hcz90_2
            try clear hcz90_3
            try clear hcz90_4
            try clear hcz94_0
            try clear hcz94_1
            try clear hcz94_2
            try clear hcz94_3
            try clear hcz94_4
            try clear hfz13_0
            try clear hfz13_1
            try clear hfz13_2
            try clear hfz13_3
            try clear hfz13_4
            try clear hfz16_0
            try clear hfz16_1
            try clear hfz16_2
            try clear hfz16_3
            try clear hfz16_4
            try clear hfz18_0
            try clear hfz18_1
            try clear hfz18_2
            try clear hfz18_3
            try clear hfz18_4
            try clear hfz20_0
            try clear hfz20_1
            try clear hfz20_2
            try clear hfz20_3
            try clear hfz20_4
            try clear hfz22_0
            try clear hfz22_1
            try clear hfz22_2
            try clear hfz22_3
            try clear hfz22_4
            try clear hfz23_0
            try clear hfz23_1
            try clear hfz23_2
            try clear hfz23_3
            try clear hfz23_4
            try clear hfz25_0
            try clear hfz25_1
            try clear hfz25_2
            try clear hfz25_3
            try clear hfz25_4
            try clear hfz26_0
            try clear hfz26_1
            try clear hfz26_2
            try clear hfz26_3
            try clear hfz26_4
            try clear hfz29_0
            try clear hfz29_1
            try clear hfz29_2
            try clear hfz29_3
            try clear hfz29_4
            try clear hfz38_0
            try clear hfz38_1
            try clear hfz38_2
            try clear hfz38_3
            try clear hfz38_4
            try clear hfz43_0
            try clear hfz43_1
            try clear hfz44_0
            try clear hfz44_1
            try clear hfz44_2
            try clear hfz44_3
            try clear hfz44_4
            try clear hfz50_0
            try clear hfz50_1
            try clear hfz58_0
            try clear hfz58_1
            try clear hfz60_0
            try clear hfz60_1
            try clear hfz60_2
            try clear hfz60_3
            try clear hfz60_4
            try clear hfz61_0
            try clear hfz61_1
            try clear hfz66_0
            try clear hfz66_1
            try clear hfz68_0
            try clear hfz68_1
            try clear hfz68_2
            try clear hfz68_3
            try clear hfz68_4
            try clear hfz69_0
            try clear hfz69_1
            try clear hfz74_0
            try clear hfz74_1
            try clear hfz76_0
            try clear hfz76_1
            try clear hfz76_2
            try clear hfz76_3
            try clear hfz76_4
            try clear hfz77_0
            try clear hfz77_1
            try clear hfz79_0
            try clear hfz79_1
            try clear hfz83_0
            try clear hfz83_1
            try clear hfz85_0
            try clear hfz85_1
            try clear hfz85_2
            try clear hfz85_3
            try clear hfz85_4
            try clear hfz88_0
            try clear hfz88_1
            try clear hfz90_0
            try clear hfz90_1
            try clear hfz90_2
            try clear hfz90_3
            try clear hfz90_4
            try clear hfz94_0
            try clear hfz94_1
            try clear hfz94_2
            try clear hfz94_3
            try clear hfz94_4
            try clear p2
            try clear p6
            try clear p64
            obtain ⟨x109_4, rfl, HA, HK4, BK299, BK312, BK317, HB⟩ := hrel
            cases gk with
            | zero => exact absurd HA.out (by simp [palletlaw10_MemberWhole.l1])
            | succ k4 =>
             have H := HA.out
             clear HA
             simp only [palletlaw10_MemberWhole.l1] at H
             by_cases c95 : x109_4 < a0_0
             ·rw [if_pos c95] at H
              have c95b0 : decide (x109_4 < a0_0) = true := decide_eq_true c95
              clear c95
              replace H := Option.bind_eq_some_iff.mp H
              obtain ⟨t320, A960, H⟩ := H
              replace H : (if t320 = true then ((frame_Has.f t313 x109_4).bind fun t321 => (if (t321 != (x109_4 == a1)) = true then (some false) else (palletlaw10_MemberWhole.l1 k4 a1 true t308 t313 a0_0 (wrap64 (x109_4 + 1))))) else (some false)) = some r := H
              have A96 := Aside0.mk A960
              clear A960
              by_cases c97 : t320 = true
              ·subst c97
               have H1 : ((frame_Has.f t313 x109_4).bind fun t321 => (if (t321 != (x109_4 == a1)) = true then (some false) else (palletlaw10_MemberWhole.l1 k4 a1 true t308 t313 a0_0 (wrap64 (x109_4 + 1))))) = some r := by rw [if_pos rfl] at H; exact H
               clear H
               have H := H1
               clear H1
               replace H := Option.bind_eq_some_iff.mp H
               obtain ⟨t321, A980, H⟩ := H
               replace H : (if (t321 != (x109_4 == a1)) = true then (some false) else (palletlaw10_MemberWhole.l1 k4 a1 true t308 t313 a0_0 (wrap64 (x109_4 + 1)))) = some r := H
               have A98 := Aside0.mk A980
               clear A980
               by_cases c99 : (t321 != (x109_4 == a1)) = true
               ·rw [if_pos c99] at H
                have c99b0 : (t321 != (x109_4 == a1)) = true := c99
                (try (have c99b1 : decide (t321 = (x109_4 == a1)) = false := by simpa using c99))
                (try (have c99b2 : (t321 == (x109_4 == a1)) = false := by simpa using c99))
                (try (have c99b3 : ¬ (t321 = (x109_4 == a1)) := by simpa using c99))
                clear c99
                obtain rfl := Option.some.inj H
                exact absurd hr_.out (by decide)
               ·rw [if_neg c99] at H
                have c99b0 : (t321 != (x109_4 == a1)) = false := by simpa using c99
                (try (have c99b1 : decide (t321 = (x109_4 == a1)) = true := by simpa using c99))
                (try (have c99b2 : (t321 == (x109_4 == a1)) = true := by simpa using c99))
                clear c99
                have H' := Aside0.mk H
                clear H
                go_wp2_with (first | ((with_reducible refine gate_callee (f := 15) rfl ?_); refine goesL_ (some 114) rfl rfl Try.func15 (by kernel_rfl) rfl #[.int .u16 t308, .int .i64 x109_4] rfl (by (try simp only [List.map_toArray, List.map_cons, List.map_nil]); first | done | rfl | (simp only [List.length_drop, List.length_take]; rfl)) ?_; (with_reducible refine (frame_Has.calls t308 x109_4 true _ A96.out).mono ?_); rintro e w' ⟨rfl, ⟨nd, rfl⟩⟩; refine ⟨_, rfl, ?_⟩) | (go_at_call 15; (with_reducible refine (frame_Has.calls t313 x109_4 t321 _ A98.out).mono ?_); rintro e w' ⟨rfl, ⟨nd, rfl⟩⟩))
                go_roundg k4
                case measure => have := HJ6.out; have := HK2.out; have := HJ36.out; have := HK4.out; omega
                case rel => exact ⟨(wrap64 (x109_4 + 1)), (by first | rfl | (simp; done) | (simp [*]; done)), H', ⟨by have := HJ6.out; have := HK2.out; have := HJ36.out; have := HK4.out; omega⟩, ⟨by (with_reducible repeat (first | refine blk_drewN ?_ _ | refine blk_drew ?_ | refine blk_alloc ?_ _)); exact BK299.out⟩, ⟨by (with_reducible repeat (first | refine blk_drewN ?_ _ | refine blk_drew ?_ | refine blk_alloc ?_ _)); exact BK312.out⟩, ⟨by (with_reducible repeat (first | refine blk_drewN ?_ _ | refine blk_drew ?_ | refine blk_alloc ?_ _)); exact BK317.out⟩, ⟨by repeat (first | (with_reducible first | exact HB.out | apply below_alloc | apply pw_below_drewN | apply below_drew1 | refine below_set ?_ GE299.out | refine below_set ?_ GE312.out | refine below_set ?_ GE317.out) | exact HB.out)⟩⟩
              ·replace c97 := Bool.eq_false_iff.mpr c97
               subst c97
               have H1 : (some false) = some r := by rw [if_neg (show ¬ (false = true) by decide)] at H; exact H
               clear H
               have H := H1
               clear H1
               obtain rfl := Option.some.inj H
               exact absurd hr_.out (by decide)
             ·rw [if_neg c95] at H
              have c95b0 : decide (x109_4 < a0_0) = false := decide_eq_false c95
              clear c95
              obtain rfl := Option.some.inj H
              go_wp2
              go_ret
              exact ⟨by first | rfl | (simp [errW_none, errW_some] <;> rfl) | (simp [*, errW_none, errW_some] <;> rfl), by repeat (first | (with_reducible first | exact HB.out | apply below_alloc | apply pw_below_drewN | apply below_drew1 | refine below_set ?_ GE299.out | refine below_set ?_ GE312.out | refine below_set ?_ GE317.out) | exact HB.out)⟩
 ·replace c6 := Bool.eq_false_iff.mpr c6
  subst c6
  have H1 : (some false) = some r := by rw [if_neg (show ¬ (false = true) by decide)] at H; exact H
  clear H
  have H := H1
  clear H1
  obtain rfl := Option.some.inj H
  exact absurd hr_.out (by decide)

end Go.Proofs.Ytcanccdhedmdmaa.Print
