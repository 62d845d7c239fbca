-- PRINTED by print.py (a twelfth state) out of the translation. Not trusted: Lean checks it.
import Derived.Test.YtcanccdhedmdmaaPrint0
import Derived.Test.YtcanccdhedmdmaaPrint2
import Derived.Test.YtcanccdhedmdmaaPrint4
import Derived.Test.YtcanccdhedmdmaaPrint5
import Derived.Test.YtcanccdhedmdmaaPrint6
import Derived.Test.YtcanccdhedmdmaaPrint9
namespace Go.Proofs.Ytcanccdhedmdmaa.Print
open Go.RowKit Go.Proofs.YtcanccdhedmdmaaW.PrintWords Go.Proofs.YtcanccdhedmdmaaW.PrintLast Go.Proofs.YtcanccdhedmdmaaW.PrintMore Go.Proofs.YtcanccdhedmdmaaX
attribute [local go_sem] max2_int min2_int max_two min_two max_three min_three max_four min_four   -- for this text's walks alone
set_option linter.unusedVariables false
set_option linter.unusedSimpArgs false

/-! ### palletlaw10_MemberAlike: function 4 -/
mutual
def palletlaw10_MemberAlike.j0 : Nat → Int → Int → Int → Int → Bool → Int → Int → Int → Bool → Int → Int → Int → Int → Int → Int → Int → Int → Int → Option (Bool)
 | 0, _, _, _, _, _, _, _, _, _, _, _, _, _, _, _, _, _, _ => none
 | k + 1, x1, x2, x3, x4, x13, x14, x16, x18, x59, x159000, x159001, x159002, x159003, x159004, x160000, x160001, x160002, x160003 => if x59 = true then (some x13) else (if x16 = 2 then (palletlaw10_MemberAlike.j1 k x1 x2 x3 x4 x13 x14 x16 x18 true x159000 x159001 x159002 x159003 x159004 x160000 x160001 x160002 x160003) else (palletlaw10_MemberAlike.j1 k x1 x2 x3 x4 x13 x14 x16 x18 (x18 == 2) x159000 x159001 x159002 x159003 x159004 x160000 x160001 x160002 x160003))
def palletlaw10_MemberAlike.j1 : Nat → Int → Int → Int → Int → Bool → Int → Int → Int → Bool → Int → Int → Int → Int → Int → Int → Int → Int → Int → Option (Bool)
 | 0, _, _, _, _, _, _, _, _, _, _, _, _, _, _, _, _, _, _ => none
 | k + 1, x1, x2, x3, x4, x13, x14, x16, x18, x66, x159000, x159001, x159002, x159003, x159004, x160000, x160001, x160002, x160003 => if x66 = true then (if x13 = true then (if x16 = 2 then ((frame_Has.f x3 x1).bind fun t167 => (if t167 = true then ((frame_Has.f x160003 x1).bind fun t168 => (some (!t168))) else (some false))) else (some true)) else (some false)) else ((member_After.f x159000 x159001 x159002 x159003 x159004 x1 x3 x4 x16).bind fun bt169 => ((member_After.f x159000 x159001 x159002 x159003 x159004 x2 x3 x4 x18).bind fun bt171 => (if x1 = x14 then (if x13 = true then (if bt169.2 = 0 then (if bt171.2 = 0 then (some (x16 == x18)) else (some false)) else (some false)) else (some false)) else (if x2 = x14 then (if x13 = true then (if bt169.2 = 0 then (if bt171.2 = 0 then (some (x16 == x18)) else (some false)) else (some false)) else (some false)) else (if x13 = true then (if bt169.2 = 0 then (if bt171.2 = 0 then (if x16 = x18 then (some (bt169.1 == bt171.1)) else (some false)) else (some false)) else (some false)) else (some false))))))
end
def palletlaw10_MemberAlike.f (k : Nat) (a0_0 : Int) (a0_1 : Int) (a0_2 : Int) (a0_3 : Int) (a0_4 : Int) (a1 : Int) (a2 : Int) (a3 : Int) (a4 : Int) (a5_0 : Int) (a5_1 : Int) (a5_2 : Int) (a5_3 : Int) : Option (Bool) := (palletlaw10_live.f k).bind fun t160 => (if t160 = true then ((medl_Owner.f a0_0 a0_1 a0_2 a0_3 a0_4 a4).bind fun bt161 => (if bt161.2 = 0 then ((member_Judge.f k a0_0 a0_1 a0_2 a0_3 a0_4 a1 a3 a4 a5_0 a5_1 a5_2 a5_3).bind fun bt163 => ((member_Judge.f k a0_0 a0_1 a0_2 a0_3 a0_4 a2 a3 a4 a5_0 a5_1 a5_2 a5_3).bind fun bt165 => (if bt163.2 = 0 then (palletlaw10_MemberAlike.j0 k a1 a2 a3 a4 t160 bt161.1 bt163.1 bt165.1 (bt165.2 != 0) a0_0 a0_1 a0_2 a0_3 a0_4 a5_0 a5_1 a5_2 a5_3) else (palletlaw10_MemberAlike.j0 k a1 a2 a3 a4 t160 bt161.1 bt163.1 bt165.1 true a0_0 a0_1 a0_2 a0_3 a0_4 a5_0 a5_1 a5_2 a5_3)))) else (some t160))) else (some false))
theorem palletlaw10_MemberAlike.mono_l : ∀ k, (∀ y0 y1 y2 y3 y4 y5 y6 y7 y8 y9 y10 y11 y12 y13 y14 y15 y16 y17, LeO (palletlaw10_MemberAlike.j0 k y0 y1 y2 y3 y4 y5 y6 y7 y8 y9 y10 y11 y12 y13 y14 y15 y16 y17) (palletlaw10_MemberAlike.j0 (k + 1) y0 y1 y2 y3 y4 y5 y6 y7 y8 y9 y10 y11 y12 y13 y14 y15 y16 y17)) ∧ (∀ y0 y1 y2 y3 y4 y5 y6 y7 y8 y9 y10 y11 y12 y13 y14 y15 y16 y17, LeO (palletlaw10_MemberAlike.j1 k y0 y1 y2 y3 y4 y5 y6 y7 y8 y9 y10 y11 y12 y13 y14 y15 y16 y17) (palletlaw10_MemberAlike.j1 (k + 1) y0 y1 y2 y3 y4 y5 y6 y7 y8 y9 y10 y11 y12 y13 y14 y15 y16 y17))
 | 0 => ⟨fun _ _ _ _ _ _ _ _ _ _ _ _ _ _ _ _ _ _ r h => by simp [palletlaw10_MemberAlike.j0] at h, fun _ _ _ _ _ _ _ _ _ _ _ _ _ _ _ _ _ _ r h => by simp [palletlaw10_MemberAlike.j1] at h⟩
 | k + 1 => by
  obtain ⟨ih0, ih1⟩ := palletlaw10_MemberAlike.mono_l k
  refine ⟨?_, ?_⟩
  ·intro y0 y1 y2 y3 y4 y5 y6 y7 y8 y9 y10 y11 y12 y13 y14 y15 y16 y17
   unfold palletlaw10_MemberAlike.j0
   repeat' first
   | (with_reducible exact ih0 _ _ _ _ _ _ _ _ _ _ _ _ _ _ _ _ _ _)
   | (with_reducible exact ih1 _ _ _ _ _ _ _ _ _ _ _ _ _ _ _ _ _ _)
   | (with_reducible exact member_Judge.mono _ _ _ _ _ _ _ _ _ _ _ _ _)
   | (with_reducible exact palletlaw10_live.mono _)
   | (with_reducible exact LeO.refl _)
   | (with_reducible exact LeO.none _)
   | (with_reducible refine LeO.ite ?_ ?_)
   | (with_reducible refine LeO.bind ?_ (fun _ => ?_))
   | exact ih0 _ _ _ _ _ _ _ _ _ _ _ _ _ _ _ _ _ _
   | exact ih1 _ _ _ _ _ _ _ _ _ _ _ _ _ _ _ _ _ _
   | exact member_Judge.mono _ _ _ _ _ _ _ _ _ _ _ _ _
   | exact palletlaw10_live.mono _
   | exact LeO.none _
   | refine LeO.ite ?_ ?_
   | refine LeO.bind ?_ (fun _ => ?_)
  ·intro y0 y1 y2 y3 y4 y5 y6 y7 y8 y9 y10 y11 y12 y13 y14 y15 y16 y17
   unfold palletlaw10_MemberAlike.j1
   repeat' first
   | (with_reducible exact ih0 _ _ _ _ _ _ _ _ _ _ _ _ _ _ _ _ _ _)
   | (with_reducible exact ih1 _ _ _ _ _ _ _ _ _ _ _ _ _ _ _ _ _ _)
   | (with_reducible exact member_Judge.mono _ _ _ _ _ _ _ _ _ _ _ _ _)
   | (with_reducible exact palletlaw10_live.mono _)
   | (with_reducible exact LeO.refl _)
   | (with_reducible exact LeO.none _)
   | (with_reducible refine LeO.ite ?_ ?_)
   | (with_reducible refine LeO.bind ?_ (fun _ => ?_))
   | exact ih0 _ _ _ _ _ _ _ _ _ _ _ _ _ _ _ _ _ _
   | exact ih1 _ _ _ _ _ _ _ _ _ _ _ _ _ _ _ _ _ _
   | exact member_Judge.mono _ _ _ _ _ _ _ _ _ _ _ _ _
   | exact palletlaw10_live.mono _
   | exact LeO.none _
   | refine LeO.ite ?_ ?_
   | refine LeO.bind ?_ (fun _ => ?_)
theorem palletlaw10_MemberAlike.mono : ∀ a0 a1 a2 a3 a4 a5 a6 a7 a8 a9 a10 a11 a12 k, LeO (palletlaw10_MemberAlike.f k a0 a1 a2 a3 a4 a5 a6 a7 a8 a9 a10 a11 a12) (palletlaw10_MemberAlike.f (k + 1) a0 a1 a2 a3 a4 a5 a6 a7 a8 a9 a10 a11 a12) := by
 intro a0 a1 a2 a3 a4 a5 a6 a7 a8 a9 a10 a11 a12 k
 obtain ⟨ih0, ih1⟩ := palletlaw10_MemberAlike.mono_l k
 unfold palletlaw10_MemberAlike.f
 repeat' first
   | (with_reducible exact ih0 _ _ _ _ _ _ _ _ _ _ _ _ _ _ _ _ _ _)
   | (with_reducible exact ih1 _ _ _ _ _ _ _ _ _ _ _ _ _ _ _ _ _ _)
   | (with_reducible exact member_Judge.mono _ _ _ _ _ _ _ _ _ _ _ _ _)
   | (with_reducible exact palletlaw10_live.mono _)
   | (with_reducible exact LeO.refl _)
   | (with_reducible exact LeO.none _)
   | (with_reducible refine LeO.ite ?_ ?_)
   | (with_reducible refine LeO.bind ?_ (fun _ => ?_))
   | exact ih0 _ _ _ _ _ _ _ _ _ _ _ _ _ _ _ _ _ _
   | exact ih1 _ _ _ _ _ _ _ _ _ _ _ _ _ _ _ _ _ _
   | exact member_Judge.mono _ _ _ _ _ _ _ _ _ _ _ _ _
   | exact palletlaw10_live.mono _
   | exact LeO.none _
   | refine LeO.ite ?_ ?_
   | refine LeO.bind ?_ (fun _ => ?_)
set_option maxHeartbeats 8000000 in
set_option maxRecDepth 100000 in
theorem palletlaw10_MemberAlike.calls (k : Nat) (a0_0 : Int) (a0_1 : Int) (a0_2 : Int) (a0_3 : Int) (a0_4 : Int) (a1 : Int) (a2 : Int) (a3 : Int) (a4 : Int) (a5_0 : Int) (a5_1 : Int) (a5_2 : Int) (a5_3 : Int) (r : Bool) (w : World) (hr_ : Aside0 (r = true)) (h : palletlaw10_MemberAlike.f k a0_0 a0_1 a0_2 a0_3 a0_4 a1 a2 a3 a4 a5_0 a5_1 a5_2 a5_3 = some r) :
  Calls Try.prog 4 #[.agg #[.int .i64 a0_0, .int .i64 a0_1, .int .i64 a0_2, .int .i64 a0_3, .int .i64 a0_4], .int .i64 a1, .int .i64 a2, .int .u16 a3, .int .u64 a4, .agg #[.int .i64 a5_0, .int .i64 a5_1, .int .u64 a5_2, .int .u16 a5_3]] w fun e w' => e = .returned (.bool r) ∧ Below w.heap.size w w' := by
 have hu32 := Try.underlying32
 have hu36 := Try.underlying36
 have HB := Aside0.mk (Below.refl w.heap.size w)
 have H : ((palletlaw10_live.f k).bind fun t160 => (if t160 = true then ((medl_Owner.f a0_0 a0_1 a0_2 a0_3 a0_4 a4).bind fun bt161 => (if bt161.2 = 0 then ((member_Judge.f k a0_0 a0_1 a0_2 a0_3 a0_4 a1 a3 a4 a5_0 a5_1 a5_2 a5_3).bind fun bt163 => ((member_Judge.f k a0_0 a0_1 a0_2 a0_3 a0_4 a2 a3 a4 a5_0 a5_1 a5_2 a5_3).bind fun bt165 => (if bt163.2 = 0 then (palletlaw10_MemberAlike.j0 k a1 a2 a3 a4 t160 bt161.1 bt163.1 bt165.1 (bt165.2 != 0) a0_0 a0_1 a0_2 a0_3 a0_4 a5_0 a5_1 a5_2 a5_3) else (palletlaw10_MemberAlike.j0 k a1 a2 a3 a4 t160 bt161.1 bt163.1 bt165.1 true a0_0 a0_1 a0_2 a0_3 a0_4 a5_0 a5_1 a5_2 a5_3)))) else (some t160))) else (some false))) = some r := h
 clear h
 replace H := Option.bind_eq_some_iff.mp H
 obtain ⟨t160, A70, H⟩ := H
 replace H : (if t160 = true then ((medl_Owner.f a0_0 a0_1 a0_2 a0_3 a0_4 a4).bind fun bt161 => (if bt161.2 = 0 then ((member_Judge.f k a0_0 a0_1 a0_2 a0_3 a0_4 a1 a3 a4 a5_0 a5_1 a5_2 a5_3).bind fun bt163 => ((member_Judge.f k a0_0 a0_1 a0_2 a0_3 a0_4 a2 a3 a4 a5_0 a5_1 a5_2 a5_3).bind fun bt165 => (if bt163.2 = 0 then (palletlaw10_MemberAlike.j0 k a1 a2 a3 a4 t160 bt161.1 bt163.1 bt165.1 (bt165.2 != 0) a0_0 a0_1 a0_2 a0_3 a0_4 a5_0 a5_1 a5_2 a5_3) else (palletlaw10_MemberAlike.j0 k a1 a2 a3 a4 t160 bt161.1 bt163.1 bt165.1 true a0_0 a0_1 a0_2 a0_3 a0_4 a5_0 a5_1 a5_2 a5_3)))) else (some t160))) else (some false)) = some r := H
 have A7 := Aside0.mk A70
 clear A70
 by_cases c8 : t160 = true
 ·subst c8
  have H1 : ((medl_Owner.f a0_0 a0_1 a0_2 a0_3 a0_4 a4).bind fun bt161 => (if bt161.2 = 0 then ((member_Judge.f k a0_0 a0_1 a0_2 a0_3 a0_4 a1 a3 a4 a5_0 a5_1 a5_2 a5_3).bind fun bt163 => ((member_Judge.f k a0_0 a0_1 a0_2 a0_3 a0_4 a2 a3 a4 a5_0 a5_1 a5_2 a5_3).bind fun bt165 => (if bt163.2 = 0 then (palletlaw10_MemberAlike.j0 k a1 a2 a3 a4 true bt161.1 bt163.1 bt165.1 (bt165.2 != 0) a0_0 a0_1 a0_2 a0_3 a0_4 a5_0 a5_1 a5_2 a5_3) else (palletlaw10_MemberAlike.j0 k a1 a2 a3 a4 true bt161.1 bt163.1 bt165.1 true a0_0 a0_1 a0_2 a0_3 a0_4 a5_0 a5_1 a5_2 a5_3)))) else (some true))) = some r := by rw [if_pos rfl] at H; exact H
  clear H
  have H := H1
  clear H1
  replace H := Option.bind_eq_some_iff.mp H
  obtain ⟨⟨t161, t162⟩, A90, H⟩ := H
  replace H : (if t162 = 0 then ((member_Judge.f k a0_0 a0_1 a0_2 a0_3 a0_4 a1 a3 a4 a5_0 a5_1 a5_2 a5_3).bind fun bt163 => ((member_Judge.f k a0_0 a0_1 a0_2 a0_3 a0_4 a2 a3 a4 a5_0 a5_1 a5_2 a5_3).bind fun bt165 => (if bt163.2 = 0 then (palletlaw10_MemberAlike.j0 k a1 a2 a3 a4 true t161 bt163.1 bt165.1 (bt165.2 != 0) a0_0 a0_1 a0_2 a0_3 a0_4 a5_0 a5_1 a5_2 a5_3) else (palletlaw10_MemberAlike.j0 k a1 a2 a3 a4 true t161 bt163.1 bt165.1 true a0_0 a0_1 a0_2 a0_3 a0_4 a5_0 a5_1 a5_2 a5_3)))) else (some true)) = some r := H
  have A9 := Aside0.mk A90
  clear A90
  by_cases c10 : t162 = 0
  ·rw [if_pos c10] at H
   have c10b0 : (t162 == 0) = true := beq_iff_eq.mpr c10
   have c10b1 : (t162 != 0) = false := bne_eq_false_iff_eq.mpr c10
   clear c10
   replace H := Option.bind_eq_some_iff.mp H
   obtain ⟨⟨t163, t164⟩, A110, H⟩ := H
   replace H : ((member_Judge.f k a0_0 a0_1 a0_2 a0_3 a0_4 a2 a3 a4 a5_0 a5_1 a5_2 a5_3).bind fun bt165 => (if t164 = 0 then (palletlaw10_MemberAlike.j0 k a1 a2 a3 a4 true t161 t163 bt165.1 (bt165.2 != 0) a0_0 a0_1 a0_2 a0_3 a0_4 a5_0 a5_1 a5_2 a5_3) else (palletlaw10_MemberAlike.j0 k a1 a2 a3 a4 true t161 t163 bt165.1 true a0_0 a0_1 a0_2 a0_3 a0_4 a5_0 a5_1 a5_2 a5_3))) = some r := H
   have A11 := Aside0.mk A110
   clear A110
   replace H := Option.bind_eq_some_iff.mp H
   obtain ⟨⟨t165, t166⟩, A120, H⟩ := H
   replace H : (if t164 = 0 then (palletlaw10_MemberAlike.j0 k a1 a2 a3 a4 true t161 t163 t165 (t166 != 0) a0_0 a0_1 a0_2 a0_3 a0_4 a5_0 a5_1 a5_2 a5_3) else (palletlaw10_MemberAlike.j0 k a1 a2 a3 a4 true t161 t163 t165 true a0_0 a0_1 a0_2 a0_3 a0_4 a5_0 a5_1 a5_2 a5_3)) = some r := H
   have A12 := Aside0.mk A120
   clear A120
   have HC13 := Aside0.mk H
   clear H
   go_enter Try.func4, Try.ntmps4
   go_upto_region 9 with (first | ((with_reducible refine gate_dst (N := 6) rfl ?_); refine box_event ?hg (N := 6) ?hd (cs := #[.int .i64 a0_0, .int .i64 a0_1, .int .i64 a0_2, .int .i64 a0_3, .int .i64 a0_4]) (t := 32) ?hr ?_; (case hd => rfl); (case hg => rfl); (case hr => first | (go_simp; done) | (go_simp; rfl)); intro gb158 hg w14 hbox hb; have n0_ := Aside0.mk (below_step (by repeat (first | (with_reducible first | exact HB.out | apply below_alloc | apply pw_below_drewN | apply below_drew1) | exact HB.out)) hb); have n1_ := Aside0.mk (hbox); have n2_ := Aside0.mk ((by rw [hg]; exact (below_size (by repeat (first | (with_reducible first | exact HB.out | apply below_alloc | apply pw_below_drewN | apply below_drew1) | exact HB.out))) : w.heap.size ≤ gb158)); have n3_ := Aside0.mk ((by rw [hg]; exact (below_size (by repeat (first | (with_reducible first | exact HB.out | apply below_alloc | apply pw_below_drewN | apply below_drew1) | exact HB.out))) : w.heap.size ≤ gb158)); clear HB; have HB := n0_; have BK158 := n1_; have GW158 := n2_; have GE158 := n3_; clear n0_ n1_ n2_ n3_; clear hb hbox hg) | ((with_reducible refine gate_dst (N := 11) rfl ?_); refine box_event ?hg (N := 11) ?hd (cs := #[.int .i64 a5_0, .int .i64 a5_1, .int .u64 a5_2, .int .u16 a5_3]) (t := 36) ?hr ?_; (case hd => rfl); (case hg => rfl); (case hr => first | (go_simp; done) | (go_simp; rfl)); intro gb159 hg w15 hbox hb; have n0_ := Aside0.mk (blk_below (g := gb158) (o := .cells #[.int .i64 a0_0, .int .i64 a0_1, .int .i64 a0_2, .int .i64 a0_3, .int .i64 a0_4] 32 (0, 0)) (by (with_reducible repeat (first | refine blk_drewN ?_ _ | refine blk_drew ?_ | refine blk_alloc ?_ _)); exact BK158.out) hb); have n1_ := Aside0.mk (below_step (by repeat (first | (with_reducible first | exact HB.out | apply below_alloc | apply pw_below_drewN | apply below_drew1 | refine below_set ?_ GE158.out) | exact HB.out)) hb); have n2_ := Aside0.mk (hbox); have n3_ := Aside0.mk ((by rw [hg]; exact (below_size (by repeat (first | (with_reducible first | exact HB.out | apply below_alloc | apply pw_below_drewN | apply below_drew1 | refine below_set ?_ GE158.out) | exact HB.out))) : w.heap.size ≤ gb159)); have n4_ := Aside0.mk ((by rw [hg]; exact (below_size (by repeat (first | (with_reducible first | exact HB.out | apply below_alloc | apply pw_below_drewN | apply below_drew1 | refine below_set ?_ GE158.out) | exact HB.out))) : w.heap.size ≤ gb159)); have n5_ := Aside0.mk ((by rw [hg]; exact Nat.ne_of_lt (blk_lt (g := gb158) (o := .cells #[.int .i64 a0_0, .int .i64 a0_1, .int .i64 a0_2, .int .i64 a0_3, .int .i64 a0_4] 32 (0, 0)) (by (with_reducible repeat (first | refine blk_drewN ?_ _ | refine blk_drew ?_ | refine blk_alloc ?_ _)); exact BK158.out)) : gb158 ≠ gb159)); have n6_ := Aside0.mk ((by rw [hg]; exact Nat.ne_of_gt (blk_lt (g := gb158) (o := .cells #[.int .i64 a0_0, .int .i64 a0_1, .int .i64 a0_2, .int .i64 a0_3, .int .i64 a0_4] 32 (0, 0)) (by (with_reducible repeat (first | refine blk_drewN ?_ _ | refine blk_drew ?_ | refine blk_alloc ?_ _)); exact BK158.out)) : gb159 ≠ gb158)); clear BK158; clear HB; have BK158 := n0_; have HB := n1_; have BK159 := n2_; have GW159 := n3_; have GE159 := n4_; have NB158_159 := n5_; have NB159_158 := n6_; clear n0_ n1_ n2_ n3_ n4_ n5_ n6_; clear hb hbox hg) | ((with_reducible refine gate_callee (f := 10) rfl ?_); refine goesL_ (some 24) rfl rfl Try.func10 (by kernel_rfl) rfl #[] rfl (by (try simp only [List.map_toArray, List.map_cons, List.map_nil]); first | done | rfl | (simp only [List.length_drop, List.length_take]; rfl)) ?_; (with_reducible refine (palletlaw10_live.calls k  true _ A7.out).mono ?_); rintro e w16 ⟨rfl, hb⟩; refine ⟨_, rfl, ?_⟩; have n0_ := Aside0.mk (blk_below (g := gb158) (o := .cells #[.int .i64 a0_0, .int .i64 a0_1, .int .i64 a0_2, .int .i64 a0_3, .int .i64 a0_4] 32 (0, 0)) (by (with_reducible repeat (first | refine blk_drewN ?_ _ | refine blk_drew ?_ | refine blk_alloc ?_ _)); exact BK158.out) hb); have n1_ := Aside0.mk (blk_below (g := gb159) (o := .cells #[.int .i64 a5_0, .int .i64 a5_1, .int .u64 a5_2, .int .u16 a5_3] 36 (0, 0)) (by (with_reducible repeat (first | refine blk_drewN ?_ _ | refine blk_drew ?_ | refine blk_alloc ?_ _)); exact BK159.out) hb); have n2_ := Aside0.mk (below_step (by repeat (first | (with_reducible first | exact HB.out | apply below_alloc | apply pw_below_drewN | apply below_drew1 | refine below_set ?_ GE158.out | refine below_set ?_ GE159.out) | exact HB.out)) hb); clear BK158; clear BK159; clear HB; have BK158 := n0_; have BK159 := n1_; have HB := n2_; clear n0_ n1_ n2_; (try clear hb); (try clear hb2); (try clear hk); (try clear hi); have hnb17 := NB158_159.out; have hnc17 := NB159_158.out; have hcz18_0 : w16.cell? ⟨gb158, 0, none⟩ = some (.int .i64 a0_0) := (blk_cell BK158.out 0).trans rfl; have hcz18_1 : w16.cell? ⟨gb158, 1, none⟩ = some (.int .i64 a0_1) := (blk_cell BK158.out 1).trans rfl; have hcz18_2 : w16.cell? ⟨gb158, 2, none⟩ = some (.int .i64 a0_2) := (blk_cell BK158.out 2).trans rfl; have hcz18_3 : w16.cell? ⟨gb158, 3, none⟩ = some (.int .i64 a0_3) := (blk_cell BK158.out 3).trans rfl; have hcz18_4 : w16.cell? ⟨gb158, 4, none⟩ = some (.int .i64 a0_4) := (blk_cell BK158.out 4).trans rfl; have hfz18_0 := blk_frozen BK158.out 0; have hfz18_1 := blk_frozen BK158.out 1; have hfz18_2 := blk_frozen BK158.out 2; have hfz18_3 := blk_frozen BK158.out 3; have hfz18_4 := blk_frozen BK158.out 4) | ((with_reducible refine gate_callee (f := 13) rfl ?_); refine goesL_ (some 30) rfl rfl Try.func13 (by kernel_rfl) rfl #[.agg #[.int .i64 a0_0, .int .i64 a0_1, .int .i64 a0_2, .int .i64 a0_3, .int .i64 a0_4], .int .u64 a4] rfl (by (try simp only [List.map_toArray, List.map_cons, List.map_nil]); first | done | rfl | (simp only [List.length_drop, List.length_take]; rfl)) ?_; (with_reducible refine (medl_Owner.calls a0_0 a0_1 a0_2 a0_3 a0_4 a4 t161 t162 _ A9.out).mono ?_); rintro e w19 ⟨rfl, hb⟩; refine ⟨_, rfl, ?_⟩; have n0_ := Aside0.mk (blk_below (g := gb158) (o := .cells #[.int .i64 a0_0, .int .i64 a0_1, .int .i64 a0_2, .int .i64 a0_3, .int .i64 a0_4] 32 (0, 0)) (by (with_reducible repeat (first | refine blk_drewN ?_ _ | refine blk_drew ?_ | refine blk_alloc ?_ _)); exact BK158.out) hb); have n1_ := Aside0.mk (blk_below (g := gb159) (o := .cells #[.int .i64 a5_0, .int .i64 a5_1, .int .u64 a5_2, .int .u16 a5_3] 36 (0, 0)) (by (with_reducible repeat (first | refine blk_drewN ?_ _ | refine blk_drew ?_ | refine blk_alloc ?_ _)); exact BK159.out) hb); have n2_ := Aside0.mk (below_step (by repeat (first | (with_reducible first | exact HB.out | apply below_alloc | apply pw_below_drewN | apply below_drew1 | refine below_set ?_ GE158.out | refine below_set ?_ GE159.out) | exact HB.out)) hb); clear BK158; clear BK159; clear HB; have BK158 := n0_; have BK159 := n1_; have HB := n2_; clear n0_ n1_ n2_; (try clear hb); (try clear hb2); (try clear hk); (try clear hi); have hcz20_0 : w19.cell? ⟨gb158, 0, none⟩ = some (.int .i64 a0_0) := (blk_cell BK158.out 0).trans rfl; have hcz20_1 : w19.cell? ⟨gb158, 1, none⟩ = some (.int .i64 a0_1) := (blk_cell BK158.out 1).trans rfl; have hcz20_2 : w19.cell? ⟨gb158, 2, none⟩ = some (.int .i64 a0_2) := (blk_cell BK158.out 2).trans rfl; have hcz20_3 : w19.cell? ⟨gb158, 3, none⟩ = some (.int .i64 a0_3) := (blk_cell BK158.out 3).trans rfl; have hcz20_4 : w19.cell? ⟨gb158, 4, none⟩ = some (.int .i64 a0_4) := (blk_cell BK158.out 4).trans rfl; have hfz20_0 := blk_frozen BK158.out 0; have hfz20_1 := blk_frozen BK158.out 1; have hfz20_2 := blk_frozen BK158.out 2; have hfz20_3 := blk_frozen BK158.out 3; have hfz20_4 := blk_frozen BK158.out 4; have hcz21_0 : w19.cell? ⟨gb159, 0, none⟩ = some (.int .i64 a5_0) := (blk_cell BK159.out 0).trans rfl; have hcz21_1 : w19.cell? ⟨gb159, 1, none⟩ = some (.int .i64 a5_1) := (blk_cell BK159.out 1).trans rfl; have hcz21_2 : w19.cell? ⟨gb159, 2, none⟩ = some (.int .u64 a5_2) := (blk_cell BK159.out 2).trans rfl; have hcz21_3 : w19.cell? ⟨gb159, 3, none⟩ = some (.int .u16 a5_3) := (blk_cell BK159.out 3).trans rfl; have hfz21_0 := blk_frozen BK159.out 0; have hfz21_1 := blk_frozen BK159.out 1; have hfz21_2 := blk_frozen BK159.out 2; have hfz21_3 := blk_frozen BK159.out 3) | ((with_reducible refine gate_callee (f := 14) rfl ?_); refine goesL_ (some 42) rfl rfl Try.func14 (by kernel_rfl) rfl #[.agg #[.int .i64 a0_0, .int .i64 a0_1, .int .i64 a0_2, .int .i64 a0_3, .int .i64 a0_4], .int .i64 a1, .int .u16 a3, .int .u64 a4, .agg #[.int .i64 a5_0, .int .i64 a5_1, .int .u64 a5_2, .int .u16 a5_3]] rfl (by (try simp only [List.map_toArray, List.map_cons, List.map_nil]); first | done | rfl | (simp only [List.length_drop, List.length_take]; rfl)) ?_; (with_reducible refine (member_Judge.calls k a0_0 a0_1 a0_2 a0_3 a0_4 a1 a3 a4 a5_0 a5_1 a5_2 a5_3 t163 t164 _ A11.out).mono ?_); rintro e w22 ⟨rfl, hb⟩; refine ⟨_, rfl, ?_⟩; have n0_ := Aside0.mk (blk_below (g := gb158) (o := .cells #[.int .i64 a0_0, .int .i64 a0_1, .int .i64 a0_2, .int .i64 a0_3, .int .i64 a0_4] 32 (0, 0)) (by (with_reducible repeat (first | refine blk_drewN ?_ _ | refine blk_drew ?_ | refine blk_alloc ?_ _)); exact BK158.out) hb); have n1_ := Aside0.mk (blk_below (g := gb159) (o := .cells #[.int .i64 a5_0, .int .i64 a5_1, .int .u64 a5_2, .int .u16 a5_3] 36 (0, 0)) (by (with_reducible repeat (first | refine blk_drewN ?_ _ | refine blk_drew ?_ | refine blk_alloc ?_ _)); exact BK159.out) hb); have n2_ := Aside0.mk (below_step (by repeat (first | (with_reducible first | exact HB.out | apply below_alloc | apply pw_below_drewN | apply below_drew1 | refine below_set ?_ GE158.out | refine below_set ?_ GE159.out) | exact HB.out)) hb); clear BK158; clear BK159; clear HB; have BK158 := n0_; have BK159 := n1_; have HB := n2_; clear n0_ n1_ n2_; (try clear hb); (try clear hb2); (try clear hk); (try clear hi); have hcz23_0 : w22.cell? ⟨gb158, 0, none⟩ = some (.int .i64 a0_0) := (blk_cell BK158.out 0).trans rfl; have hcz23_1 : w22.cell? ⟨gb158, 1, none⟩ = some (.int .i64 a0_1) := (blk_cell BK158.out 1).trans rfl; have hcz23_2 : w22.cell? ⟨gb158, 2, none⟩ = some (.int .i64 a0_2) := (blk_cell BK158.out 2).trans rfl; have hcz23_3 : w22.cell? ⟨gb158, 3, none⟩ = some (.int .i64 a0_3) := (blk_cell BK158.out 3).trans rfl; have hcz23_4 : w22.cell? ⟨gb158, 4, none⟩ = some (.int .i64 a0_4) := (blk_cell BK158.out 4).trans rfl; have hfz23_0 := blk_frozen BK158.out 0; have hfz23_1 := blk_frozen BK158.out 1; have hfz23_2 := blk_frozen BK158.out 2; have hfz23_3 := blk_frozen BK158.out 3; have hfz23_4 := blk_frozen BK158.out 4; have hcz24_0 : w22.cell? ⟨gb159, 0, none⟩ = some (.int .i64 a5_0) := (blk_cell BK159.out 0).trans rfl; have hcz24_1 : w22.cell? ⟨gb159, 1, none⟩ = some (.int .i64 a5_1) := (blk_cell BK159.out 1).trans rfl; have hcz24_2 : w22.cell? ⟨gb159, 2, none⟩ = some (.int .u64 a5_2) := (blk_cell BK159.out 2).trans rfl; have hcz24_3 : w22.cell? ⟨gb159, 3, none⟩ = some (.int .u16 a5_3) := (blk_cell BK159.out 3).trans rfl; have hfz24_0 := blk_frozen BK159.out 0; have hfz24_1 := blk_frozen BK159.out 1; have hfz24_2 := blk_frozen BK159.out 2; have hfz24_3 := blk_frozen BK159.out 3) | ((with_reducible refine gate_callee (f := 14) rfl ?_); refine goesL_ (some 51) rfl rfl Try.func14 (by kernel_rfl) rfl #[.agg #[.int .i64 a0_0, .int .i64 a0_1, .int .i64 a0_2, .int .i64 a0_3, .int .i64 a0_4], .int .i64 a2, .int .u16 a3, .int .u64 a4, .agg #[.int .i64 a5_0, .int .i64 a5_1, .int .u64 a5_2, .int .u16 a5_3]] rfl (by (try simp only [List.map_toArray, List.map_cons, List.map_nil]); first | done | rfl | (simp only [List.length_drop, List.length_take]; rfl)) ?_; (with_reducible refine (member_Judge.calls k a0_0 a0_1 a0_2 a0_3 a0_4 a2 a3 a4 a5_0 a5_1 a5_2 a5_3 t165 t166 _ A12.out).mono ?_); rintro e w25 ⟨rfl, hb⟩; refine ⟨_, rfl, ?_⟩; have n0_ := Aside0.mk (blk_below (g := gb158) (o := .cells #[.int .i64 a0_0, .int .i64 a0_1, .int .i64 a0_2, .int .i64 a0_3, .int .i64 a0_4] 32 (0, 0)) (by (with_reducible repeat (first | refine blk_drewN ?_ _ | refine blk_drew ?_ | refine blk_alloc ?_ _)); exact BK158.out) hb); have n1_ := Aside0.mk (blk_below (g := gb159) (o := .cells #[.int .i64 a5_0, .int .i64 a5_1, .int .u64 a5_2, .int .u16 a5_3] 36 (0, 0)) (by (with_reducible repeat (first | refine blk_drewN ?_ _ | refine blk_drew ?_ | refine blk_alloc ?_ _)); exact BK159.out) hb); have n2_ := Aside0.mk (below_step (by repeat (first | (with_reducible first | exact HB.out | apply below_alloc | apply pw_below_drewN | apply below_drew1 | refine below_set ?_ GE158.out | refine below_set ?_ GE159.out) | exact HB.out)) hb); clear BK158; clear BK159; clear HB; have BK158 := n0_; have BK159 := n1_; have HB := n2_; clear n0_ n1_ n2_; (try clear hb); (try clear hb2); (try clear hk); (try clear hi)))
   (try simp only [Act.put, List.setIfInBounds_toArray, List.set_cons_zero, List.set_cons_succ])
   go_cut [59] (fun v59 wc => ∃ (kq : Nat) (x59_12 : Bool), v59 = .bool x59_12 ∧ Aside0 (palletlaw10_MemberAlike.j0 kq a1 a2 a3 a4 true t161 t163 t165 x59_12 a0_0 a0_1 a0_2 a0_3 a0_4 a5_0 a5_1 a5_2 a5_3 = some r) ∧ Aside0 (kq ≤ k) ∧ Aside0 (wc.heap[gb158]? = some (.cells #[.int .i64 a0_0, .int .i64 a0_1, .int .i64 a0_2, .int .i64 a0_3, .int .i64 a0_4] 32 (0, 0))) ∧ Aside0 (wc.heap[gb159]? = some (.cells #[.int .i64 a5_0, .int .i64 a5_1, .int .u64 a5_2, .int .u16 a5_3] 36 (0, 0))) ∧ Aside0 (Below w.heap.size w wc))
   case first =>
    have H := HC13.out
    clear HC13
    by_cases c26 : t164 = 0
    ·rw [if_pos c26] at H
     have c26b0 : (t164 == 0) = true := beq_iff_eq.mpr c26
     have c26b1 : (t164 != 0) = false := bne_eq_false_iff_eq.mpr c26
     clear c26
     (first | rw [c26b0] | (simp only [i64_w, i32_w]; rw [c26b0]) | skip)
     have H' := Aside0.mk H
     clear H
     go_wp2
     go_meet
     case rel => exact ⟨_, ((t166 != 0)), (by first | rfl | (simp; done) | (simp [*]; done)), H', ⟨by first | omega | exact Nat.le_refl _⟩, ⟨by (with_reducible repeat (first | refine blk_drewN ?_ _ | refine blk_drew ?_ | refine blk_alloc ?_ _)); exact BK158.out⟩, ⟨by (with_reducible repeat (first | refine blk_drewN ?_ _ | refine blk_drew ?_ | refine blk_alloc ?_ _)); exact BK159.out⟩, ⟨by repeat (first | (with_reducible first | exact HB.out | apply below_alloc | apply pw_below_drewN | apply below_drew1 | refine below_set ?_ GE158.out | refine below_set ?_ GE159.out) | exact HB.out)⟩⟩
    ·rw [if_neg c26] at H
     have c26b0 : (t164 == 0) = false := beq_eq_false_iff_ne.mpr c26
     have c26b1 : (t164 != 0) = true := bne_iff_ne.mpr c26
     (first | rw [c26b0] | (simp only [i64_w, i32_w]; rw [c26b0]) | skip)
     have H' := Aside0.mk H
     clear H
     go_wp2
     go_meet
     case rel => exact ⟨_, (true), (by first | rfl | (simp; done) | (simp [*]; done)), H', ⟨by first | omega | exact Nat.le_refl _⟩, ⟨by (with_reducible repeat (first | refine blk_drewN ?_ _ | refine blk_drew ?_ | refine blk_alloc ?_ _)); exact BK158.out⟩, ⟨by (with_reducible repeat (first | refine blk_drewN ?_ _ | refine blk_drew ?_ | refine blk_alloc ?_ _)); exact BK159.out⟩, ⟨by repeat (first | (with_reducible first | exact HB.out | apply below_alloc | apply pw_below_drewN | apply below_drew1 | refine below_set ?_ GE158.out | refine below_set ?_ GE159.out) | exact HB.out)⟩⟩
   case rest =>
    clear HC13
    try clear c1
    try clear c2
    try clear p2
    try clear c4
    try clear c8
    try clear c10
    try clear c10b0
    try clear c10b1
    try clear c13
    try clear c14
    try clear c17
    try clear c26
    try clear c26b0
    try clear c26b1
    try clear hcz18_0
    try clear hcz18_1
    try clear hcz18_2
    try clear hcz18_3
    try clear hcz18_4
    try clear hcz20_0
    try clear hcz20_1
    try clear hcz20_2
    try clear hcz20_3
    try clear hcz20_4
    try clear hcz21_0
    try clear hcz21_1
    try clear hcz21_2
    try clear hcz21_3
    try clear hcz23_0
    try clear hcz23_1
    try clear hcz23_2
    try clear hcz23_3
    try clear hcz23_4
    try clear hcz24_0
    try clear hcz24_1
    try clear hcz24_2
    try clear hcz24_3
    try clear hfz18_0
    try clear hfz18_1
    try clear hfz18_2
    try clear hfz18_3
    try clear hfz18_4
    try clear hfz20_0
    try clear hfz20_1
    try clear hfz20_2
    try clear hfz20_3
    try clear hfz20_4
    try clear hfz21_0
    try clear hfz21_1
    try clear hfz21_2
    try clear hfz21_3
    try clear hfz23_0
    try clear hfz23_1
    try clear hfz23_2
    try clear hfz23_3
    try clear hfz23_4
    try clear hfz24_0
    try clear hfz24_1
    try clear hfz24_2
    try clear hfz24_3
    obtain ⟨kq, x59_12, rfl, HA, HJ12, BK158, BK159, HB⟩ := hcut
    cases kq with
    | zero => exact absurd HA.out (by simp [palletlaw10_MemberAlike.j0])
    | succ kj12 =>
     have H := HA.out
     clear HA
     simp only [palletlaw10_MemberAlike.j0] at H
     by_cases c27 : x59_12 = true
     ·subst c27
      have H1 : (some true) = some r := by rw [if_pos rfl] at H; exact H
      clear H
      have H := H1
      clear H1
      obtain rfl := Option.some.inj H
      go_wp2
      go_ret
      exact ⟨by first | rfl | (simp [errW_none, errW_some] <;> rfl) | (simp [*, errW_none, errW_some] <;> rfl), by repeat (first | (with_reducible first | exact HB.out | apply below_alloc | apply pw_below_drewN | apply below_drew1 | refine below_set ?_ GE158.out | refine below_set ?_ GE159.out) | exact HB.out)⟩
     ·replace c27 := Bool.eq_false_iff.mpr c27
      subst c27
      have H1 : (if t163 = 2 then (palletlaw10_MemberAlike.j1 kj12 a1 a2 a3 a4 true t161 t163 t165 true a0_0 a0_1 a0_2 a0_3 a0_4 a5_0 a5_1 a5_2 a5_3) else (palletlaw10_MemberAlike.j1 kj12 a1 a2 a3 a4 true t161 t163 t165 (t165 == 2) a0_0 a0_1 a0_2 a0_3 a0_4 a5_0 a5_1 a5_2 a5_3)) = some r := by rw [if_neg (show ¬ (false = true) by decide)] at H; exact H
      clear H
      have H := H1
      clear H1
      have HC28 := Aside0.mk H
      clear H
      go_upto_region 11 with (fail)
      go_cut [66] (fun v66 wc => ∃ (kq : Nat) (x66_27 : Bool), v66 = .bool x66_27 ∧ Aside0 (palletlaw10_MemberAlike.j1 kq a1 a2 a3 a4 true t161 t163 t165 x66_27 a0_0 a0_1 a0_2 a0_3 a0_4 a5_0 a5_1 a5_2 a5_3 = some r) ∧ Aside0 (kq ≤ kj12) ∧ Aside0 (wc.heap[gb158]? = some (.cells #[.int .i64 a0_0, .int .i64 a0_1, .int .i64 a0_2, .int .i64 a0_3, .int .i64 a0_4] 32 (0, 0))) ∧ Aside0 (wc.heap[gb159]? = some (.cells #[.int .i64 a5_0, .int .i64 a5_1, .int .u64 a5_2, .int .u16 a5_3] 36 (0, 0))) ∧ Aside0 (Below w.heap.size w wc))
      case first =>
       have H := HC28.out
       clear HC28
       by_cases c29 : t163 = 2
       ·rw [if_pos c29] at H
        have c29b0 : (t163 == 2) = true := beq_iff_eq.mpr c29
        have c29b1 : (t163 != 2) = false := bne_eq_false_iff_eq.mpr c29
        clear c29
        (first | rw [c29b0] | (simp only [i64_w, i32_w]; rw [c29b0]) | skip)
        have H' := Aside0.mk H
        clear H
        go_wp2
        go_meet
        case rel => exact ⟨_, (true), (by first | rfl | (simp; done) | (simp [*]; done)), H', ⟨by have := HJ12.out; first | omega | exact Nat.le_refl _⟩, ⟨by (with_reducible repeat (first | refine blk_drewN ?_ _ | refine blk_drew ?_ | refine blk_alloc ?_ _)); exact BK158.out⟩, ⟨by (with_reducible repeat (first | refine blk_drewN ?_ _ | refine blk_drew ?_ | refine blk_alloc ?_ _)); exact BK159.out⟩, ⟨by repeat (first | (with_reducible first | exact HB.out | apply below_alloc | apply pw_below_drewN | apply below_drew1 | refine below_set ?_ GE158.out | refine below_set ?_ GE159.out) | exact HB.out)⟩⟩
       ·rw [if_neg c29] at H
        have c29b0 : (t163 == 2) = false := beq_eq_false_iff_ne.mpr c29
        have c29b1 : (t163 != 2) = true := bne_iff_ne.mpr c29
        (first | rw [c29b0] | (simp only [i64_w, i32_w]; rw [c29b0]) | skip)
        have H' := Aside0.mk H
        clear H
        go_wp2
        go_meet
        case rel => exact ⟨_, ((t165 == 2)), (by first | rfl | (simp; done) | (simp [*]; done)), H', ⟨by have := HJ12.out; first | omega | exact Nat.le_refl _⟩, ⟨by (with_reducible repeat (first | refine blk_drewN ?_ _ | refine blk_drew ?_ | refine blk_alloc ?_ _)); exact BK158.out⟩, ⟨by (with_reducible repeat (first | refine blk_drewN ?_ _ | refine blk_drew ?_ | refine blk_alloc ?_ _)); exact BK159.out⟩, ⟨by repeat (first | (with_reducible first | exact HB.out | apply below_alloc | apply pw_below_drewN | apply below_drew1 | refine below_set ?_ GE158.out | refine below_set ?_ GE159.out) | exact HB.out)⟩⟩
      case rest =>
       clear HC28
       try clear c1
       try clear c2
       try clear p2
       try clear c4
       try clear c8
       try clear c10
       try clear c10b0
       try clear c10b1
       try clear c13
       try clear c14
       try clear c17
       try clear c26
       try clear c26b0
       try clear c26b1
       try clear c27
       try clear c29
       try clear c29b0
       try clear c29b1
       try clear hcz18_0
       try clear hcz18_1
       try clear hcz18_2
       try clear hcz18_3
       try clear hcz18_4
       try clear hcz20_0
       try clear hcz20_1
       try clear hcz20_2
       try clear hcz20_3
       try clear hcz20_4
       try clear hcz21_0
       try clear hcz21_1
       try clear hcz21_2
       try clear hcz21_3
       try clear hcz23_0
       try clear hcz23_1
       try clear hcz23_2
       try clear hcz23_3
       try clear hcz23_4
       try clear hcz24_0
       try clear hcz24_1
       try clear hcz24_2
       try clear hcz24_3
       try clear hfz18_0
       try clear hfz18_1
       try clear hfz18_2
       try clear hfz18_3
       try clear hfz18_4
       try clear hfz20_0
       try clear hfz20_1
       try clear hfz20_2
       try clear hfz20_3
       try clear hfz20_4
       try clear hfz21_0
       try clear hfz21_1
       try clear hfz21_2
       try clear hfz21_3
       try clear hfz23_0
       try clear hfz23_1
       try clear hfz23_2
       try clear hfz23_3
       try clear hfz23_4
       try clear hfz24_0
       try clear hfz24_1
       try clear hfz24_2
       try clear hfz24_3
       try clear p2
       obtain ⟨kq, x66_27, rfl, HA, HJ27, BK158, BK159, HB⟩ := hcut
       cases kq with
       | zero => exact absurd HA.out (by simp [palletlaw10_MemberAlike.j1])
       | succ kj27 =>
        have H := HA.out
        clear HA
        simp only [palletlaw10_MemberAlike.j1] at H
        by_cases c30 : x66_27 = true
        ·subst c30
         have H1 : (if true = true then (if t163 = 2 then ((frame_Has.f a3 a1).bind fun t167 => (if t167 = true then ((frame_Has.f a5_3 a1).bind fun t168 => (some (!t168))) else (some false))) else (some true)) else (some false)) = some r := by rw [if_pos rfl] at H; exact H
         clear H
         have H := H1
         clear H1
         have H1 : (if t163 = 2 then ((frame_Has.f a3 a1).bind fun t167 => (if t167 = true then ((frame_Has.f a5_3 a1).bind fun t168 => (some (!t168))) else (some false))) else (some true)) = some r := by first | (rw [if_pos rfl] at H; exact H) | exact H
         clear H
         have H := H1
         clear H1
         by_cases c31 : t163 = 2
         ·rw [if_pos c31] at H
          have c31b0 : (t163 == 2) = true := beq_iff_eq.mpr c31
          have c31b1 : (t163 != 2) = false := bne_eq_false_iff_eq.mpr c31
          clear c31
          replace H := Option.bind_eq_some_iff.mp H
          obtain ⟨t167, A320, H⟩ := H
          replace H : (if t167 = true then ((frame_Has.f a5_3 a1).bind fun t168 => (some (!t168))) else (some false)) = some r := H
          have A32 := Aside0.mk A320
          clear A320
          by_cases c33 : t167 = true
          ·subst c33
           have H1 : ((frame_Has.f a5_3 a1).bind fun t168 => (some (!t168))) = some r := by rw [if_pos rfl] at H; exact H
           clear H
           have H := H1
           clear H1
           replace H := Option.bind_eq_some_iff.mp H
           obtain ⟨t168, A340, H⟩ := H
           replace H : (some (!t168)) = some r := H
           have A34 := Aside0.mk A340
           clear A340
           obtain rfl := Option.some.inj H
           go_wp2_with (first | (go_at_call 15; (with_reducible refine (frame_Has.calls a3 a1 true _ A32.out).mono ?_); rintro e w' ⟨rfl, ⟨nd, rfl⟩⟩; have hnb35 := NB159_158.out; have hnc35 := NB158_159.out; have hcz36_0 : wc.cell? ⟨gb159, 0, none⟩ = some (.int .i64 a5_0) := (blk_cell BK159.out 0).trans rfl; have hcz36_1 : wc.cell? ⟨gb159, 1, none⟩ = some (.int .i64 a5_1) := (blk_cell BK159.out 1).trans rfl; have hcz36_2 : wc.cell? ⟨gb159, 2, none⟩ = some (.int .u64 a5_2) := (blk_cell BK159.out 2).trans rfl; have hcz36_3 : wc.cell? ⟨gb159, 3, none⟩ = some (.int .u16 a5_3) := (blk_cell BK159.out 3).trans rfl; have hfz36_0 := blk_frozen BK159.out 0; have hfz36_1 := blk_frozen BK159.out 1; have hfz36_2 := blk_frozen BK159.out 2; have hfz36_3 := blk_frozen BK159.out 3) | (go_at_call 15; (with_reducible refine (frame_Has.calls a5_3 a1 t168 _ A34.out).mono ?_); rintro e w' ⟨rfl, ⟨nd, rfl⟩⟩))
           go_ret
           exact ⟨by first | rfl | (simp [errW_none, errW_some] <;> rfl) | (simp [*, errW_none, errW_some] <;> rfl), by repeat (first | (with_reducible first | exact HB.out | apply below_alloc | apply pw_below_drewN | apply below_drew1 | refine below_set ?_ GE158.out | refine below_set ?_ GE159.out) | exact HB.out)⟩
          ·replace c33 := Bool.eq_false_iff.mpr c33
           subst c33
           have H1 : (some false) = some r := by rw [if_neg (show ¬ (false = true) by decide)] at H; exact H
           clear H
           have H := H1
           clear H1
           obtain rfl := Option.some.inj H
           exact absurd hr_.out (by decide)
         ·rw [if_neg c31] at H
          have c31b0 : (t163 == 2) = false := beq_eq_false_iff_ne.mpr c31
          have c31b1 : (t163 != 2) = true := bne_iff_ne.mpr c31
          obtain rfl := Option.some.inj H
          go_wp2
          go_ret
          exact ⟨by first | rfl | (simp [errW_none, errW_some] <;> rfl) | (simp [*, errW_none, errW_some] <;> rfl), by repeat (first | (with_reducible first | exact HB.out | apply below_alloc | apply pw_below_drewN | apply below_drew1 | refine below_set ?_ GE158.out | refine below_set ?_ GE159.out) | exact HB.out)⟩
        ·replace c30 := Bool.eq_false_iff.mpr c30
         subst c30
         have H1 : ((member_After.f a0_0 a0_1 a0_2 a0_3 a0_4 a1 a3 a4 t163).bind fun bt169 => ((member_After.f a0_0 a0_1 a0_2 a0_3 a0_4 a2 a3 a4 t165).bind fun bt171 => (if a1 = t161 then (if true = true then (if bt169.2 = 0 then (if bt171.2 = 0 then (some (t163 == t165)) else (some false)) else (some false)) else (some false)) else (if a2 = t161 then (if true = true then (if bt169.2 = 0 then (if bt171.2 = 0 then (some (t163 == t165)) else (some false)) else (some false)) else (some false)) else (if true = true then (if bt169.2 = 0 then (if bt171.2 = 0 then (if t163 = t165 then (some (bt169.1 == bt171.1)) else (some false)) else (some false)) else (some false)) else (some false)))))) = some r := by rw [if_neg (show ¬ (false = true) by decide)] at H; exact H
         clear H
         have H := H1
         clear H1
         replace H := Option.bind_eq_some_iff.mp H
         obtain ⟨⟨t169, t170⟩, A370, H⟩ := H
         replace H : ((member_After.f a0_0 a0_1 a0_2 a0_3 a0_4 a2 a3 a4 t165).bind fun bt171 => (if a1 = t161 then (if true = true then (if t170 = 0 then (if bt171.2 = 0 then (some (t163 == t165)) else (some false)) else (some false)) else (some false)) else (if a2 = t161 then (if true = true then (if t170 = 0 then (if bt171.2 = 0 then (some (t163 == t165)) else (some false)) else (some false)) else (some false)) else (if true = true then (if t170 = 0 then (if bt171.2 = 0 then (if t163 = t165 then (some (t169 == bt171.1)) else (some false)) else (some false)) else (some false)) else (some false))))) = some r := H
         have A37 := Aside0.mk A370
         clear A370
         replace H := Option.bind_eq_some_iff.mp H
         obtain ⟨⟨t171, t172⟩, A380, H⟩ := H
         replace H : (if a1 = t161 then (if true = true then (if t170 = 0 then (if t172 = 0 then (some (t163 == t165)) else (some false)) else (some false)) else (some false)) else (if a2 = t161 then (if true = true then (if t170 = 0 then (if t172 = 0 then (some (t163 == t165)) else (some false)) else (some false)) else (some false)) else (if true = true then (if t170 = 0 then (if t172 = 0 then (if t163 = t165 then (some (t169 == t171)) else (some false)) else (some false)) else (some false)) else (some false)))) = some r := H
         have A38 := Aside0.mk A380
         clear A380
         by_cases c39 : a1 = t161
         ·rw [if_pos c39] at H
          have c39b0 : (a1 == t161) = true := beq_iff_eq.mpr c39
          have c39b1 : (a1 != t161) = false := bne_eq_false_iff_eq.mpr c39
          clear c39
          have H1 : (if t170 = 0 then (if t172 = 0 then (some (t163 == t165)) else (some false)) else (some false)) = some r := by first | (rw [if_pos rfl] at H; exact H) | exact H
          clear H
          have H := H1
          clear H1
          by_cases c40 : t170 = 0
          ·rw [if_pos c40] at H
           have c40b0 : (t170 == 0) = true := beq_iff_eq.mpr c40
           have c40b1 : (t170 != 0) = false := bne_eq_false_iff_eq.mpr c40
           clear c40
           by_cases c41 : t172 = 0
           ·rw [if_pos c41] at H
            have c41b0 : (t172 == 0) = true := beq_iff_eq.mpr c41
            have c41b1 : (t172 != 0) = false := bne_eq_false_iff_eq.mpr c41
            clear c41
            obtain rfl := Option.some.inj H
            have hnb42 := NB158_159.out
            have hnc42 := NB159_158.out
            have hcz43_0 : wc.cell? ⟨gb158, 0, none⟩ = some (.int .i64 a0_0) := (blk_cell BK158.out 0).trans rfl
            have hcz43_1 : wc.cell? ⟨gb158, 1, none⟩ = some (.int .i64 a0_1) := (blk_cell BK158.out 1).trans rfl
            have hcz43_2 : wc.cell? ⟨gb158, 2, none⟩ = some (.int .i64 a0_2) := (blk_cell BK158.out 2).trans rfl
            have hcz43_3 : wc.cell? ⟨gb158, 3, none⟩ = some (.int .i64 a0_3) := (blk_cell BK158.out 3).trans rfl
            have hcz43_4 : wc.cell? ⟨gb158, 4, none⟩ = some (.int .i64 a0_4) := (blk_cell BK158.out 4).trans rfl
            have hfz43_0 := blk_frozen BK158.out 0
            have hfz43_1 := blk_frozen BK158.out 1
            have hfz43_2 := blk_frozen BK158.out 2
            have hfz43_3 := blk_frozen BK158.out 3
            have hfz43_4 := blk_frozen BK158.out 4
            go_wp2_with (first | ((with_reducible refine gate_callee (f := 16) rfl ?_); refine goesL_ (some 90) rfl rfl Try.func16 (by kernel_rfl) rfl #[.agg #[.int .i64 a0_0, .int .i64 a0_1, .int .i64 a0_2, .int .i64 a0_3, .int .i64 a0_4], .int .i64 a1, .int .u16 a3, .int .u64 a4, .int .i64 t163] rfl (by (try simp only [List.map_toArray, List.map_cons, List.map_nil]); first | done | rfl | (simp only [List.length_drop, List.length_take]; rfl)) ?_; (with_reducible refine (member_After.calls a0_0 a0_1 a0_2 a0_3 a0_4 a1 a3 a4 t163 t169 t170 _ A37.out).mono ?_); rintro e w44 ⟨rfl, hb⟩; refine ⟨_, rfl, ?_⟩; have n0_ := Aside0.mk (blk_below (g := gb158) (o := .cells #[.int .i64 a0_0, .int .i64 a0_1, .int .i64 a0_2, .int .i64 a0_3, .int .i64 a0_4] 32 (0, 0)) (by (with_reducible repeat (first | refine blk_drewN ?_ _ | refine blk_drew ?_ | refine blk_alloc ?_ _)); exact BK158.out) hb); have n1_ := Aside0.mk (blk_below (g := gb159) (o := .cells #[.int .i64 a5_0, .int .i64 a5_1, .int .u64 a5_2, .int .u16 a5_3] 36 (0, 0)) (by (with_reducible repeat (first | refine blk_drewN ?_ _ | refine blk_drew ?_ | refine blk_alloc ?_ _)); exact BK159.out) hb); have n2_ := Aside0.mk (below_step (by repeat (first | (with_reducible first | exact HB.out | apply below_alloc | apply pw_below_drewN | apply below_drew1 | refine below_set ?_ GE158.out | refine below_set ?_ GE159.out) | exact HB.out)) hb); clear BK158; clear BK159; clear HB; have BK158 := n0_; have BK159 := n1_; have HB := n2_; clear n0_ n1_ n2_; (try clear hb); (try clear hb2); (try clear hk); (try clear hi); have hcz45_0 : w44.cell? ⟨gb158, 0, none⟩ = some (.int .i64 a0_0) := (blk_cell BK158.out 0).trans rfl; have hcz45_1 : w44.cell? ⟨gb158, 1, none⟩ = some (.int .i64 a0_1) := (blk_cell BK158.out 1).trans rfl; have hcz45_2 : w44.cell? ⟨gb158, 2, none⟩ = some (.int .i64 a0_2) := (blk_cell BK158.out 2).trans rfl; have hcz45_3 : w44.cell? ⟨gb158, 3, none⟩ = some (.int .i64 a0_3) := (blk_cell BK158.out 3).trans rfl; have hcz45_4 : w44.cell? ⟨gb158, 4, none⟩ = some (.int .i64 a0_4) := (blk_cell BK158.out 4).trans rfl; have hfz45_0 := blk_frozen BK158.out 0; have hfz45_1 := blk_frozen BK158.out 1; have hfz45_2 := blk_frozen BK158.out 2; have hfz45_3 := blk_frozen BK158.out 3; have hfz45_4 := blk_frozen BK158.out 4) | ((with_reducible refine gate_callee (f := 16) rfl ?_); refine goesL_ (some 99) rfl rfl Try.func16 (by kernel_rfl) rfl #[.agg #[.int .i64 a0_0, .int .i64 a0_1, .int .i64 a0_2, .int .i64 a0_3, .int .i64 a0_4], .int .i64 a2, .int .u16 a3, .int .u64 a4, .int .i64 t165] rfl (by (try simp only [List.map_toArray, List.map_cons, List.map_nil]); first | done | rfl | (simp only [List.length_drop, List.length_take]; rfl)) ?_; (with_reducible refine (member_After.calls a0_0 a0_1 a0_2 a0_3 a0_4 a2 a3 a4 t165 t171 t172 _ A38.out).mono ?_); rintro e w46 ⟨rfl, hb⟩; refine ⟨_, rfl, ?_⟩; have n0_ := Aside0.mk (blk_below (g := gb158) (o := .cells #[.int .i64 a0_0, .int .i64 a0_1, .int .i64 a0_2, .int .i64 a0_3, .int .i64 a0_4] 32 (0, 0)) (by (with_reducible repeat (first | refine blk_drewN ?_ _ | refine blk_drew ?_ | refine blk_alloc ?_ _)); exact BK158.out) hb); have n1_ := Aside0.mk (blk_below (g := gb159) (o := .cells #[.int .i64 a5_0, .int .i64 a5_1, .int .u64 a5_2, .int .u16 a5_3] 36 (0, 0)) (by (with_reducible repeat (first | refine blk_drewN ?_ _ | refine blk_drew ?_ | refine blk_alloc ?_ _)); exact BK159.out) hb); have n2_ := Aside0.mk (below_step (by repeat (first | (with_reducible first | exact HB.out | apply below_alloc | apply pw_below_drewN | apply below_drew1 | refine below_set ?_ GE158.out | refine below_set ?_ GE159.out) | exact HB.out)) hb); clear BK158; clear BK159; clear HB; have BK158 := n0_; have BK159 := n1_; have HB := n2_; clear n0_ n1_ n2_; (try clear hb); (try clear hb2); (try clear hk); (try clear hi)))
            go_ret
            exact ⟨by first | rfl | (simp [errW_none, errW_some] <;> rfl) | (simp [*, errW_none, errW_some] <;> rfl), by repeat (first | (with_reducible first | exact HB.out | apply below_alloc | apply pw_below_drewN | apply below_drew1 | refine below_set ?_ GE158.out | refine below_set ?_ GE159.out) | exact HB.out)⟩
           ·rw [if_neg c41] at H
            have c41b0 : (t172 == 0) = false := beq_eq_false_iff_ne.mpr c41
            have c41b1 : (t172 != 0) = true := bne_iff_ne.mpr c41
            obtain rfl := Option.some.inj H
            exact absurd hr_.out (by decide)
          ·rw [if_neg c40] at H
           have c40b0 : (t170 == 0) = false := beq_eq_false_iff_ne.mpr c40
           have c40b1 : (t170 != 0) = true := bne_iff_ne.mpr c40
           obtain rfl := Option.some.inj H
           exact absurd hr_.out (by decide)
         ·rw [if_neg c39] at H
          have c39b0 : (a1 == t161) = false := beq_eq_false_iff_ne.mpr c39
          have c39b1 : (a1 != t161) = true := bne_iff_ne.mpr c39
          by_cases c47 : a2 = t161
          ·rw [if_pos c47] at H
           have c47b0 : (a2 == t161) = true := beq_iff_eq.mpr c47
           have c47b1 : (a2 != t161) = false := bne_eq_false_iff_eq.mpr c47
           clear c47
           have H1 : (if t170 = 0 then (if t172 = 0 then (some (t163 == t165)) else (some false)) else (some false)) = some r := by first | (rw [if_pos rfl] at H; exact H) | exact H
           clear H
           have H := H1
           clear H1
           by_cases c48 : t170 = 0
           ·rw [if_pos c48] at H
            have c48b0 : (t170 == 0) = true := beq_iff_eq.mpr c48
            have c48b1 : (t170 != 0) = false := bne_eq_false_iff_eq.mpr c48
            clear c48
            by_cases c49 : t172 = 0
            ·rw [if_pos c49] at H
             have c49b0 : (t172 == 0) = true := beq_iff_eq.mpr c49
             have c49b1 : (t172 != 0) = false := bne_eq_false_iff_eq.mpr c49
             clear c49
             obtain rfl := Option.some.inj H
             have hnb50 := NB158_159.out
             have hnc50 := NB159_158.out
             have hcz51_0 : wc.cell? ⟨gb158, 0, none⟩ = some (.int .i64 a0_0) := (blk_cell BK158.out 0).trans rfl
             have hcz51_1 : wc.cell? ⟨gb158, 1, none⟩ = some (.int .i64 a0_1) := (blk_cell BK158.out 1).trans rfl
             have hcz51_2 : wc.cell? ⟨gb158, 2, none⟩ = some (.int .i64 a0_2) := (blk_cell BK158.out 2).trans rfl
             have hcz51_3 : wc.cell? ⟨gb158, 3, none⟩ = some (.int .i64 a0_3) := (blk_cell BK158.out 3).trans rfl
             have hcz51_4 : wc.cell? ⟨gb158, 4, none⟩ = some (.int .i64 a0_4) := (blk_cell BK158.out 4).trans rfl
             have hfz51_0 := blk_frozen BK158.out 0
             have hfz51_1 := blk_frozen BK158.out 1
             have hfz51_2 := blk_frozen BK158.out 2
             have hfz51_3 := blk_frozen BK158.out 3
             have hfz51_4 := blk_frozen BK158.out 4
             go_wp2_with (first | ((with_reducible refine gate_callee (f := 16) rfl ?_); refine goesL_ (some 90) rfl rfl Try.func16 (by kernel_rfl) rfl #[.agg #[.int .i64 a0_0, .int .i64 a0_1, .int .i64 a0_2, .int .i64 a0_3, .int .i64 a0_4], .int .i64 a1, .int .u16 a3, .int .u64 a4, .int .i64 t163] rfl (by (try simp only [List.map_toArray, List.map_cons, List.map_nil]); first | done | rfl | (simp only [List.length_drop, List.length_take]; rfl)) ?_; (with_reducible refine (member_After.calls a0_0 a0_1 a0_2 a0_3 a0_4 a1 a3 a4 t163 t169 t170 _ A37.out).mono ?_); rintro e w52 ⟨rfl, hb⟩; refine ⟨_, rfl, ?_⟩; have n0_ := Aside0.mk (blk_below (g := gb158) (o := .cells #[.int .i64 a0_0, .int .i64 a0_1, .int .i64 a0_2, .int .i64 a0_3, .int .i64 a0_4] 32 (0, 0)) (by (with_reducible repeat (first | refine blk_drewN ?_ _ | refine blk_drew ?_ | refine blk_alloc ?_ _)); exact BK158.out) hb); have n1_ := Aside0.mk (blk_below (g := gb159) (o := .cells #[.int .i64 a5_0, .int .i64 a5_1, .int .u64 a5_2, .int .u16 a5_3] 36 (0, 0)) (by (with_reducible repeat (first | refine blk_drewN ?_ _ | refine blk_drew ?_ | refine blk_alloc ?_ _)); exact BK159.out) hb); have n2_ := Aside0.mk (below_step (by repeat (first | (with_reducible first | exact HB.out | apply below_alloc | apply pw_below_drewN | apply below_drew1 | refine below_set ?_ GE158.out | refine below_set ?_ GE159.out) | exact HB.out)) hb); clear BK158; clear BK159; clear HB; have BK158 := n0_; have BK159 := n1_; have HB := n2_; clear n0_ n1_ n2_; (try clear hb); (try clear hb2); (try clear hk); (try clear hi); have hcz53_0 : w52.cell? ⟨gb158, 0, none⟩ = some (.int .i64 a0_0) := (blk_cell BK158.out 0).trans rfl; have hcz53_1 : w52.cell? ⟨gb158, 1, none⟩ = some (.int .i64 a0_1) := (blk_cell BK158.out 1).trans rfl; have hcz53_2 : w52.cell? ⟨gb158, 2, none⟩ = some (.int .i64 a0_2) := (blk_cell BK158.out 2).trans rfl; have hcz53_3 : w52.cell? ⟨gb158, 3, none⟩ = some (.int .i64 a0_3) := (blk_cell BK158.out 3).trans rfl; have hcz53_4 : w52.cell? ⟨gb158, 4, none⟩ = some (.int .i64 a0_4) := (blk_cell BK158.out 4).trans rfl; have hfz53_0 := blk_frozen BK158.out 0; have hfz53_1 := blk_frozen BK158.out 1; have hfz53_2 := blk_frozen BK158.out 2; have hfz53_3 := blk_frozen BK158.out 3; have hfz53_4 := blk_frozen BK158.out 4) | ((with_reducible refine gate_callee (f := 16) rfl ?_); refine goesL_ (some 99) rfl rfl Try.func16 (by kernel_rfl) rfl #[.agg #[.int .i64 a0_0, .int .i64 a0_1, .int .i64 a0_2, .int .i64 a0_3, .int .i64 a0_4], .int .i64 a2, .int .u16 a3, .int .u64 a4, .int .i64 t165] rfl (by (try simp only [List.map_toArray, List.map_cons, List.map_nil]); first | done | rfl | (simp only [List.length_drop, List.length_take]; rfl)) ?_; (with_reducible refine (member_After.calls a0_0 a0_1 a0_2 a0_3 a0_4 a2 a3 a4 t165 t171 t172 _ A38.out).mono ?_); rintro e w54 ⟨rfl, hb⟩; refine ⟨_, rfl, ?_⟩; have n0_ := Aside0.mk (blk_below (g := gb158) (o := .cells #[.int .i64 a0_0, .int .i64 a0_1, .int .i64 a0_2, .int .i64 a0_3, .int .i64 a0_4] 32 (0, 0)) (by (with_reducible repeat (first | refine blk_drewN ?_ _ | refine blk_drew ?_ | refine blk_alloc ?_ _)); exact BK158.out) hb); have n1_ := Aside0.mk (blk_below (g := gb159) (o := .cells #[.int .i64 a5_0, .int .i64 a5_1, .int .u64 a5_2, .int .u16 a5_3] 36 (0, 0)) (by (with_reducible repeat (first | refine blk_drewN ?_ _ | refine blk_drew ?_ | refine blk_alloc ?_ _)); exact BK159.out) hb); have n2_ := Aside0.mk (below_step (by repeat (first | (with_reducible first | exact HB.out | apply below_alloc | apply pw_below_drewN | apply below_drew1 | refine below_set ?_ GE158.out | refine below_set ?_ GE159.out) | exact HB.out)) hb); clear BK158; clear BK159; clear HB; have BK158 := n0_; have BK159 := n1_; have HB := n2_; clear n0_ n1_ n2_; (try clear hb); (try clear hb2); (try clear hk); (try clear hi)))
             go_ret
             exact ⟨by first | rfl | (simp [errW_none, errW_some] <;> rfl) | (simp [*, errW_none, errW_some] <;> rfl), by repeat (first | (with_reducible first | exact HB.out | apply below_alloc | apply pw_below_drewN | apply below_drew1 | refine below_set ?_ GE158.out | refine below_set ?_ GE159.out) | exact HB.out)⟩
            ·rw [if_neg c49] at H
             have c49b0 : (t172 == 0) = false := beq_eq_false_iff_ne.mpr c49
             have c49b1 : (t172 != 0) = true := bne_iff_ne.mpr c49
             obtain rfl := Option.some.inj H
             exact absurd hr_.out (by decide)
           ·rw [if_neg c48] at H
            have c48b0 : (t170 == 0) = false := beq_eq_false_iff_ne.mpr c48
            have c48b1 : (t170 != 0) = true := bne_iff_ne.mpr c48
            obtain rfl := Option.some.inj H
            exact absurd hr_.out (by decide)
          ·rw [if_neg c47] at H
           have c47b0 : (a2 == t161) = false := beq_eq_false_iff_ne.mpr c47
           have c47b1 : (a2 != t161) = true := bne_iff_ne.mpr c47
           have H1 : (if t170 = 0 then (if t172 = 0 then (if t163 = t165 then (some (t169 == t171)) else (some false)) else (some false)) else (some false)) = some r := by first | (rw [if_pos rfl] at H; exact H) | exact H
           clear H
           have H := H1
           clear H1
           by_cases c55 : t170 = 0
           ·rw [if_pos c55] at H
            have c55b0 : (t170 == 0) = true := beq_iff_eq.mpr c55
            have c55b1 : (t170 != 0) = false := bne_eq_false_iff_eq.mpr c55
            clear c55
            by_cases c56 : t172 = 0
            ·rw [if_pos c56] at H
             have c56b0 : (t172 == 0) = true := beq_iff_eq.mpr c56
             have c56b1 : (t172 != 0) = false := bne_eq_false_iff_eq.mpr c56
             clear c56
             by_cases c57 : t163 = t165
             ·rw [if_pos c57] at H
              have c57b0 : (t163 == t165) = true := beq_iff_eq.mpr c57
              have c57b1 : (t163 != t165) = false := bne_eq_false_iff_eq.mpr c57
              clear c57
              obtain rfl := Option.some.inj H
              have hnb58 := NB158_159.out
              have hnc58 := NB159_158.out
              have hcz59_0 : wc.cell? ⟨gb158, 0, none⟩ = some (.int .i64 a0_0) := (blk_cell BK158.out 0).trans rfl
              have hcz59_1 : wc.cell? ⟨gb158, 1, none⟩ = some (.int .i64 a0_1) := (blk_cell BK158.out 1).trans rfl
              have hcz59_2 : wc.cell? ⟨gb158, 2, none⟩ = some (.int .i64 a0_2) := (blk_cell BK158.out 2).trans rfl
              have hcz59_3 : wc.cell? ⟨gb158, 3, none⟩ = some (.int .i64 a0_3) := (blk_cell BK158.out 3).trans rfl
              have hcz59_4 : wc.cell? ⟨gb158, 4, none⟩ = some (.int .i64 a0_4) := (blk_cell BK158.out 4).trans rfl
              have hfz59_0 := blk_frozen BK158.out 0
              have hfz59_1 := blk_frozen BK158.out 1
              have hfz59_2 := blk_frozen BK158.out 2
              have hfz59_3 := blk_frozen BK158.out 3
              have hfz59_4 := blk_frozen BK158.out 4
              go_wp2_with (first | ((with_reducible refine gate_callee (f := 16) rfl ?_); refine goesL_ (some 90) rfl rfl Try.func16 (by kernel_rfl) rfl #[.agg #[.int .i64 a0_0, .int .i64 a0_1, .int .i64 a0_2, .int .i64 a0_3, .int .i64 a0_4], .int .i64 a1, .int .u16 a3, .int .u64 a4, .int .i64 t163] rfl (by (try simp only [List.map_toArray, List.map_cons, List.map_nil]); first | done | rfl | (simp only [List.length_drop, List.length_take]; rfl)) ?_; (with_reducible refine (member_After.calls a0_0 a0_1 a0_2 a0_3 a0_4 a1 a3 a4 t163 t169 t170 _ A37.out).mono ?_); rintro e w60 ⟨rfl, hb⟩; refine ⟨_, rfl, ?_⟩; have n0_ := Aside0.mk (blk_below (g := gb158) (o := .cells #[.int .i64 a0_0, .int .i64 a0_1, .int .i64 a0_2, .int .i64 a0_3, .int .i64 a0_4] 32 (0, 0)) (by (with_reducible repeat (first | refine blk_drewN ?_ _ | refine blk_drew ?_ | refine blk_alloc ?_ _)); exact BK158.out) hb); have n1_ := Aside0.mk (blk_below (g := gb159) (o := .cells #[.int .i64 a5_0, .int .i64 a5_1, .int .u64 a5_2, .int .u16 a5_3] 36 (0, 0)) (by (with_reducible repeat (first | refine blk_drewN ?_ _ | refine blk_drew ?_ | refine blk_alloc ?_ _)); exact BK159.out) hb); have n2_ := Aside0.mk (below_step (by repeat (first | (with_reducible first | exact HB.out | apply below_alloc | apply pw_below_drewN | apply below_drew1 | refine below_set ?_ GE158.out | refine below_set ?_ GE159.out) | exact HB.out)) hb); clear BK158; clear BK159; clear HB; have BK158 := n0_; have BK159 := n1_; have HB := n2_; clear n0_ n1_ n2_; (try clear hb); (try clear hb2); (try clear hk); (try clear hi); have hcz61_0 : w60.cell? ⟨gb158, 0, none⟩ = some (.int .i64 a0_0) := (blk_cell BK158.out 0).trans rfl; have hcz61_1 : w60.cell? ⟨gb158, 1, none⟩ = some (.int .i64 a0_1) := (blk_cell BK158.out 1).trans rfl; have hcz61_2 : w60.cell? ⟨gb158, 2, none⟩ = some (.int .i64 a0_2) := (blk_cell BK158.out 2).trans rfl; have hcz61_3 : w60.cell? ⟨gb158, 3, none⟩ = some (.int .i64 a0_3) := (blk_cell BK158.out 3).trans rfl; have hcz61_4 : w60.cell? ⟨gb158, 4, none⟩ = some (.int .i64 a0_4) := (blk_cell BK158.out 4).trans rfl; have hfz61_0 := blk_frozen BK158.out 0; have hfz61_1 := blk_frozen BK158.out 1; have hfz61_2 := blk_frozen BK158.out 2; have hfz61_3 := blk_frozen BK158.out 3; have hfz61_4 := blk_frozen BK158.out 4) | ((with_reducible refine gate_callee (f := 16) rfl ?_); refine goesL_ (some 99) rfl rfl Try.func16 (by kernel_rfl) rfl #[.agg #[.int .i64 a0_0, .int .i64 a0_1, .int .i64 a0_2, .int .i64 a0_3, .int .i64 a0_4], .int .i64 a2, .int .u16 a3, .int .u64 a4, .int .i64 t165] rfl (by (try simp only [List.map_toArray, List.map_cons, List.map_nil]); first | done | rfl | (simp only [List.length_drop, List.length_take]; rfl)) ?_; (with_reducible refine (member_After.calls a0_0 a0_1 a0_2 a0_3 a0_4 a2 a3 a4 t165 t171 t172 _ A38.out).mono ?_); rintro e w62 ⟨rfl, hb⟩; refine ⟨_, rfl, ?_⟩; have n0_ := Aside0.mk (blk_below (g := gb158) (o := .cells #[.int .i64 a0_0, .int .i64 a0_1, .int .i64 a0_2, .int .i64 a0_3, .int .i64 a0_4] 32 (0, 0)) (by (with_reducible repeat (first | refine blk_drewN ?_ _ | refine blk_drew ?_ | refine blk_alloc ?_ _)); exact BK158.out) hb); have n1_ := Aside0.mk (blk_below (g := gb159) (o := .cells #[.int .i64 a5_0, .int .i64 a5_1, .int .u64 a5_2, .int .u16 a5_3] 36 (0, 0)) (by (with_reducible repeat (first | refine blk_drewN ?_ _ | refine blk_drew ?_ | refine blk_alloc ?_ _)); exact BK159.out) hb); have n2_ := Aside0.mk (below_step (by repeat (first | (with_reducible first | exact HB.out | apply below_alloc | apply pw_below_drewN | apply below_drew1 | refine below_set ?_ GE158.out | refine below_set ?_ GE159.out) | exact HB.out)) hb); clear BK158; clear BK159; clear HB; have BK158 := n0_; have BK159 := n1_; have HB := n2_; clear n0_ n1_ n2_; (try clear hb); (try clear hb2); (try clear hk); (try clear hi)))
              go_ret
              exact ⟨by first | rfl | (simp [errW_none, errW_some] <;> rfl) | (simp [*, errW_none, errW_some] <;> rfl), by repeat (first | (with_reducible first | exact HB.out | apply below_alloc | apply pw_below_drewN | apply below_drew1 | refine below_set ?_ GE158.out | refine below_set ?_ GE159.out) | exact HB.out)⟩
             ·rw [if_neg c57] at H
              have c57b0 : (t163 == t165) = false := beq_eq_false_iff_ne.mpr c57
              have c57b1 : (t163 != t165) = true := bne_iff_ne.mpr c57
              obtain rfl := Option.some.inj H
              exact absurd hr_.out (by decide)
            ·rw [if_neg c56] at H
             have c56b0 : (t172 == 0) = false := beq_eq_false_iff_ne.mpr c56
             have c56b1 : (t172 != 0) = true := bne_iff_ne.mpr c56
             obtain rfl := Option.some.inj H
             exact absurd hr_.out (by decide)
           ·rw [if_neg c55] at H
            have c55b0 : (t170 == 0) = false := beq_eq_false_iff_ne.mpr c55
            have c55b1 : (t170 != 0) = true := bne_iff_ne.mpr c55
            obtain rfl := Option.some.inj H
            exact absurd hr_.out (by decide)
  ·rw [if_neg c10] at H
   have c10b0 : (t162 == 0) = false := beq_eq_false_iff_ne.mpr c10
   have c10b1 : (t162 != 0) = true := bne_iff_ne.mpr c10
   obtain rfl := Option.some.inj H
   go_enter Try.func4, Try.ntmps4
   go_wp2_with (first | ((with_reducible refine gate_dst (N := 6) rfl ?_); refine box_event ?hg (N := 6) ?hd (cs := #[.int .i64 a0_0, .int .i64 a0_1, .int .i64 a0_2, .int .i64 a0_3, .int .i64 a0_4]) (t := 32) ?hr ?_; (case hd => rfl); (case hg => rfl); (case hr => first | (go_simp; done) | (go_simp; rfl)); intro gb158 hg w63 hbox hb; have n0_ := Aside0.mk (below_step (by repeat (first | (with_reducible first | exact HB.out | apply below_alloc | apply pw_below_drewN | apply below_drew1) | exact HB.out)) hb); have n1_ := Aside0.mk (hbox); have n2_ := Aside0.mk ((by rw [hg]; exact (below_size (by repeat (first | (with_reducible first | exact HB.out | apply below_alloc | apply pw_below_drewN | apply below_drew1) | exact HB.out))) : w.heap.size ≤ gb158)); have n3_ := Aside0.mk ((by rw [hg]; exact (below_size (by repeat (first | (with_reducible first | exact HB.out | apply below_alloc | apply pw_below_drewN | apply below_drew1) | exact HB.out))) : w.heap.size ≤ gb158)); clear HB; have HB := n0_; have BK158 := n1_; have GW158 := n2_; have GE158 := n3_; clear n0_ n1_ n2_ n3_; clear hb hbox hg) | ((with_reducible refine gate_dst (N := 11) rfl ?_); refine box_event ?hg (N := 11) ?hd (cs := #[.int .i64 a5_0, .int .i64 a5_1, .int .u64 a5_2, .int .u16 a5_3]) (t := 36) ?hr ?_; (case hd => rfl); (case hg => rfl); (case hr => first | (go_simp; done) | (go_simp; rfl)); intro gb159 hg w64 hbox hb; have n0_ := Aside0.mk (blk_below (g := gb158) (o := .cells #[.int .i64 a0_0, .int .i64 a0_1, .int .i64 a0_2, .int .i64 a0_3, .int .i64 a0_4] 32 (0, 0)) (by (with_reducible repeat (first | refine blk_drewN ?_ _ | refine blk_drew ?_ | refine blk_alloc ?_ _)); exact BK158.out) hb); have n1_ := Aside0.mk (below_step (by repeat (first | (with_reducible first | exact HB.out | apply below_alloc | apply pw_below_drewN | apply below_drew1 | refine below_set ?_ GE158.out) | exact HB.out)) hb); have n2_ := Aside0.mk (hbox); have n3_ := Aside0.mk ((by rw [hg]; exact (below_size (by repeat (first | (with_reducible first | exact HB.out | apply below_alloc | apply pw_below_drewN | apply below_drew1 | refine below_set ?_ GE158.out) | exact HB.out))) : w.heap.size ≤ gb159)); have n4_ := Aside0.mk ((by rw [hg]; exact (below_size (by repeat (first | (with_reducible first | exact HB.out | apply below_alloc | apply pw_below_drewN | apply below_drew1 | refine below_set ?_ GE158.out) | exact HB.out))) : w.heap.size ≤ gb159)); have n5_ := Aside0.mk ((by rw [hg]; exact Nat.ne_of_lt (blk_lt (g := gb158) (o := .cells #[.int .i64 a0_0, .int .i64 a0_1, .int .i64 a0_2, .int .i64 a0_3, .int .i64 a0_4] 32 (0, 0)) (by (with_reducible repeat (first | refine blk_drewN ?_ _ | refine blk_drew ?_ | refine blk_alloc ?_ _)); exact BK158.out)) : gb158 ≠ gb159)); have n6_ := Aside0.mk ((by rw [hg]; exact Nat.ne_of_gt (blk_lt (g := gb158) (o := .cells #[.int .i64 a0_0, .int .i64 a0_1, .int .i64 a0_2, .int .i64 a0_3, .int .i64 a0_4] 32 (0, 0)) (by (with_reducible repeat (first | refine blk_drewN ?_ _ | refine blk_drew ?_ | refine blk_alloc ?_ _)); exact BK158.out)) : gb159 ≠ gb158)); clear BK158; clear HB; have BK158 := n0_; have HB := n1_; have BK159 := n2_; have GW159 := n3_; have GE159 := n4_; have NB158_159 := n5_; have NB159_158 := n6_; clear n0_ n1_ n2_ n3_ n4_ n5_ n6_; clear hb hbox hg) | ((with_reducible refine gate_callee (f := 10) rfl ?_); refine goesL_ (some 24) rfl rfl Try.func10 (by kernel_rfl) rfl #[] rfl (by (try simp only [List.map_toArray, List.map_cons, List.map_nil]); first | done | rfl | (simp only [List.length_drop, List.length_take]; rfl)) ?_; (with_reducible refine (palletlaw10_live.calls k  true _ A7.out).mono ?_); rintro e w65 ⟨rfl, hb⟩; refine ⟨_, rfl, ?_⟩; have n0_ := Aside0.mk (blk_below (g := gb158) (o := .cells #[.int .i64 a0_0, .int .i64 a0_1, .int .i64 a0_2, .int .i64 a0_3, .int .i64 a0_4] 32 (0, 0)) (by (with_reducible repeat (first | refine blk_drewN ?_ _ | refine blk_drew ?_ | refine blk_alloc ?_ _)); exact BK158.out) hb); have n1_ := Aside0.mk (blk_below (g := gb159) (o := .cells #[.int .i64 a5_0, .int .i64 a5_1, .int .u64 a5_2, .int .u16 a5_3] 36 (0, 0)) (by (with_reducible repeat (first | refine blk_drewN ?_ _ | refine blk_drew ?_ | refine blk_alloc ?_ _)); exact BK159.out) hb); have n2_ := Aside0.mk (below_step (by repeat (first | (with_reducible first | exact HB.out | apply below_alloc | apply pw_below_drewN | apply below_drew1 | refine below_set ?_ GE158.out | refine below_set ?_ GE159.out) | exact HB.out)) hb); clear BK158; clear BK159; clear HB; have BK158 := n0_; have BK159 := n1_; have HB := n2_; clear n0_ n1_ n2_; (try clear hb); (try clear hb2); (try clear hk); (try clear hi); have hnb66 := NB158_159.out; have hnc66 := NB159_158.out; have hcz67_0 : w65.cell? ⟨gb158, 0, none⟩ = some (.int .i64 a0_0) := (blk_cell BK158.out 0).trans rfl; have hcz67_1 : w65.cell? ⟨gb158, 1, none⟩ = some (.int .i64 a0_1) := (blk_cell BK158.out 1).trans rfl; have hcz67_2 : w65.cell? ⟨gb158, 2, none⟩ = some (.int .i64 a0_2) := (blk_cell BK158.out 2).trans rfl; have hcz67_3 : w65.cell? ⟨gb158, 3, none⟩ = some (.int .i64 a0_3) := (blk_cell BK158.out 3).trans rfl; have hcz67_4 : w65.cell? ⟨gb158, 4, none⟩ = some (.int .i64 a0_4) := (blk_cell BK158.out 4).trans rfl; have hfz67_0 := blk_frozen BK158.out 0; have hfz67_1 := blk_frozen BK158.out 1; have hfz67_2 := blk_frozen BK158.out 2; have hfz67_3 := blk_frozen BK158.out 3; have hfz67_4 := blk_frozen BK158.out 4) | ((with_reducible refine gate_callee (f := 13) rfl ?_); refine goesL_ (some 30) rfl rfl Try.func13 (by kernel_rfl) rfl #[.agg #[.int .i64 a0_0, .int .i64 a0_1, .int .i64 a0_2, .int .i64 a0_3, .int .i64 a0_4], .int .u64 a4] rfl (by (try simp only [List.map_toArray, List.map_cons, List.map_nil]); first | done | rfl | (simp only [List.length_drop, List.length_take]; rfl)) ?_; (with_reducible refine (medl_Owner.calls a0_0 a0_1 a0_2 a0_3 a0_4 a4 t161 t162 _ A9.out).mono ?_); rintro e w68 ⟨rfl, hb⟩; refine ⟨_, rfl, ?_⟩; have n0_ := Aside0.mk (blk_below (g := gb158) (o := .cells #[.int .i64 a0_0, .int .i64 a0_1, .int .i64 a0_2, .int .i64 a0_3, .int .i64 a0_4] 32 (0, 0)) (by (with_reducible repeat (first | refine blk_drewN ?_ _ | refine blk_drew ?_ | refine blk_alloc ?_ _)); exact BK158.out) hb); have n1_ := Aside0.mk (blk_below (g := gb159) (o := .cells #[.int .i64 a5_0, .int .i64 a5_1, .int .u64 a5_2, .int .u16 a5_3] 36 (0, 0)) (by (with_reducible repeat (first | refine blk_drewN ?_ _ | refine blk_drew ?_ | refine blk_alloc ?_ _)); exact BK159.out) hb); have n2_ := Aside0.mk (below_step (by repeat (first | (with_reducible first | exact HB.out | apply below_alloc | apply pw_below_drewN | apply below_drew1 | refine below_set ?_ GE158.out | refine below_set ?_ GE159.out) | exact HB.out)) hb); clear BK158; clear BK159; clear HB; have BK158 := n0_; have BK159 := n1_; have HB := n2_; clear n0_ n1_ n2_; (try clear hb); (try clear hb2); (try clear hk); (try clear hi)))
   go_ret
   exact ⟨by first | rfl | (simp [errW_none, errW_some] <;> rfl) | (simp [*, errW_none, errW_some] <;> rfl), by repeat (first | (with_reducible first | exact HB.out | apply below_alloc | apply pw_below_drewN | apply below_drew1 | refine below_set ?_ GE158.out | refine below_set ?_ GE159.out) | exact HB.out)⟩
 ·replace c8 := Bool.eq_false_iff.mpr c8
  subst c8
  have H1 : (some false) = some r := by rw [if_neg (show ¬ (false = true) by decide)] at H; exact H
  clear H
  have H := H1
  clear H1
  obtain rfl := Option.some.inj H
  exact absurd hr_.out (by decide)

end Go.Proofs.Ytcanccdhedmdmaa.Print
