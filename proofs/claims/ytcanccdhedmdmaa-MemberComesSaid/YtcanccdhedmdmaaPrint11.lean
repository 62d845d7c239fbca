-- PRINTED by print.py (a twelfth state) out of the translation. Not trusted: Lean checks it.
import Derived.Test.YtcanccdhedmdmaaPrint0
import Derived.Test.YtcanccdhedmdmaaPrint2
import Derived.Test.YtcanccdhedmdmaaPrint4
import Derived.Test.YtcanccdhedmdmaaPrint5
import Derived.Test.YtcanccdhedmdmaaPrint6
import Derived.Test.YtcanccdhedmdmaaPrint9
namespace Go.Proofs.Ytcanccdhedmdmaa.Print
open Go.RowKit Go.Proofs.YtcanccdhedmdmaaW.PrintWords Go.Proofs.YtcanccdhedmdmaaW.PrintLast Go.Proofs.YtcanccdhedmdmaaW.PrintMore Go.Proofs.YtcanccdhedmdmaaX
attribute [local go_sem] max2_int min2_int max_two min_two max_three min_three max_four min_four   -- for this text's walks alone
set_option linter.unusedVariables false
set_option linter.unusedSimpArgs false

/-! ### palletlaw10_MemberComes: function 5 -/
mutual
def palletlaw10_MemberComes.j0 : Nat → Int → Int → Int → Bool → Bool → Int → Bool → Int → Int → Int → Int → Int → Option (Bool)
 | 0, _, _, _, _, _, _, _, _, _, _, _, _ => none
 | k + 1, x1, x2, x3, x4, x11, x12, x46, x174000, x174001, x174002, x174003, x174004 => if x46 = true then (some x11) else ((frame_With.f x2 x12).bind fun t177 => (if x4 = true then (palletlaw10_MemberComes.j1 k x1 x2 x3 x11 x12 x174000 x174001 x174002 x174003 x174004 2 x12 x3 t177) else (palletlaw10_MemberComes.j1 k x1 x2 x3 x11 x12 x174000 x174001 x174002 x174003 x174004 1 x12 x3 t177)))
def palletlaw10_MemberComes.j1 : Nat → Int → Int → Int → Bool → Int → Int → Int → Int → Int → Int → Int → Int → Int → Int → Option (Bool)
 | 0, _, _, _, _, _, _, _, _, _, _, _, _, _, _ => none
 | k + 1, x1, x2, x3, x11, x12, x174000, x174001, x174002, x174003, x174004, x179000, x179001, x179002, x179003 => (member_Judge.f k x174000 x174001 x174002 x174003 x174004 x1 x2 x3 x179000 x179001 x179002 x179003).bind fun bt179 => ((member_After.f x174000 x174001 x174002 x174003 x174004 x1 x2 x3 bt179.1).bind fun bt181 => ((member_After.f x174000 x174001 x174002 x174003 x174004 x1 x2 x3 0).bind fun bt183 => (if x11 = true then (if bt179.2 = 0 then (if bt181.2 = 0 then (if bt183.2 = 0 then (if bt179.1 = 1 then ((frame_Has.f bt181.1 x12).bind fun t185 => (if t185 = true then ((frame_Has.f bt183.1 x12).bind fun t186 => (if t186 = true then (some false) else ((frame_Without.f bt181.1 x12).bind fun t187 => (some (t187 == bt183.1))))) else (some false))) else (some false)) else (some false)) else (some false)) else (some false)) else (some false))))
end
def palletlaw10_MemberComes.f (k : Nat) (a0_0 : Int) (a0_1 : Int) (a0_2 : Int) (a0_3 : Int) (a0_4 : Int) (a1 : Int) (a2 : Int) (a3 : Int) (a4 : Bool) : Option (Bool) := (palletlaw10_live.f k).bind fun t174 => (if t174 = true then ((medl_Owner.f a0_0 a0_1 a0_2 a0_3 a0_4 a3).bind fun bt175 => (if bt175.2 = 0 then (if a1 < 0 then (palletlaw10_MemberComes.j0 k a1 a2 a3 a4 t174 bt175.1 true a0_0 a0_1 a0_2 a0_3 a0_4) else (if a1 ≥ a0_0 then (palletlaw10_MemberComes.j0 k a1 a2 a3 a4 t174 bt175.1 true a0_0 a0_1 a0_2 a0_3 a0_4) else (palletlaw10_MemberComes.j0 k a1 a2 a3 a4 t174 bt175.1 (a1 == bt175.1) a0_0 a0_1 a0_2 a0_3 a0_4))) else (palletlaw10_MemberComes.j0 k a1 a2 a3 a4 t174 bt175.1 true a0_0 a0_1 a0_2 a0_3 a0_4))) else (some false))
theorem palletlaw10_MemberComes.mono_l : ∀ k, (∀ y0 y1 y2 y3 y4 y5 y6 y7 y8 y9 y10 y11, LeO (palletlaw10_MemberComes.j0 k y0 y1 y2 y3 y4 y5 y6 y7 y8 y9 y10 y11) (palletlaw10_MemberComes.j0 (k + 1) y0 y1 y2 y3 y4 y5 y6 y7 y8 y9 y10 y11)) ∧ (∀ y0 y1 y2 y3 y4 y5 y6 y7 y8 y9 y10 y11 y12 y13, LeO (palletlaw10_MemberComes.j1 k y0 y1 y2 y3 y4 y5 y6 y7 y8 y9 y10 y11 y12 y13) (palletlaw10_MemberComes.j1 (k + 1) y0 y1 y2 y3 y4 y5 y6 y7 y8 y9 y10 y11 y12 y13))
 | 0 => ⟨fun _ _ _ _ _ _ _ _ _ _ _ _ r h => by simp [palletlaw10_MemberComes.j0] at h, fun _ _ _ _ _ _ _ _ _ _ _ _ _ _ r h => by simp [palletlaw10_MemberComes.j1] at h⟩
 | k + 1 => by
  obtain ⟨ih0, ih1⟩ := palletlaw10_MemberComes.mono_l k
  refine ⟨?_, ?_⟩
  ·intro y0 y1 y2 y3 y4 y5 y6 y7 y8 y9 y10 y11
   unfold palletlaw10_MemberComes.j0
   repeat' first
   | (with_reducible exact ih0 _ _ _ _ _ _ _ _ _ _ _ _)
   | (with_reducible exact ih1 _ _ _ _ _ _ _ _ _ _ _ _ _ _)
   | (with_reducible exact member_Judge.mono _ _ _ _ _ _ _ _ _ _ _ _ _)
   | (with_reducible exact palletlaw10_live.mono _)
   | (with_reducible exact LeO.refl _)
   | (with_reducible exact LeO.none _)
   | (with_reducible refine LeO.ite ?_ ?_)
   | (with_reducible refine LeO.bind ?_ (fun _ => ?_))
   | exact ih0 _ _ _ _ _ _ _ _ _ _ _ _
   | exact ih1 _ _ _ _ _ _ _ _ _ _ _ _ _ _
   | exact member_Judge.mono _ _ _ _ _ _ _ _ _ _ _ _ _
   | exact palletlaw10_live.mono _
   | exact LeO.none _
   | refine LeO.ite ?_ ?_
   | refine LeO.bind ?_ (fun _ => ?_)
  ·intro y0 y1 y2 y3 y4 y5 y6 y7 y8 y9 y10 y11 y12 y13
   unfold palletlaw10_MemberComes.j1
   repeat' first
   | (with_reducible exact ih0 _ _ _ _ _ _ _ _ _ _ _ _)
   | (with_reducible exact ih1 _ _ _ _ _ _ _ _ _ _ _ _ _ _)
   | (with_reducible exact member_Judge.mono _ _ _ _ _ _ _ _ _ _ _ _ _)
   | (with_reducible exact palletlaw10_live.mono _)
   | (with_reducible exact LeO.refl _)
   | (with_reducible exact LeO.none _)
   | (with_reducible refine LeO.ite ?_ ?_)
   | (with_reducible refine LeO.bind ?_ (fun _ => ?_))
   | exact ih0 _ _ _ _ _ _ _ _ _ _ _ _
   | exact ih1 _ _ _ _ _ _ _ _ _ _ _ _ _ _
   | exact member_Judge.mono _ _ _ _ _ _ _ _ _ _ _ _ _
   | exact palletlaw10_live.mono _
   | exact LeO.none _
   | refine LeO.ite ?_ ?_
   | refine LeO.bind ?_ (fun _ => ?_)
theorem palletlaw10_MemberComes.mono : ∀ a0 a1 a2 a3 a4 a5 a6 a7 a8 k, LeO (palletlaw10_MemberComes.f k a0 a1 a2 a3 a4 a5 a6 a7 a8) (palletlaw10_MemberComes.f (k + 1) a0 a1 a2 a3 a4 a5 a6 a7 a8) := by
 intro a0 a1 a2 a3 a4 a5 a6 a7 a8 k
 obtain ⟨ih0, ih1⟩ := palletlaw10_MemberComes.mono_l k
 unfold palletlaw10_MemberComes.f
 repeat' first
   | (with_reducible exact ih0 _ _ _ _ _ _ _ _ _ _ _ _)
   | (with_reducible exact ih1 _ _ _ _ _ _ _ _ _ _ _ _ _ _)
   | (with_reducible exact member_Judge.mono _ _ _ _ _ _ _ _ _ _ _ _ _)
   | (with_reducible exact palletlaw10_live.mono _)
   | (with_reducible exact LeO.refl _)
   | (with_reducible exact LeO.none _)
   | (with_reducible refine LeO.ite ?_ ?_)
   | (with_reducible refine LeO.bind ?_ (fun _ => ?_))
   | exact ih0 _ _ _ _ _ _ _ _ _ _ _ _
   | exact ih1 _ _ _ _ _ _ _ _ _ _ _ _ _ _
   | exact member_Judge.mono _ _ _ _ _ _ _ _ _ _ _ _ _
   | exact palletlaw10_live.mono _
   | exact LeO.none _
   | refine LeO.ite ?_ ?_
   | refine LeO.bind ?_ (fun _ => ?_)
set_option maxHeartbeats 8000000 in
set_option maxRecDepth 100000 in
theorem palletlaw10_MemberComes.calls (k : Nat) (a0_0 : Int) (a0_1 : Int) (a0_2 : Int) (a0_3 : Int) (a0_4 : Int) (a1 : Int) (a2 : Int) (a3 : Int) (a4 : Bool) (r : Bool) (w : World) (hr_ : Aside0 (r = true)) (h : palletlaw10_MemberComes.f k a0_0 a0_1 a0_2 a0_3 a0_4 a1 a2 a3 a4 = some r) :
  Calls Try.prog 5 #[.agg #[.int .i64 a0_0, .int .i64 a0_1, .int .i64 a0_2, .int .i64 a0_3, .int .i64 a0_4], .int .i64 a1, .int .u16 a2, .int .u64 a3, .bool a4] w fun e w' => e = .returned (.bool r) ∧ Below w.heap.size w w' := by
 have hu32 := Try.underlying32
 have hu36 := Try.underlying36
 have HB := Aside0.mk (Below.refl w.heap.size w)
 have H : ((palletlaw10_live.f k).bind fun t174 => (if t174 = true then ((medl_Owner.f a0_0 a0_1 a0_2 a0_3 a0_4 a3).bind fun bt175 => (if bt175.2 = 0 then (if a1 < 0 then (palletlaw10_MemberComes.j0 k a1 a2 a3 a4 t174 bt175.1 true a0_0 a0_1 a0_2 a0_3 a0_4) else (if a1 ≥ a0_0 then (palletlaw10_MemberComes.j0 k a1 a2 a3 a4 t174 bt175.1 true a0_0 a0_1 a0_2 a0_3 a0_4) else (palletlaw10_MemberComes.j0 k a1 a2 a3 a4 t174 bt175.1 (a1 == bt175.1) a0_0 a0_1 a0_2 a0_3 a0_4))) else (palletlaw10_MemberComes.j0 k a1 a2 a3 a4 t174 bt175.1 true a0_0 a0_1 a0_2 a0_3 a0_4))) else (some false))) = some r := h
 clear h
 replace H := Option.bind_eq_some_iff.mp H
 obtain ⟨t174, A60, H⟩ := H
 replace H : (if t174 = true then ((medl_Owner.f a0_0 a0_1 a0_2 a0_3 a0_4 a3).bind fun bt175 => (if bt175.2 = 0 then (if a1 < 0 then (palletlaw10_MemberComes.j0 k a1 a2 a3 a4 t174 bt175.1 true a0_0 a0_1 a0_2 a0_3 a0_4) else (if a1 ≥ a0_0 then (palletlaw10_MemberComes.j0 k a1 a2 a3 a4 t174 bt175.1 true a0_0 a0_1 a0_2 a0_3 a0_4) else (palletlaw10_MemberComes.j0 k a1 a2 a3 a4 t174 bt175.1 (a1 == bt175.1) a0_0 a0_1 a0_2 a0_3 a0_4))) else (palletlaw10_MemberComes.j0 k a1 a2 a3 a4 t174 bt175.1 true a0_0 a0_1 a0_2 a0_3 a0_4))) else (some false)) = some r := H
 have A6 := Aside0.mk A60
 clear A60
 by_cases c7 : t174 = true
 ·subst c7
  have H1 : ((medl_Owner.f a0_0 a0_1 a0_2 a0_3 a0_4 a3).bind fun bt175 => (if bt175.2 = 0 then (if a1 < 0 then (palletlaw10_MemberComes.j0 k a1 a2 a3 a4 true bt175.1 true a0_0 a0_1 a0_2 a0_3 a0_4) else (if a1 ≥ a0_0 then (palletlaw10_MemberComes.j0 k a1 a2 a3 a4 true bt175.1 true a0_0 a0_1 a0_2 a0_3 a0_4) else (palletlaw10_MemberComes.j0 k a1 a2 a3 a4 true bt175.1 (a1 == bt175.1) a0_0 a0_1 a0_2 a0_3 a0_4))) else (palletlaw10_MemberComes.j0 k a1 a2 a3 a4 true bt175.1 true a0_0 a0_1 a0_2 a0_3 a0_4))) = some r := by rw [if_pos rfl] at H; exact H
  clear H
  have H := H1
  clear H1
  replace H := Option.bind_eq_some_iff.mp H
  obtain ⟨⟨t175, t176⟩, A80, H⟩ := H
  replace H : (if t176 = 0 then (if a1 < 0 then (palletlaw10_MemberComes.j0 k a1 a2 a3 a4 true t175 true a0_0 a0_1 a0_2 a0_3 a0_4) else (if a1 ≥ a0_0 then (palletlaw10_MemberComes.j0 k a1 a2 a3 a4 true t175 true a0_0 a0_1 a0_2 a0_3 a0_4) else (palletlaw10_MemberComes.j0 k a1 a2 a3 a4 true t175 (a1 == t175) a0_0 a0_1 a0_2 a0_3 a0_4))) else (palletlaw10_MemberComes.j0 k a1 a2 a3 a4 true t175 true a0_0 a0_1 a0_2 a0_3 a0_4)) = some r := H
  have A8 := Aside0.mk A80
  clear A80
  have HC9 := Aside0.mk H
  clear H
  go_enter Try.func5, Try.ntmps5
  go_upto_region 5 with (first | ((with_reducible refine gate_dst (N := 5) rfl ?_); refine box_event ?hg (N := 5) ?hd (cs := #[.int .i64 a0_0, .int .i64 a0_1, .int .i64 a0_2, .int .i64 a0_3, .int .i64 a0_4]) (t := 32) ?hr ?_; (case hd => rfl); (case hg => rfl); (case hr => first | (go_simp; done) | (go_simp; rfl)); intro gb173 hg w10 hbox hb; have n0_ := Aside0.mk (below_step (by repeat (first | (with_reducible first | exact HB.out | apply below_alloc | apply pw_below_drewN | apply below_drew1) | exact HB.out)) hb); have n1_ := Aside0.mk (hbox); have n2_ := Aside0.mk ((by rw [hg]; exact (below_size (by repeat (first | (with_reducible first | exact HB.out | apply below_alloc | apply pw_below_drewN | apply below_drew1) | exact HB.out))) : w.heap.size ≤ gb173)); have n3_ := Aside0.mk ((by rw [hg]; exact (below_size (by repeat (first | (with_reducible first | exact HB.out | apply below_alloc | apply pw_below_drewN | apply below_drew1) | exact HB.out))) : w.heap.size ≤ gb173)); clear HB; have HB := n0_; have BK173 := n1_; have GW173 := n2_; have GE173 := n3_; clear n0_ n1_ n2_ n3_; clear hb hbox hg) | ((with_reducible refine gate_callee (f := 10) rfl ?_); refine goesL_ (some 21) rfl rfl Try.func10 (by kernel_rfl) rfl #[] rfl (by (try simp only [List.map_toArray, List.map_cons, List.map_nil]); first | done | rfl | (simp only [List.length_drop, List.length_take]; rfl)) ?_; (with_reducible refine (palletlaw10_live.calls k  true _ A6.out).mono ?_); rintro e w11 ⟨rfl, hb⟩; refine ⟨_, rfl, ?_⟩; have n0_ := Aside0.mk (blk_below (g := gb173) (o := .cells #[.int .i64 a0_0, .int .i64 a0_1, .int .i64 a0_2, .int .i64 a0_3, .int .i64 a0_4] 32 (0, 0)) (by (with_reducible repeat (first | refine blk_drewN ?_ _ | refine blk_drew ?_ | refine blk_alloc ?_ _)); exact BK173.out) hb); have n1_ := Aside0.mk (below_step (by repeat (first | (with_reducible first | exact HB.out | apply below_alloc | apply pw_below_drewN | apply below_drew1 | refine below_set ?_ GE173.out) | exact HB.out)) hb); clear BK173; clear HB; have BK173 := n0_; have HB := n1_; clear n0_ n1_; (try clear hb); (try clear hb2); (try clear hk); (try clear hi); have hcz12_0 : w11.cell? ⟨gb173, 0, none⟩ = some (.int .i64 a0_0) := (blk_cell BK173.out 0).trans rfl; have hcz12_1 : w11.cell? ⟨gb173, 1, none⟩ = some (.int .i64 a0_1) := (blk_cell BK173.out 1).trans rfl; have hcz12_2 : w11.cell? ⟨gb173, 2, none⟩ = some (.int .i64 a0_2) := (blk_cell BK173.out 2).trans rfl; have hcz12_3 : w11.cell? ⟨gb173, 3, none⟩ = some (.int .i64 a0_3) := (blk_cell BK173.out 3).trans rfl; have hcz12_4 : w11.cell? ⟨gb173, 4, none⟩ = some (.int .i64 a0_4) := (blk_cell BK173.out 4).trans rfl; have hfz12_0 := blk_frozen BK173.out 0; have hfz12_1 := blk_frozen BK173.out 1; have hfz12_2 := blk_frozen BK173.out 2; have hfz12_3 := blk_frozen BK173.out 3; have hfz12_4 := blk_frozen BK173.out 4) | ((with_reducible refine gate_callee (f := 13) rfl ?_); refine goesL_ (some 27) rfl rfl Try.func13 (by kernel_rfl) rfl #[.agg #[.int .i64 a0_0, .int .i64 a0_1, .int .i64 a0_2, .int .i64 a0_3, .int .i64 a0_4], .int .u64 a3] rfl (by (try simp only [List.map_toArray, List.map_cons, List.map_nil]); first | done | rfl | (simp only [List.length_drop, List.length_take]; rfl)) ?_; (with_reducible refine (medl_Owner.calls a0_0 a0_1 a0_2 a0_3 a0_4 a3 t175 t176 _ A8.out).mono ?_); rintro e w13 ⟨rfl, hb⟩; refine ⟨_, rfl, ?_⟩; have n0_ := Aside0.mk (blk_below (g := gb173) (o := .cells #[.int .i64 a0_0, .int .i64 a0_1, .int .i64 a0_2, .int .i64 a0_3, .int .i64 a0_4] 32 (0, 0)) (by (with_reducible repeat (first | refine blk_drewN ?_ _ | refine blk_drew ?_ | refine blk_alloc ?_ _)); exact BK173.out) hb); have n1_ := Aside0.mk (below_step (by repeat (first | (with_reducible first | exact HB.out | apply below_alloc | apply pw_below_drewN | apply below_drew1 | refine below_set ?_ GE173.out) | exact HB.out)) hb); clear BK173; clear HB; have BK173 := n0_; have HB := n1_; clear n0_ n1_; (try clear hb); (try clear hb2); (try clear hk); (try clear hi)))
  (try simp only [Act.put, List.setIfInBounds_toArray, List.set_cons_zero, List.set_cons_succ])
  go_cut [46] (fun v46 wc => ∃ (kq : Nat) (x46_8 : Bool), v46 = .bool x46_8 ∧ Aside0 (palletlaw10_MemberComes.j0 kq a1 a2 a3 a4 true t175 x46_8 a0_0 a0_1 a0_2 a0_3 a0_4 = some r) ∧ Aside0 (kq ≤ k) ∧ Aside0 (wc.heap[gb173]? = some (.cells #[.int .i64 a0_0, .int .i64 a0_1, .int .i64 a0_2, .int .i64 a0_3, .int .i64 a0_4] 32 (0, 0))) ∧ Aside0 (Below w.heap.size w wc))
  case first =>
   have H := HC9.out
   clear HC9
   by_cases c14 : t176 = 0
   ·rw [if_pos c14] at H
    have c14b0 : (t176 == 0) = true := beq_iff_eq.mpr c14
    have c14b1 : (t176 != 0) = false := bne_eq_false_iff_eq.mpr c14
    clear c14
    (first | rw [c14b0] | (simp only [i64_w, i32_w]; rw [c14b0]) | skip)
    by_cases c15 : a1 < 0
    ·rw [if_pos c15] at H
     have c15b0 : decide (a1 < 0) = true := decide_eq_true c15
     clear c15
     have H' := Aside0.mk H
     clear H
     go_wp2
     go_meet
     case rel => exact ⟨_, (true), (by first | rfl | (simp; done) | (simp [*]; done)), H', ⟨by first | omega | exact Nat.le_refl _⟩, ⟨by (with_reducible repeat (first | refine blk_drewN ?_ _ | refine blk_drew ?_ | refine blk_alloc ?_ _)); exact BK173.out⟩, ⟨by repeat (first | (with_reducible first | exact HB.out | apply below_alloc | apply pw_below_drewN | apply below_drew1 | refine below_set ?_ GE173.out) | exact HB.out)⟩⟩
    ·rw [if_neg c15] at H
     have c15b0 : decide (a1 < 0) = false := decide_eq_false c15
     clear c15
     by_cases c16 : a1 ≥ a0_0
     ·rw [if_pos c16] at H
      have c16b0 : decide (a0_0 ≤ a1) = true := decide_eq_true c16
      clear c16
      have H' := Aside0.mk H
      clear H
      have hcz17_0 : w13.cell? ⟨gb173, 0, none⟩ = some (.int .i64 a0_0) := (blk_cell BK173.out 0).trans rfl
      have hcz17_1 : w13.cell? ⟨gb173, 1, none⟩ = some (.int .i64 a0_1) := (blk_cell BK173.out 1).trans rfl
      have hcz17_2 : w13.cell? ⟨gb173, 2, none⟩ = some (.int .i64 a0_2) := (blk_cell BK173.out 2).trans rfl
      have hcz17_3 : w13.cell? ⟨gb173, 3, none⟩ = some (.int .i64 a0_3) := (blk_cell BK173.out 3).trans rfl
      have hcz17_4 : w13.cell? ⟨gb173, 4, none⟩ = some (.int .i64 a0_4) := (blk_cell BK173.out 4).trans rfl
      have hfz17_0 := blk_frozen BK173.out 0
      have hfz17_1 := blk_frozen BK173.out 1
      have hfz17_2 := blk_frozen BK173.out 2
      have hfz17_3 := blk_frozen BK173.out 3
      have hfz17_4 := blk_frozen BK173.out 4
      go_wp2
      go_meet
      case rel => exact ⟨_, (true), (by first | rfl | (simp; done) | (simp [*]; done)), H', ⟨by first | omega | exact Nat.le_refl _⟩, ⟨by (with_reducible repeat (first | refine blk_drewN ?_ _ | refine blk_drew ?_ | refine blk_alloc ?_ _)); exact BK173.out⟩, ⟨by repeat (first | (with_reducible first | exact HB.out | apply below_alloc | apply pw_below_drewN | apply below_drew1 | refine below_set ?_ GE173.out) | exact HB.out)⟩⟩
     ·rw [if_neg c16] at H
      have c16b0 : decide (a0_0 ≤ a1) = false := decide_eq_false c16
      clear c16
      have H' := Aside0.mk H
      clear H
      have hcz18_0 : w13.cell? ⟨gb173, 0, none⟩ = some (.int .i64 a0_0) := (blk_cell BK173.out 0).trans rfl
      have hcz18_1 : w13.cell? ⟨gb173, 1, none⟩ = some (.int .i64 a0_1) := (blk_cell BK173.out 1).trans rfl
      have hcz18_2 : w13.cell? ⟨gb173, 2, none⟩ = some (.int .i64 a0_2) := (blk_cell BK173.out 2).trans rfl
      have hcz18_3 : w13.cell? ⟨gb173, 3, none⟩ = some (.int .i64 a0_3) := (blk_cell BK173.out 3).trans rfl
      have hcz18_4 : w13.cell? ⟨gb173, 4, none⟩ = some (.int .i64 a0_4) := (blk_cell BK173.out 4).trans rfl
      have hfz18_0 := blk_frozen BK173.out 0
      have hfz18_1 := blk_frozen BK173.out 1
      have hfz18_2 := blk_frozen BK173.out 2
      have hfz18_3 := blk_frozen BK173.out 3
      have hfz18_4 := blk_frozen BK173.out 4
      go_wp2
      go_meet
      case rel => exact ⟨_, ((a1 == t175)), (by first | rfl | (simp; done) | (simp [*]; done)), H', ⟨by first | omega | exact Nat.le_refl _⟩, ⟨by (with_reducible repeat (first | refine blk_drewN ?_ _ | refine blk_drew ?_ | refine blk_alloc ?_ _)); exact BK173.out⟩, ⟨by repeat (first | (with_reducible first | exact HB.out | apply below_alloc | apply pw_below_drewN | apply below_drew1 | refine below_set ?_ GE173.out) | exact HB.out)⟩⟩
   ·rw [if_neg c14] at H
    have c14b0 : (t176 == 0) = false := beq_eq_false_iff_ne.mpr c14
    have c14b1 : (t176 != 0) = true := bne_iff_ne.mpr c14
    (first | rw [c14b0] | (simp only [i64_w, i32_w]; rw [c14b0]) | skip)
    have H' := Aside0.mk H
    clear H
    go_wp2
    go_meet
    case rel => exact ⟨_, (true), (by first | rfl | (simp; done) | (simp [*]; done)), H', ⟨by first | omega | exact Nat.le_refl _⟩, ⟨by (with_reducible repeat (first | refine blk_drewN ?_ _ | refine blk_drew ?_ | refine blk_alloc ?_ _)); exact BK173.out⟩, ⟨by repeat (first | (with_reducible first | exact HB.out | apply below_alloc | apply pw_below_drewN | apply below_drew1 | refine below_set ?_ GE173.out) | exact HB.out)⟩⟩
  case rest =>
   clear HC9
   try clear c1
   try clear p2
   try clear c5
   try clear c7
   try clear c10
   try clear c13
   try clear c14
   try clear c14b0
   try clear c14b1
   try clear c15
   try clear c15b0
   try clear c16
   try clear c16b0
   try clear hcz12_0
   try clear hcz12_1
   try clear hcz12_2
   try clear hcz12_3
   try clear hcz12_4
   try clear hcz17_0
   try clear hcz17_1
   try clear hcz17_2
   try clear hcz17_3
   try clear hcz17_4
   try clear hcz18_0
   try clear hcz18_1
   try clear hcz18_2
   try clear hcz18_3
   try clear hcz18_4
   try clear hfz12_0
   try clear hfz12_1
   try clear hfz12_2
   try clear hfz12_3
   try clear hfz12_4
   try clear hfz17_0
   try clear hfz17_1
   try clear hfz17_2
   try clear hfz17_3
   try clear hfz17_4
   try clear hfz18_0
   try clear hfz18_1
   try clear hfz18_2
   try clear hfz18_3
   try clear hfz18_4
   obtain ⟨kq, x46_8, rfl, HA, HJ8, BK173, HB⟩ := hcut
   cases kq with
   | zero => exact absurd HA.out (by simp [palletlaw10_MemberComes.j0])
   | succ kj8 =>
    have H := HA.out
    clear HA
    simp only [palletlaw10_MemberComes.j0] at H
    by_cases c19 : x46_8 = true
    ·subst c19
     have H1 : (some true) = some r := by rw [if_pos rfl] at H; exact H
     clear H
     have H := H1
     clear H1
     obtain rfl := Option.some.inj H
     go_wp2
     go_ret
     exact ⟨by first | rfl | (simp [errW_none, errW_some] <;> rfl) | (simp [*, errW_none, errW_some] <;> rfl), by repeat (first | (with_reducible first | exact HB.out | apply below_alloc | apply pw_below_drewN | apply below_drew1 | refine below_set ?_ GE173.out) | exact HB.out)⟩
    ·replace c19 := Bool.eq_false_iff.mpr c19
     subst c19
     have H1 : ((frame_With.f a2 t175).bind fun t177 => (if a4 = true then (palletlaw10_MemberComes.j1 kj8 a1 a2 a3 true t175 a0_0 a0_1 a0_2 a0_3 a0_4 2 t175 a3 t177) else (palletlaw10_MemberComes.j1 kj8 a1 a2 a3 true t175 a0_0 a0_1 a0_2 a0_3 a0_4 1 t175 a3 t177))) = some r := by rw [if_neg (show ¬ (false = true) by decide)] at H; exact H
     clear H
     have H := H1
     clear H1
     replace H := Option.bind_eq_some_iff.mp H
     obtain ⟨t177, A200, H⟩ := H
     replace H : (if a4 = true then (palletlaw10_MemberComes.j1 kj8 a1 a2 a3 true t175 a0_0 a0_1 a0_2 a0_3 a0_4 2 t175 a3 t177) else (palletlaw10_MemberComes.j1 kj8 a1 a2 a3 true t175 a0_0 a0_1 a0_2 a0_3 a0_4 1 t175 a3 t177)) = some r := H
     have A20 := Aside0.mk A200
     clear A200
     have HC21 := Aside0.mk H
     clear H
     go_upto_if 54 with (first | ((with_reducible refine gate_callee (f := 17) rfl ?_); refine goesL_ (some 52) rfl rfl Try.func17 (by kernel_rfl) rfl #[.int .u16 a2, .int .i64 t175] rfl (by (try simp only [List.map_toArray, List.map_cons, List.map_nil]); first | done | rfl | (simp only [List.length_drop, List.length_take]; rfl)) ?_; (with_reducible refine (frame_With.calls a2 t175 t177 _ A20.out).mono ?_); rintro e w' ⟨rfl, ⟨nd, rfl⟩⟩; refine ⟨_, rfl, ?_⟩; (try (rw [drewN_self wc]; generalize hq_ : World.drewN wc _ = wc; have n0_ : Aside0 (wc.heap[gb173]? = some (.cells #[.int .i64 a0_0, .int .i64 a0_1, .int .i64 a0_2, .int .i64 a0_3, .int .i64 a0_4] 32 (0, 0))) := ⟨by rw [← hq_]; exact (by (with_reducible repeat (first | refine blk_drewN ?_ _ | refine blk_drew ?_ | refine blk_alloc ?_ _)); exact BK173.out)⟩; have n1_ : Aside0 (Below w.heap.size w wc) := ⟨by rw [← hq_]; exact (by repeat (first | (with_reducible first | exact HB.out | apply below_alloc | apply pw_below_drewN | apply below_drew1 | refine below_set ?_ GE173.out) | exact HB.out))⟩; clear BK173 HB hq_; have BK173 := n0_; have HB := n1_; clear n0_ n1_))) | ((with_reducible refine gate_dst (N := 14) rfl ?_); refine box_event ?hg (N := 14) ?hd (cs := #[.int .i64 0, .int .i64 0, .int .u64 0, .int .u16 0]) (t := 36) ?hr ?_; (case hd => rfl); (case hg => rfl); (case hr => first | (go_simp; done) | (go_simp; rfl)); intro gb178 hg w22 hbox hb; have n0_ := Aside0.mk (blk_below (g := gb173) (o := .cells #[.int .i64 a0_0, .int .i64 a0_1, .int .i64 a0_2, .int .i64 a0_3, .int .i64 a0_4] 32 (0, 0)) (by (with_reducible repeat (first | refine blk_drewN ?_ _ | refine blk_drew ?_ | refine blk_alloc ?_ _)); exact BK173.out) hb); have n1_ := Aside0.mk (below_step (by repeat (first | (with_reducible first | exact HB.out | apply below_alloc | apply pw_below_drewN | apply below_drew1 | refine below_set ?_ GE173.out) | exact HB.out)) hb); have n2_ := Aside0.mk (hbox); have n3_ := Aside0.mk ((by rw [hg]; exact (below_size (by repeat (first | (with_reducible first | exact HB.out | apply below_alloc | apply pw_below_drewN | apply below_drew1 | refine below_set ?_ GE173.out) | exact HB.out))) : w.heap.size ≤ gb178)); have n4_ := Aside0.mk ((by rw [hg]; exact (below_size (by repeat (first | (with_reducible first | exact HB.out | apply below_alloc | apply pw_below_drewN | apply below_drew1 | refine below_set ?_ GE173.out) | exact HB.out))) : w.heap.size ≤ gb178)); have n5_ := Aside0.mk ((by rw [hg]; exact Nat.ne_of_lt (blk_lt (g := gb173) (o := .cells #[.int .i64 a0_0, .int .i64 a0_1, .int .i64 a0_2, .int .i64 a0_3, .int .i64 a0_4] 32 (0, 0)) (by (with_reducible repeat (first | refine blk_drewN ?_ _ | refine blk_drew ?_ | refine blk_alloc ?_ _)); exact BK173.out)) : gb173 ≠ gb178)); have n6_ := Aside0.mk ((by rw [hg]; exact Nat.ne_of_gt (blk_lt (g := gb173) (o := .cells #[.int .i64 a0_0, .int .i64 a0_1, .int .i64 a0_2, .int .i64 a0_3, .int .i64 a0_4] 32 (0, 0)) (by (with_reducible repeat (first | refine blk_drewN ?_ _ | refine blk_drew ?_ | refine blk_alloc ?_ _)); exact BK173.out)) : gb178 ≠ gb173)); clear BK173; clear HB; have BK173 := n0_; have HB := n1_; have BK178 := n2_; have GW178 := n3_; have GE178 := n4_; have NB173_178 := n5_; have NB178_173 := n6_; clear n0_ n1_ n2_ n3_ n4_ n5_ n6_; clear hb hbox hg; have hnb23 := NB178_173.out; have hnc23 := NB173_178.out; have hcz24_0 : w22.cell? ⟨gb178, 0, none⟩ = some (.int .i64 0) := (blk_cell BK178.out 0).trans rfl; have hcz24_1 : w22.cell? ⟨gb178, 1, none⟩ = some (.int .i64 0) := (blk_cell BK178.out 1).trans rfl; have hcz24_2 : w22.cell? ⟨gb178, 2, none⟩ = some (.int .u64 0) := (blk_cell BK178.out 2).trans rfl; have hcz24_3 : w22.cell? ⟨gb178, 3, none⟩ = some (.int .u16 0) := (blk_cell BK178.out 3).trans rfl; have hfz24_0 := blk_frozen BK178.out 0; have hfz24_1 := blk_frozen BK178.out 1; have hfz24_2 := blk_frozen BK178.out 2; have hfz24_3 := blk_frozen BK178.out 3))
     (try simp only [Act.put, List.setIfInBounds_toArray, List.set_cons_zero, List.set_cons_succ])
     go_cut [] (fun wc => ∃ (kq : Nat) (x179000_20 : Int), Aside0 (palletlaw10_MemberComes.j1 kq a1 a2 a3 true t175 a0_0 a0_1 a0_2 a0_3 a0_4 x179000_20 t175 a3 t177 = some r) ∧ Aside0 (kq ≤ kj8) ∧ Aside0 (wc.heap[gb173]? = some (.cells #[.int .i64 a0_0, .int .i64 a0_1, .int .i64 a0_2, .int .i64 a0_3, .int .i64 a0_4] 32 (0, 0))) ∧ Aside0 (wc.heap[gb178]? = some (.cells #[.int .i64 x179000_20, .int .i64 t175, .int .u64 a3, .int .u16 t177] 36 (0, 0))) ∧ Aside0 (Below w.heap.size w wc))
     case first =>
      have H := HC21.out
      clear HC21
      by_cases c25 : a4 = true
      ·subst c25
       have H1 : (palletlaw10_MemberComes.j1 kj8 a1 a2 a3 true t175 a0_0 a0_1 a0_2 a0_3 a0_4 2 t175 a3 t177) = some r := by rw [if_pos rfl] at H; exact H
       clear H
       have H := H1
       clear H1
       have H' := Aside0.mk H
       clear H
       have hnb26 := NB178_173.out
       have hnc26 := NB173_178.out
       have hcz27_0 : w22.cell? ⟨gb178, 0, none⟩ = some (.int .i64 0) := (blk_cell BK178.out 0).trans rfl
       have hcz27_1 : w22.cell? ⟨gb178, 1, none⟩ = some (.int .i64 0) := (blk_cell BK178.out 1).trans rfl
       have hcz27_2 : w22.cell? ⟨gb178, 2, none⟩ = some (.int .u64 0) := (blk_cell BK178.out 2).trans rfl
       have hcz27_3 : w22.cell? ⟨gb178, 3, none⟩ = some (.int .u16 0) := (blk_cell BK178.out 3).trans rfl
       have hfz27_0 := blk_frozen BK178.out 0
       have hfz27_1 := blk_frozen BK178.out 1
       have hfz27_2 := blk_frozen BK178.out 2
       have hfz27_3 := blk_frozen BK178.out 3
       go_wp2
       go_meet
       case rel => exact ⟨_, (2), H', ⟨by have := HJ8.out; first | omega | exact Nat.le_refl _⟩, ⟨by (with_reducible repeat (first | refine blk_drewN ?_ _ | refine blk_drew ?_ | refine blk_alloc ?_ _)); refine blk_far ?_ NB173_178.out _; (with_reducible repeat (first | refine blk_drewN ?_ _ | refine blk_drew ?_ | refine blk_alloc ?_ _)); refine blk_far ?_ NB173_178.out _; (with_reducible repeat (first | refine blk_drewN ?_ _ | refine blk_drew ?_ | refine blk_alloc ?_ _)); refine blk_far ?_ NB173_178.out _; (with_reducible repeat (first | refine blk_drewN ?_ _ | refine blk_drew ?_ | refine blk_alloc ?_ _)); refine blk_far ?_ NB173_178.out _; (with_reducible repeat (first | refine blk_drewN ?_ _ | refine blk_drew ?_ | refine blk_alloc ?_ _)); refine blk_far ?_ NB173_178.out _; (with_reducible repeat (first | refine blk_drewN ?_ _ | refine blk_drew ?_ | refine blk_alloc ?_ _)); exact BK173.out⟩, ⟨by (with_reducible repeat (first | refine blk_drewN ?_ _ | refine blk_drew ?_ | refine blk_alloc ?_ _)); refine blk_put (cs := #[.int .i64 1, .int .i64 t175, .int .u64 a3, .int .u16 t177]) ?_ 0 _ rfl; (with_reducible repeat (first | refine blk_drewN ?_ _ | refine blk_drew ?_ | refine blk_alloc ?_ _)); refine blk_put (cs := #[.int .i64 1, .int .i64 t175, .int .u64 a3, .int .u16 0]) ?_ 3 _ rfl; (with_reducible repeat (first | refine blk_drewN ?_ _ | refine blk_drew ?_ | refine blk_alloc ?_ _)); refine blk_put (cs := #[.int .i64 1, .int .i64 t175, .int .u64 0, .int .u16 0]) ?_ 2 _ rfl; (with_reducible repeat (first | refine blk_drewN ?_ _ | refine blk_drew ?_ | refine blk_alloc ?_ _)); refine blk_put (cs := #[.int .i64 1, .int .i64 0, .int .u64 0, .int .u16 0]) ?_ 1 _ rfl; (with_reducible repeat (first | refine blk_drewN ?_ _ | refine blk_drew ?_ | refine blk_alloc ?_ _)); refine blk_put (cs := #[.int .i64 0, .int .i64 0, .int .u64 0, .int .u16 0]) ?_ 0 _ rfl; (with_reducible repeat (first | refine blk_drewN ?_ _ | refine blk_drew ?_ | refine blk_alloc ?_ _)); exact BK178.out⟩, ⟨by repeat (first | (with_reducible first | exact HB.out | apply below_alloc | apply pw_below_drewN | apply below_drew1 | refine below_set ?_ GE173.out | refine below_set ?_ GE178.out) | exact HB.out)⟩⟩
      ·replace c25 := Bool.eq_false_iff.mpr c25
       subst c25
       have H1 : (palletlaw10_MemberComes.j1 kj8 a1 a2 a3 true t175 a0_0 a0_1 a0_2 a0_3 a0_4 1 t175 a3 t177) = some r := by rw [if_neg (show ¬ (false = true) by decide)] at H; exact H
       clear H
       have H := H1
       clear H1
       have H' := Aside0.mk H
       clear H
       go_wp2
       go_meet
       case rel => exact ⟨_, (1), H', ⟨by have := HJ8.out; first | omega | exact Nat.le_refl _⟩, ⟨by (with_reducible repeat (first | refine blk_drewN ?_ _ | refine blk_drew ?_ | refine blk_alloc ?_ _)); refine blk_far ?_ NB173_178.out _; (with_reducible repeat (first | refine blk_drewN ?_ _ | refine blk_drew ?_ | refine blk_alloc ?_ _)); refine blk_far ?_ NB173_178.out _; (with_reducible repeat (first | refine blk_drewN ?_ _ | refine blk_drew ?_ | refine blk_alloc ?_ _)); refine blk_far ?_ NB173_178.out _; (with_reducible repeat (first | refine blk_drewN ?_ _ | refine blk_drew ?_ | refine blk_alloc ?_ _)); refine blk_far ?_ NB173_178.out _; (with_reducible repeat (first | refine blk_drewN ?_ _ | refine blk_drew ?_ | refine blk_alloc ?_ _)); exact BK173.out⟩, ⟨by (with_reducible repeat (first | refine blk_drewN ?_ _ | refine blk_drew ?_ | refine blk_alloc ?_ _)); refine blk_put (cs := #[.int .i64 1, .int .i64 t175, .int .u64 a3, .int .u16 0]) ?_ 3 _ rfl; (with_reducible repeat (first | refine blk_drewN ?_ _ | refine blk_drew ?_ | refine blk_alloc ?_ _)); refine blk_put (cs := #[.int .i64 1, .int .i64 t175, .int .u64 0, .int .u16 0]) ?_ 2 _ rfl; (with_reducible repeat (first | refine blk_drewN ?_ _ | refine blk_drew ?_ | refine blk_alloc ?_ _)); refine blk_put (cs := #[.int .i64 1, .int .i64 0, .int .u64 0, .int .u16 0]) ?_ 1 _ rfl; (with_reducible repeat (first | refine blk_drewN ?_ _ | refine blk_drew ?_ | refine blk_alloc ?_ _)); refine blk_put (cs := #[.int .i64 0, .int .i64 0, .int .u64 0, .int .u16 0]) ?_ 0 _ rfl; (with_reducible repeat (first | refine blk_drewN ?_ _ | refine blk_drew ?_ | refine blk_alloc ?_ _)); exact BK178.out⟩, ⟨by repeat (first | (with_reducible first | exact HB.out | apply below_alloc | apply pw_below_drewN | apply below_drew1 | refine below_set ?_ GE173.out | refine below_set ?_ GE178.out) | exact HB.out)⟩⟩
     case rest =>
      clear HC21
      try clear c1
      try clear c2
      try clear p2
      try clear c5
      try clear c7
      try clear c10
      try clear c13
      try clear c14
      try clear c14b0
      try clear c14b1
      try clear c15
      try clear c15b0
      try clear c16
      try clear c16b0
      try clear c17
      try clear c19
      try clear c23
      try clear c25
      try clear c26
      try clear hcz12_0
      try clear hcz12_1
      try clear hcz12_2
      try clear hcz12_3
      try clear hcz12_4
      try clear hcz17_0
      try clear hcz17_1
      try clear hcz17_2
      try clear hcz17_3
      try clear hcz17_4
      try clear hcz18_0
      try clear hcz18_1
      try clear hcz18_2
      try clear hcz18_3
      try clear hcz18_4
      try clear hcz24_0
      try clear hcz24_1
      try clear hcz24_2
      try clear hcz24_3
      try clear hcz27_0
      try clear hcz27_1
      try clear hcz27_2
      try clear hcz27_3
      try clear hfz12_0
      try clear hfz12_1
      try clear hfz12_2
      try clear hfz12_3
      try clear hfz12_4
      try clear hfz17_0
      try clear hfz17_1
      try clear hfz17_2
      try clear hfz17_3
      try clear hfz17_4
      try clear hfz18_0
      try clear hfz18_1
      try clear hfz18_2
      try clear hfz18_3
      try clear hfz18_4
      try clear hfz24_0
      try clear hfz24_1
      try clear hfz24_2
      try clear hfz24_3
      try clear hfz27_0
      try clear hfz27_1
      try clear hfz27_2
      try clear hfz27_3
      try clear p2
      obtain ⟨kq, x179000_20, HA, HJ20, BK173, BK178, HB⟩ := hcut
      cases kq with
      | zero => exact absurd HA.out (by simp [palletlaw10_MemberComes.j1])
      | succ kj20 =>
       have H := HA.out
       clear HA
       simp only [palletlaw10_MemberComes.j1] at H
       replace H := Option.bind_eq_some_iff.mp H
       obtain ⟨⟨t179, t180⟩, A280, H⟩ := H
       replace H : ((member_After.f a0_0 a0_1 a0_2 a0_3 a0_4 a1 a2 a3 t179).bind fun bt181 => ((member_After.f a0_0 a0_1 a0_2 a0_3 a0_4 a1 a2 a3 0).bind fun bt183 => (if true = true then (if t180 = 0 then (if bt181.2 = 0 then (if bt183.2 = 0 then (if t179 = 1 then ((frame_Has.f bt181.1 t175).bind fun t185 => (if t185 = true then ((frame_Has.f bt183.1 t175).bind fun t186 => (if t186 = true then (some false) else ((frame_Without.f bt181.1 t175).bind fun t187 => (some (t187 == bt183.1))))) else (some false))) else (some false)) else (some false)) else (some false)) else (some false)) else (some false)))) = some r := H
       have A28 := Aside0.mk A280
       clear A280
       replace H := Option.bind_eq_some_iff.mp H
       obtain ⟨⟨t181, t182⟩, A290, H⟩ := H
       replace H : ((member_After.f a0_0 a0_1 a0_2 a0_3 a0_4 a1 a2 a3 0).bind fun bt183 => (if true = true then (if t180 = 0 then (if t182 = 0 then (if bt183.2 = 0 then (if t179 = 1 then ((frame_Has.f t181 t175).bind fun t185 => (if t185 = true then ((frame_Has.f bt183.1 t175).bind fun t186 => (if t186 = true then (some false) else ((frame_Without.f t181 t175).bind fun t187 => (some (t187 == bt183.1))))) else (some false))) else (some false)) else (some false)) else (some false)) else (some false)) else (some false))) = some r := H
       have A29 := Aside0.mk A290
       clear A290
       replace H := Option.bind_eq_some_iff.mp H
       obtain ⟨⟨t183, t184⟩, A300, H⟩ := H
       replace H : (if true = true then (if t180 = 0 then (if t182 = 0 then (if t184 = 0 then (if t179 = 1 then ((frame_Has.f t181 t175).bind fun t185 => (if t185 = true then ((frame_Has.f t183 t175).bind fun t186 => (if t186 = true then (some false) else ((frame_Without.f t181 t175).bind fun t187 => (some (t187 == t183))))) else (some false))) else (some false)) else (some false)) else (some false)) else (some false)) else (some false)) = some r := H
       have A30 := Aside0.mk A300
       clear A300
       have H1 : (if t180 = 0 then (if t182 = 0 then (if t184 = 0 then (if t179 = 1 then ((frame_Has.f t181 t175).bind fun t185 => (if t185 = true then ((frame_Has.f t183 t175).bind fun t186 => (if t186 = true then (some false) else ((frame_Without.f t181 t175).bind fun t187 => (some (t187 == t183))))) else (some false))) else (some false)) else (some false)) else (some false)) else (some false)) = some r := by first | (rw [if_pos rfl] at H; exact H) | exact H
       clear H
       have H := H1
       clear H1
       by_cases c31 : t180 = 0
       ·rw [if_pos c31] at H
        have c31b0 : (t180 == 0) = true := beq_iff_eq.mpr c31
        have c31b1 : (t180 != 0) = false := bne_eq_false_iff_eq.mpr c31
        clear c31
        by_cases c32 : t182 = 0
        ·rw [if_pos c32] at H
         have c32b0 : (t182 == 0) = true := beq_iff_eq.mpr c32
         have c32b1 : (t182 != 0) = false := bne_eq_false_iff_eq.mpr c32
         clear c32
         by_cases c33 : t184 = 0
         ·rw [if_pos c33] at H
          have c33b0 : (t184 == 0) = true := beq_iff_eq.mpr c33
          have c33b1 : (t184 != 0) = false := bne_eq_false_iff_eq.mpr c33
          clear c33
          by_cases c34 : t179 = 1
          ·rw [if_pos c34] at H
           have c34b0 : (t179 == 1) = true := beq_iff_eq.mpr c34
           have c34b1 : (t179 != 1) = false := bne_eq_false_iff_eq.mpr c34
           clear c34
           replace H := Option.bind_eq_some_iff.mp H
           obtain ⟨t185, A350, H⟩ := H
           replace H : (if t185 = true then ((frame_Has.f t183 t175).bind fun t186 => (if t186 = true then (some false) else ((frame_Without.f t181 t175).bind fun t187 => (some (t187 == t183))))) else (some false)) = some r := H
           have A35 := Aside0.mk A350
           clear A350
           by_cases c36 : t185 = true
           ·subst c36
            have H1 : ((frame_Has.f t183 t175).bind fun t186 => (if t186 = true then (some false) else ((frame_Without.f t181 t175).bind fun t187 => (some (t187 == t183))))) = some r := by rw [if_pos rfl] at H; exact H
            clear H
            have H := H1
            clear H1
            replace H := Option.bind_eq_some_iff.mp H
            obtain ⟨t186, A370, H⟩ := H
            replace H : (if t186 = true then (some false) else ((frame_Without.f t181 t175).bind fun t187 => (some (t187 == t183)))) = some r := H
            have A37 := Aside0.mk A370
            clear A370
            by_cases c38 : t186 = true
            ·subst c38
             have H1 : (some false) = some r := by rw [if_pos rfl] at H; exact H
             clear H
             have H := H1
             clear H1
             obtain rfl := Option.some.inj H
             exact absurd hr_.out (by decide)
            ·replace c38 := Bool.eq_false_iff.mpr c38
             subst c38
             have H1 : ((frame_Without.f t181 t175).bind fun t187 => (some (t187 == t183))) = some r := by rw [if_neg (show ¬ (false = true) by decide)] at H; exact H
             clear H
             have H := H1
             clear H1
             replace H := Option.bind_eq_some_iff.mp H
             obtain ⟨t187, A390, H⟩ := H
             replace H : (some (t187 == t183)) = some r := H
             have A39 := Aside0.mk A390
             clear A390
             obtain rfl := Option.some.inj H
             have hnb40 := NB173_178.out
             have hnc40 := NB178_173.out
             have hcz41_0 : wc.cell? ⟨gb173, 0, none⟩ = some (.int .i64 a0_0) := (blk_cell BK173.out 0).trans rfl
             have hcz41_1 : wc.cell? ⟨gb173, 1, none⟩ = some (.int .i64 a0_1) := (blk_cell BK173.out 1).trans rfl
             have hcz41_2 : wc.cell? ⟨gb173, 2, none⟩ = some (.int .i64 a0_2) := (blk_cell BK173.out 2).trans rfl
             have hcz41_3 : wc.cell? ⟨gb173, 3, none⟩ = some (.int .i64 a0_3) := (blk_cell BK173.out 3).trans rfl
             have hcz41_4 : wc.cell? ⟨gb173, 4, none⟩ = some (.int .i64 a0_4) := (blk_cell BK173.out 4).trans rfl
             have hfz41_0 := blk_frozen BK173.out 0
             have hfz41_1 := blk_frozen BK173.out 1
             have hfz41_2 := blk_frozen BK173.out 2
             have hfz41_3 := blk_frozen BK173.out 3
             have hfz41_4 := blk_frozen BK173.out 4
             have hcz42_0 : wc.cell? ⟨gb178, 0, none⟩ = some (.int .i64 x179000_20) := (blk_cell BK178.out 0).trans rfl
             have hcz42_1 : wc.cell? ⟨gb178, 1, none⟩ = some (.int .i64 t175) := (blk_cell BK178.out 1).trans rfl
             have hcz42_2 : wc.cell? ⟨gb178, 2, none⟩ = some (.int .u64 a3) := (blk_cell BK178.out 2).trans rfl
             have hcz42_3 : wc.cell? ⟨gb178, 3, none⟩ = some (.int .u16 t177) := (blk_cell BK178.out 3).trans rfl
             have hfz42_0 := blk_frozen BK178.out 0
             have hfz42_1 := blk_frozen BK178.out 1
             have hfz42_2 := blk_frozen BK178.out 2
             have hfz42_3 := blk_frozen BK178.out 3
             go_wp2_with (first | ((with_reducible refine gate_callee (f := 14) rfl ?_); refine goesL_ (some 62) rfl rfl Try.func14 (by kernel_rfl) rfl #[.agg #[.int .i64 a0_0, .int .i64 a0_1, .int .i64 a0_2, .int .i64 a0_3, .int .i64 a0_4], .int .i64 a1, .int .u16 a2, .int .u64 a3, .agg #[.int .i64 x179000_20, .int .i64 t175, .int .u64 a3, .int .u16 t177]] rfl (by (try simp only [List.map_toArray, List.map_cons, List.map_nil]); first | done | rfl | (simp only [List.length_drop, List.length_take]; rfl)) ?_; (with_reducible refine (member_Judge.calls kj20 a0_0 a0_1 a0_2 a0_3 a0_4 a1 a2 a3 x179000_20 t175 a3 t177 t179 t180 _ A28.out).mono ?_); rintro e w43 ⟨rfl, hb⟩; refine ⟨_, rfl, ?_⟩; have n0_ := Aside0.mk (blk_below (g := gb173) (o := .cells #[.int .i64 a0_0, .int .i64 a0_1, .int .i64 a0_2, .int .i64 a0_3, .int .i64 a0_4] 32 (0, 0)) (by (with_reducible repeat (first | refine blk_drewN ?_ _ | refine blk_drew ?_ | refine blk_alloc ?_ _)); exact BK173.out) hb); have n1_ := Aside0.mk (blk_below (g := gb178) (o := .cells #[.int .i64 x179000_20, .int .i64 t175, .int .u64 a3, .int .u16 t177] 36 (0, 0)) (by (with_reducible repeat (first | refine blk_drewN ?_ _ | refine blk_drew ?_ | refine blk_alloc ?_ _)); exact BK178.out) hb); have n2_ := Aside0.mk (below_step (by repeat (first | (with_reducible first | exact HB.out | apply below_alloc | apply pw_below_drewN | apply below_drew1 | refine below_set ?_ GE173.out | refine below_set ?_ GE178.out) | exact HB.out)) hb); clear BK173; clear BK178; clear HB; have BK173 := n0_; have BK178 := n1_; have HB := n2_; clear n0_ n1_ n2_; (try clear hb); (try clear hb2); (try clear hk); (try clear hi); have hcz44_0 : w43.cell? ⟨gb173, 0, none⟩ = some (.int .i64 a0_0) := (blk_cell BK173.out 0).trans rfl; have hcz44_1 : w43.cell? ⟨gb173, 1, none⟩ = some (.int .i64 a0_1) := (blk_cell BK173.out 1).trans rfl; have hcz44_2 : w43.cell? ⟨gb173, 2, none⟩ = some (.int .i64 a0_2) := (blk_cell BK173.out 2).trans rfl; have hcz44_3 : w43.cell? ⟨gb173, 3, none⟩ = some (.int .i64 a0_3) := (blk_cell BK173.out 3).trans rfl; have hcz44_4 : w43.cell? ⟨gb173, 4, none⟩ = some (.int .i64 a0_4) := (blk_cell BK173.out 4).trans rfl; have hfz44_0 := blk_frozen BK173.out 0; have hfz44_1 := blk_frozen BK173.out 1; have hfz44_2 := blk_frozen BK173.out 2; have hfz44_3 := blk_frozen BK173.out 3; have hfz44_4 := blk_frozen BK173.out 4) | ((with_reducible refine gate_callee (f := 16) rfl ?_); refine goesL_ (some 71) rfl rfl Try.func16 (by kernel_rfl) rfl #[.agg #[.int .i64 a0_0, .int .i64 a0_1, .int .i64 a0_2, .int .i64 a0_3, .int .i64 a0_4], .int .i64 a1, .int .u16 a2, .int .u64 a3, .int .i64 t179] rfl (by (try simp only [List.map_toArray, List.map_cons, List.map_nil]); first | done | rfl | (simp only [List.length_drop, List.length_take]; rfl)) ?_; (with_reducible refine (member_After.calls a0_0 a0_1 a0_2 a0_3 a0_4 a1 a2 a3 t179 t181 t182 _ A29.out).mono ?_); rintro e w45 ⟨rfl, hb⟩; refine ⟨_, rfl, ?_⟩; have n0_ := Aside0.mk (blk_below (g := gb173) (o := .cells #[.int .i64 a0_0, .int .i64 a0_1, .int .i64 a0_2, .int .i64 a0_3, .int .i64 a0_4] 32 (0, 0)) (by (with_reducible repeat (first | refine blk_drewN ?_ _ | refine blk_drew ?_ | refine blk_alloc ?_ _)); exact BK173.out) hb); have n1_ := Aside0.mk (blk_below (g := gb178) (o := .cells #[.int .i64 x179000_20, .int .i64 t175, .int .u64 a3, .int .u16 t177] 36 (0, 0)) (by (with_reducible repeat (first | refine blk_drewN ?_ _ | refine blk_drew ?_ | refine blk_alloc ?_ _)); exact BK178.out) hb); have n2_ := Aside0.mk (below_step (by repeat (first | (with_reducible first | exact HB.out | apply below_alloc | apply pw_below_drewN | apply below_drew1 | refine below_set ?_ GE173.out | refine below_set ?_ GE178.out) | exact HB.out)) hb); clear BK173; clear BK178; clear HB; have BK173 := n0_; have BK178 := n1_; have HB := n2_; clear n0_ n1_ n2_; (try clear hb); (try clear hb2); (try clear hk); (try clear hi); have hcz46_0 : w45.cell? ⟨gb173, 0, none⟩ = some (.int .i64 a0_0) := (blk_cell BK173.out 0).trans rfl; have hcz46_1 : w45.cell? ⟨gb173, 1, none⟩ = some (.int .i64 a0_1) := (blk_cell BK173.out 1).trans rfl; have hcz46_2 : w45.cell? ⟨gb173, 2, none⟩ = some (.int .i64 a0_2) := (blk_cell BK173.out 2).trans rfl; have hcz46_3 : w45.cell? ⟨gb173, 3, none⟩ = some (.int .i64 a0_3) := (blk_cell BK173.out 3).trans rfl; have hcz46_4 : w45.cell? ⟨gb173, 4, none⟩ = some (.int .i64 a0_4) := (blk_cell BK173.out 4).trans rfl; have hfz46_0 := blk_frozen BK173.out 0; have hfz46_1 := blk_frozen BK173.out 1; have hfz46_2 := blk_frozen BK173.out 2; have hfz46_3 := blk_frozen BK173.out 3; have hfz46_4 := blk_frozen BK173.out 4) | ((with_reducible refine gate_callee (f := 16) rfl ?_); refine goesL_ (some 79) rfl rfl Try.func16 (by kernel_rfl) rfl #[.agg #[.int .i64 a0_0, .int .i64 a0_1, .int .i64 a0_2, .int .i64 a0_3, .int .i64 a0_4], .int .i64 a1, .int .u16 a2, .int .u64 a3, .int .i64 0] rfl (by (try simp only [List.map_toArray, List.map_cons, List.map_nil]); first | done | rfl | (simp only [List.length_drop, List.length_take]; rfl)) ?_; (with_reducible refine (member_After.calls a0_0 a0_1 a0_2 a0_3 a0_4 a1 a2 a3 0 t183 t184 _ A30.out).mono ?_); rintro e w47 ⟨rfl, hb⟩; refine ⟨_, rfl, ?_⟩; have n0_ := Aside0.mk (blk_below (g := gb173) (o := .cells #[.int .i64 a0_0, .int .i64 a0_1, .int .i64 a0_2, .int .i64 a0_3, .int .i64 a0_4] 32 (0, 0)) (by (with_reducible repeat (first | refine blk_drewN ?_ _ | refine blk_drew ?_ | refine blk_alloc ?_ _)); exact BK173.out) hb); have n1_ := Aside0.mk (blk_below (g := gb178) (o := .cells #[.int .i64 x179000_20, .int .i64 t175, .int .u64 a3, .int .u16 t177] 36 (0, 0)) (by (with_reducible repeat (first | refine blk_drewN ?_ _ | refine blk_drew ?_ | refine blk_alloc ?_ _)); exact BK178.out) hb); have n2_ := Aside0.mk (below_step (by repeat (first | (with_reducible first | exact HB.out | apply below_alloc | apply pw_below_drewN | apply below_drew1 | refine below_set ?_ GE173.out | refine below_set ?_ GE178.out) | exact HB.out)) hb); clear BK173; clear BK178; clear HB; have BK173 := n0_; have BK178 := n1_; have HB := n2_; clear n0_ n1_ n2_; (try clear hb); (try clear hb2); (try clear hk); (try clear hi)) | (go_at_call 15; (with_reducible refine (frame_Has.calls t181 t175 true _ A35.out).mono ?_); rintro e w' ⟨rfl, ⟨nd, rfl⟩⟩) | (go_at_call 15; (with_reducible refine (frame_Has.calls t183 t175 false _ A37.out).mono ?_); rintro e w' ⟨rfl, ⟨nd, rfl⟩⟩) | (go_at_call 18; (with_reducible refine (frame_Without.calls t181 t175 t187 _ A39.out).mono ?_); rintro e w' ⟨rfl, ⟨nd, rfl⟩⟩))
             go_ret
             exact ⟨by first | rfl | (simp [errW_none, errW_some] <;> rfl) | (simp [*, errW_none, errW_some] <;> rfl), by repeat (first | (with_reducible first | exact HB.out | apply below_alloc | apply pw_below_drewN | apply below_drew1 | refine below_set ?_ GE173.out | refine below_set ?_ GE178.out) | exact HB.out)⟩
           ·replace c36 := Bool.eq_false_iff.mpr c36
            subst c36
            have H1 : (some false) = some r := by rw [if_neg (show ¬ (false = true) by decide)] at H; exact H
            clear H
            have H := H1
            clear H1
            obtain rfl := Option.some.inj H
            exact absurd hr_.out (by decide)
          ·rw [if_neg c34] at H
           have c34b0 : (t179 == 1) = false := beq_eq_false_iff_ne.mpr c34
           have c34b1 : (t179 != 1) = true := bne_iff_ne.mpr c34
           obtain rfl := Option.some.inj H
           exact absurd hr_.out (by decide)
         ·rw [if_neg c33] at H
          have c33b0 : (t184 == 0) = false := beq_eq_false_iff_ne.mpr c33
          have c33b1 : (t184 != 0) = true := bne_iff_ne.mpr c33
          obtain rfl := Option.some.inj H
          exact absurd hr_.out (by decide)
        ·rw [if_neg c32] at H
         have c32b0 : (t182 == 0) = false := beq_eq_false_iff_ne.mpr c32
         have c32b1 : (t182 != 0) = true := bne_iff_ne.mpr c32
         obtain rfl := Option.some.inj H
         exact absurd hr_.out (by decide)
       ·rw [if_neg c31] at H
        have c31b0 : (t180 == 0) = false := beq_eq_false_iff_ne.mpr c31
        have c31b1 : (t180 != 0) = true := bne_iff_ne.mpr c31
        obtain rfl := Option.some.inj H
        exact absurd hr_.out (by decide)
 ·replace c7 := Bool.eq_false_iff.mpr c7
  subst c7
  have H1 : (some false) = some r := by rw [if_neg (show ¬ (false = true) by decide)] at H; exact H
  clear H
  have H := H1
  clear H1
  obtain rfl := Option.some.inj H
  exact absurd hr_.out (by decide)

end Go.Proofs.Ytcanccdhedmdmaa.Print
