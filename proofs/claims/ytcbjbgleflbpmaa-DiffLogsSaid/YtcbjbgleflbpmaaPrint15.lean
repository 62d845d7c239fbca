-- PRINTED by print.py (a twelfth state) out of the translation. Not trusted: Lean checks it.
import Derived.Test.YtcbjbgleflbpmaaPrint0
import Derived.Test.YtcbjbgleflbpmaaPrint5
import Derived.Test.YtcbjbgleflbpmaaPrint14
namespace Go.Proofs.Ytcbjbgleflbpmaa.Print
open Go.RowKit Go.Proofs.YtcbjbgleflbpmaaW.PrintWords Go.Proofs.YtcbjbgleflbpmaaW.PrintLast Go.Proofs.YtcbjbgleflbpmaaW.PrintMore Go.Proofs.YtcbjbgleflbpmaaX
attribute [local go_sem] str_lss str_geq max2_int min2_int max_two min_two max_three min_three max_four min_four   -- for this text's walks alone
set_option linter.unusedVariables false
set_option linter.unusedSimpArgs false

/-! ### diff_Logs: function 5 -/
def diff_Logs.f (k : Nat) (l0 : List Int) (l1 : List Int) : Option (Int × Int × Int × Int × Int × Int × Int × Int × Int × Int × Int × Int × Int × Int × Int) := (event_Decode.f k l0).bind fun bt222 => (if bt222.2.2 = 0 then ((event_Decode.f k l1).bind fun bt227 => (if bt227.2.2 = 0 then ((diff_Events.f k bt222.1 bt227.1).bind fun bt232 => (some (bt232.1, bt232.2.1, bt232.2.2.1, bt232.2.2.2.1, bt232.2.2.2.2.1, bt232.2.2.2.2.2.1, bt232.2.2.2.2.2.2.1, bt232.2.2.2.2.2.2.2.1, bt232.2.2.2.2.2.2.2.2.1, bt232.2.2.2.2.2.2.2.2.2.1, bt232.2.2.2.2.2.2.2.2.2.2.1, bt232.2.2.2.2.2.2.2.2.2.2.2, 0, 0, 0))) else (some (0, 0, 0, 0, 0, 0, 0, 0, 0, 0, 0, 0, 2, bt227.2.1, bt227.2.2)))) else (some (0, 0, 0, 0, 0, 0, 0, 0, 0, 0, 0, 0, 1, bt222.2.1, bt222.2.2)))
theorem diff_Logs.mono : ∀ a0 a1 k, LeO (diff_Logs.f k a0 a1) (diff_Logs.f (k + 1) a0 a1) := by
 intro a0 a1 k
 unfold diff_Logs.f
 repeat' first
   | (with_reducible exact diff_Events.mono _ _ _)
   | (with_reducible exact event_Decode.mono _ _)
   | (with_reducible exact LeO.refl _)
   | (with_reducible exact LeO.none _)
   | (with_reducible refine LeO.ite ?_ ?_)
   | (with_reducible refine LeO.bind ?_ (fun _ => ?_))
   | exact diff_Events.mono _ _ _
   | exact event_Decode.mono _ _
   | exact LeO.none _
   | refine LeO.ite ?_ ?_
   | refine LeO.bind ?_ (fun _ => ?_)
set_option maxHeartbeats 8000000 in
set_option maxRecDepth 100000 in
theorem diff_Logs.calls (k : Nat) (A0 : Option Addr) (c0 : Nat) (l0 : List Int) (A1 : Option Addr) (c1 : Nat) (l1 : List Int) (r1 : Int) (r2 : Int) (r3 : Int) (r4 : Int) (r5 : Int) (r6 : Int) (r7 : Int) (r8 : Int) (r9 : Int) (r10 : Int) (r11 : Int) (r12 : Int) (r13 : Int) (r14 : Int) (r15 : Int) (w : World) (hr0 : Kd.C (Kd.int .u8) w A0 l0.length l0) (hc0 : l0.length ≤ c0) (hr1 : Kd.C (Kd.int .u8) w A1 l1.length l1) (hc1 : l1.length ≤ c1) (h : diff_Logs.f k l0 l1 = some (r1, r2, r3, r4, r5, r6, r7, r8, r9, r10, r11, r12, r13, r14, r15)) :
  Calls Try.prog 5 #[.slice A0 l0.length c0, .slice A1 l1.length c1] w fun e w' => e = .returned (.tuple #[.agg #[.int .i64 r1, .int .i64 r2, .int .i64 r3, .int .i64 r4, .int .i64 r5, .int .i64 r6, .int .i64 r7, .int .i64 r8, .int .i64 r9, .int .i64 r10, .int .i64 r11, .int .i64 r12], .int .i64 r13, .int .i64 r14, .int .i64 r15]) ∧ Below w.heap.size w w' := by
 have hu27 := Try.underlying27
 have hu34 := Try.underlying34
 have hu35 := Try.underlying35
 have HR0 := Aside0.mk hr0
 have HC0 := Aside0.mk hc0
 clear hr0 hc0
 have HR1 := Aside0.mk hr1
 have HC1 := Aside0.mk hc1
 clear hr1 hc1
 have HB := Aside0.mk (Below.refl w.heap.size w)
 have H : ((event_Decode.f k l0).bind fun bt222 => (if bt222.2.2 = 0 then ((event_Decode.f k l1).bind fun bt227 => (if bt227.2.2 = 0 then ((diff_Events.f k bt222.1 bt227.1).bind fun bt232 => (some (bt232.1, bt232.2.1, bt232.2.2.1, bt232.2.2.2.1, bt232.2.2.2.2.1, bt232.2.2.2.2.2.1, bt232.2.2.2.2.2.2.1, bt232.2.2.2.2.2.2.2.1, bt232.2.2.2.2.2.2.2.2.1, bt232.2.2.2.2.2.2.2.2.2.1, bt232.2.2.2.2.2.2.2.2.2.2.1, bt232.2.2.2.2.2.2.2.2.2.2.2, 0, 0, 0))) else (some (0, 0, 0, 0, 0, 0, 0, 0, 0, 0, 0, 0, 2, bt227.2.1, bt227.2.2)))) else (some (0, 0, 0, 0, 0, 0, 0, 0, 0, 0, 0, 0, 1, bt222.2.1, bt222.2.2)))) = some (r1, r2, r3, r4, r5, r6, r7, r8, r9, r10, r11, r12, r13, r14, r15) := h
 clear h
 have HU3 := Aside0.mk H
 clear H
 go_enter Try.func5, Try.ntmps5
 go_wp2_with (first | ((with_reducible refine gate_dst (N := 4) rfl ?_); refine box_event ?hg (N := 4) ?hd (cs := #[.int .i64 0, .int .i64 0, .int .i64 0, .int .i64 0, .int .i64 0, .int .i64 0, .int .i64 0, .int .i64 0, .int .i64 0, .int .i64 0, .int .i64 0, .int .i64 0]) (t := 27) ?hr ?_; (case hd => rfl); (case hg => rfl); (case hr => first | (go_simp; done) | (go_simp; rfl)); intro gb220 hg w4 hbox hb; have n0_ := Aside0.mk (below_step (by repeat (first | (with_reducible first | exact HB.out | apply below_alloc | apply pw_below_drewN | apply below_drew1) | exact HB.out)) hb); have n1_ := Aside0.mk (hbox); have n2_ := Aside0.mk ((by rw [hg]; exact (below_size (by repeat (first | (with_reducible first | exact HB.out | apply below_alloc | apply pw_below_drewN | apply below_drew1) | exact HB.out))) : w.heap.size ≤ gb220)); have n3_ := Aside0.mk ((by rw [hg]; exact (below_size (by repeat (first | (with_reducible first | exact HB.out | apply below_alloc | apply pw_below_drewN | apply below_drew1) | exact HB.out))) : w.heap.size ≤ gb220)); clear HB; have HB := n0_; have BK220 := n1_; have GW220 := n2_; have GE220 := n3_; clear n0_ n1_ n2_ n3_; clear hb hbox hg) | ((with_reducible refine gate_dst (N := 8) rfl ?_); refine box_event ?hg (N := 8) ?hd (cs := #[.slice none 0 0, .slice none 0 0]) (t := 34) ?hr ?_; (case hd => rfl); (case hg => rfl); (case hr => first | (go_simp; done) | (go_simp; rfl)); intro gb221 hg w5 hbox hb; have n0_ := Aside0.mk (blk_below (g := gb220) (o := .cells #[.int .i64 0, .int .i64 0, .int .i64 0, .int .i64 0, .int .i64 0, .int .i64 0, .int .i64 0, .int .i64 0, .int .i64 0, .int .i64 0, .int .i64 0, .int .i64 0] 27 (0, 0)) (by (with_reducible repeat (first | refine blk_drewN ?_ _ | refine blk_drew ?_ | refine blk_alloc ?_ _)); exact BK220.out) hb); have n1_ := Aside0.mk (below_step (by repeat (first | (with_reducible first | exact HB.out | apply below_alloc | apply pw_below_drewN | apply below_drew1 | refine below_set ?_ GE220.out) | exact HB.out)) hb); have n2_ := Aside0.mk (hbox); have n3_ := Aside0.mk ((by rw [hg]; exact (below_size (by repeat (first | (with_reducible first | exact HB.out | apply below_alloc | apply pw_below_drewN | apply below_drew1 | refine below_set ?_ GE220.out) | exact HB.out))) : w.heap.size ≤ gb221)); have n4_ := Aside0.mk ((by rw [hg]; exact (below_size (by repeat (first | (with_reducible first | exact HB.out | apply below_alloc | apply pw_below_drewN | apply below_drew1 | refine below_set ?_ GE220.out) | exact HB.out))) : w.heap.size ≤ gb221)); have n5_ := Aside0.mk ((by rw [hg]; exact Nat.ne_of_lt (blk_lt (g := gb220) (o := .cells #[.int .i64 0, .int .i64 0, .int .i64 0, .int .i64 0, .int .i64 0, .int .i64 0, .int .i64 0, .int .i64 0, .int .i64 0, .int .i64 0, .int .i64 0, .int .i64 0] 27 (0, 0)) (by (with_reducible repeat (first | refine blk_drewN ?_ _ | refine blk_drew ?_ | refine blk_alloc ?_ _)); exact BK220.out)) : gb220 ≠ gb221)); have n6_ := Aside0.mk ((by rw [hg]; exact Nat.ne_of_gt (blk_lt (g := gb220) (o := .cells #[.int .i64 0, .int .i64 0, .int .i64 0, .int .i64 0, .int .i64 0, .int .i64 0, .int .i64 0, .int .i64 0, .int .i64 0, .int .i64 0, .int .i64 0, .int .i64 0] 27 (0, 0)) (by (with_reducible repeat (first | refine blk_drewN ?_ _ | refine blk_drew ?_ | refine blk_alloc ?_ _)); exact BK220.out)) : gb221 ≠ gb220)); clear BK220; clear HB; have BK220 := n0_; have HB := n1_; have BK221 := n2_; have GW221 := n3_; have GE221 := n4_; have NB220_221 := n5_; have NB221_220 := n6_; clear n0_ n1_ n2_ n3_ n4_ n5_ n6_; clear hb hbox hg))
 refine wp_loop_rounds 9 ?_
 rw [rounds_succ]
 have H := HU3.out
 clear HU3
 replace H := Option.bind_eq_some_iff.mp H
 obtain ⟨⟨t222, t223, t224⟩, A60, H⟩ := H
 replace H : (if t224 = 0 then ((event_Decode.f k l1).bind fun bt227 => (if bt227.2.2 = 0 then ((diff_Events.f k t222 bt227.1).bind fun bt232 => (some (bt232.1, bt232.2.1, bt232.2.2.1, bt232.2.2.2.1, bt232.2.2.2.2.1, bt232.2.2.2.2.2.1, bt232.2.2.2.2.2.2.1, bt232.2.2.2.2.2.2.2.1, bt232.2.2.2.2.2.2.2.2.1, bt232.2.2.2.2.2.2.2.2.2.1, bt232.2.2.2.2.2.2.2.2.2.2.1, bt232.2.2.2.2.2.2.2.2.2.2.2, 0, 0, 0))) else (some (0, 0, 0, 0, 0, 0, 0, 0, 0, 0, 0, 0, 2, bt227.2.1, bt227.2.2)))) else (some (0, 0, 0, 0, 0, 0, 0, 0, 0, 0, 0, 0, 1, t223, t224))) = some (r1, r2, r3, r4, r5, r6, r7, r8, r9, r10, r11, r12, r13, r14, r15) := H
 have A6 := Aside0.mk A60
 clear A60
 by_cases c7 : t224 = 0
 ·rw [if_pos c7] at H
  have c7b0 : (t224 == 0) = true := beq_iff_eq.mpr c7
  have c7b1 : (t224 != 0) = false := bne_eq_false_iff_eq.mpr c7
  clear c7
  have HU8 := Aside0.mk H
  clear H
  have hai9 : ∀ w_ : World, (Instr.index 35 (.agg #[.slice A0 l0.length c0, .slice A1 l1.length c1]) (.int .i64 0)).run Try.prog w_ = .ok (.slice A0 l0.length c0) w_ := fun _ => (by kernel_rfl)
  go_wp2_with (first | ((with_reducible refine gate_callee (f := 8) rfl ?_); refine goesL_ (some 23) rfl rfl Try.func8 (by kernel_rfl) rfl #[.slice A0 l0.length c0] rfl (by (try simp only [List.map_toArray, List.map_cons, List.map_nil]); first | done | rfl | (simp only [List.length_drop, List.length_take]; first | rfl | (rw [Nat.min_eq_left (Int.toNat_le.2 (of_decide_eq_true (by assumption)))]; rfl))) ?_; (with_reducible refine (event_Decode.calls k _ _ l0 t222 t223 t224 _ ?side1 ?side2 A6.out).mono ?_); (case side1 => repeat (first | exact (Kd.C_below HR0.out HB.out) | (with_reducible refine Kd.C_alloc ?_ _) | (with_reducible refine Kd.C_drewN ?_ _) | (with_reducible refine Kd.C_drew ?_))); (case side2 => exact HC0.out); rintro e w10 ⟨v225, rfl, ho0, hb⟩; refine ⟨_, rfl, ?_⟩; have n0_ := Aside0.mk (Kd.R_lower ho0 (below_size (by repeat (first | (with_reducible first | exact HB.out | apply below_alloc | apply pw_below_drewN | apply below_drew1 | refine below_set ?_ GE220.out | refine below_set ?_ GE221.out) | exact HB.out)))); have n1_ := Aside0.mk (blk_below (g := gb220) (o := .cells #[.int .i64 0, .int .i64 0, .int .i64 0, .int .i64 0, .int .i64 0, .int .i64 0, .int .i64 0, .int .i64 0, .int .i64 0, .int .i64 0, .int .i64 0, .int .i64 0] 27 (0, 0)) (by (with_reducible repeat (first | refine blk_drewN ?_ _ | refine blk_drew ?_ | refine blk_alloc ?_ _)); exact BK220.out) hb); have n2_ := Aside0.mk (blk_below (g := gb221) (o := .cells #[.slice none 0 0, .slice none 0 0] 34 (0, 0)) (by (with_reducible repeat (first | refine blk_drewN ?_ _ | refine blk_drew ?_ | refine blk_alloc ?_ _)); exact BK221.out) hb); have n3_ := Aside0.mk (below_step (by repeat (first | (with_reducible first | exact HB.out | apply below_alloc | apply pw_below_drewN | apply below_drew1 | refine below_set ?_ GE220.out | refine below_set ?_ GE221.out) | exact HB.out)) hb); clear BK220; clear BK221; clear HB; have HO226 := n0_; have BK220 := n1_; have BK221 := n2_; have HB := n3_; clear n0_ n1_ n2_ n3_; (try clear hb); (try clear hb2); (try clear hk); (try clear hi); (try clear ho0); have haa11 : ∀ w_ : World, (Instr.indexAt 34 (.pointer (some ⟨gb221, 0, none⟩)) (.int .i64 0)).run Try.prog w_ = .ok (.pointer (some ⟨gb221, 0, none⟩)) w_ := fun _ => (by kernel_rfl); obtain ⟨Ao12, co12, eo12⟩ := Kd.R_slice HO226.out; subst eo12; have hnb13 := NB221_220.out; have hnc13 := NB220_221.out; have hcz14_0 : w10.cell? ⟨gb221, 0, none⟩ = some (.slice none 0 0) := (blk_cell BK221.out 0).trans rfl; have hcz14_1 : w10.cell? ⟨gb221, 1, none⟩ = some (.slice none 0 0) := (blk_cell BK221.out 1).trans rfl; have hfz14_0 := blk_frozen BK221.out 0; have hfz14_1 := blk_frozen BK221.out 1))
  rw [rounds_succ]
  have H := HU8.out
  clear HU8
  replace H := Option.bind_eq_some_iff.mp H
  obtain ⟨⟨t227, t228, t229⟩, A150, H⟩ := H
  replace H : (if t229 = 0 then ((diff_Events.f k t222 t227).bind fun bt232 => (some (bt232.1, bt232.2.1, bt232.2.2.1, bt232.2.2.2.1, bt232.2.2.2.2.1, bt232.2.2.2.2.2.1, bt232.2.2.2.2.2.2.1, bt232.2.2.2.2.2.2.2.1, bt232.2.2.2.2.2.2.2.2.1, bt232.2.2.2.2.2.2.2.2.2.1, bt232.2.2.2.2.2.2.2.2.2.2.1, bt232.2.2.2.2.2.2.2.2.2.2.2, 0, 0, 0))) else (some (0, 0, 0, 0, 0, 0, 0, 0, 0, 0, 0, 0, 2, t228, t229))) = some (r1, r2, r3, r4, r5, r6, r7, r8, r9, r10, r11, r12, r13, r14, r15) := H
  have A15 := Aside0.mk A150
  clear A150
  by_cases c16 : t229 = 0
  ·rw [if_pos c16] at H
   have c16b0 : (t229 == 0) = true := beq_iff_eq.mpr c16
   have c16b1 : (t229 != 0) = false := bne_eq_false_iff_eq.mpr c16
   clear c16
   have HU17 := Aside0.mk H
   clear H
   have hai18 : ∀ w_ : World, (Instr.index 35 (.agg #[.slice A0 l0.length c0, .slice A1 l1.length c1]) (.int .i64 1)).run Try.prog w_ = .ok (.slice A1 l1.length c1) w_ := fun _ => (by kernel_rfl)
   go_wp2_with (first | ((with_reducible refine gate_callee (f := 8) rfl ?_); refine goesL_ (some 23) rfl rfl Try.func8 (by kernel_rfl) rfl #[.slice A1 l1.length c1] rfl (by (try simp only [List.map_toArray, List.map_cons, List.map_nil]); first | done | rfl | (simp only [List.length_drop, List.length_take]; first | rfl | (rw [Nat.min_eq_left (Int.toNat_le.2 (of_decide_eq_true (by assumption)))]; rfl))) ?_; (with_reducible refine (event_Decode.calls k _ _ l1 t227 t228 t229 _ ?side1 ?side2 A15.out).mono ?_); (case side1 => exact Kd.C_below HR1.out (by repeat (first | (with_reducible first | exact HB.out | apply below_alloc | apply pw_below_drewN | apply below_drew1 | refine below_set ?_ GE220.out | refine below_set ?_ GE221.out) | exact HB.out))); (case side2 => exact HC1.out); rintro e w19 ⟨v230, rfl, ho0, hb⟩; refine ⟨_, rfl, ?_⟩; have n0_ := Aside0.mk (Kd.R_elder' (by (with_reducible repeat (first | apply Kd.R_alloc | apply Kd.R_drewN | apply Kd.R_drew)); exact (Kd.R_mono (Kd.R_far (p := ⟨gb221, 0, none⟩) (Kd.R_types HO226.out BK221.out (by decide)) (fun _ hk => hk.2) (.slice Ao12 t222.length co12)) (fun _ h_ => h_.1))) (Kd.R_base ho0) hb); have n1_ := Aside0.mk (Kd.R_lower (Kd.R_new' ho0 (Kd.R_lt (by (with_reducible repeat (first | apply Kd.R_alloc | apply Kd.R_drewN | apply Kd.R_drew)); exact (Kd.R_mono (Kd.R_far (p := ⟨gb221, 0, none⟩) (Kd.R_types HO226.out BK221.out (by decide)) (fun _ hk => hk.2) (.slice Ao12 t222.length co12)) (fun _ h_ => h_.1))))) (below_size (by repeat (first | (with_reducible first | exact HB.out | apply below_alloc | apply pw_below_drewN | apply below_drew1 | refine below_set ?_ GE220.out | refine below_set ?_ GE221.out) | exact HB.out)))); have n2_ := Aside0.mk (blk_below (g := gb220) (o := .cells #[.int .i64 0, .int .i64 0, .int .i64 0, .int .i64 0, .int .i64 0, .int .i64 0, .int .i64 0, .int .i64 0, .int .i64 0, .int .i64 0, .int .i64 0, .int .i64 0] 27 (0, 0)) (by (with_reducible repeat (first | refine blk_drewN ?_ _ | refine blk_drew ?_ | refine blk_alloc ?_ _)); refine blk_far ?_ NB220_221.out _; (with_reducible repeat (first | refine blk_drewN ?_ _ | refine blk_drew ?_ | refine blk_alloc ?_ _)); exact BK220.out) hb); have n3_ := Aside0.mk (blk_below (g := gb221) (o := .cells #[.slice Ao12 t222.length co12, .slice none 0 0] 34 (0, 0)) (by (with_reducible repeat (first | refine blk_drewN ?_ _ | refine blk_drew ?_ | refine blk_alloc ?_ _)); refine blk_put (cs := #[.slice none 0 0, .slice none 0 0]) ?_ 0 _ rfl; (with_reducible repeat (first | refine blk_drewN ?_ _ | refine blk_drew ?_ | refine blk_alloc ?_ _)); exact BK221.out) hb); have n4_ := Aside0.mk (below_step (by repeat (first | (with_reducible first | exact HB.out | apply below_alloc | apply pw_below_drewN | apply below_drew1 | refine below_set ?_ GE220.out | refine below_set ?_ GE221.out) | exact HB.out)) hb); clear HO226; clear BK220; clear BK221; clear HB; have HO226 := n0_; have HO231 := n1_; have BK220 := n2_; have BK221 := n3_; have HB := n4_; clear n0_ n1_ n2_ n3_ n4_; (try clear hb); (try clear hb2); (try clear hk); (try clear hi); (try clear ho0); have haa20 : ∀ w_ : World, (Instr.indexAt 34 (.pointer (some ⟨gb221, 0, none⟩)) (.int .i64 1)).run Try.prog w_ = .ok (.pointer (some ⟨gb221, 1, none⟩)) w_ := fun _ => (by kernel_rfl); obtain ⟨Ao21, co21, eo21⟩ := Kd.R_slice HO231.out; subst eo21; have hnb22 := NB221_220.out; have hnc22 := NB220_221.out; have hcz23_0 : w19.cell? ⟨gb221, 0, none⟩ = some (.slice Ao12 t222.length co12) := (blk_cell BK221.out 0).trans rfl; have hcz23_1 : w19.cell? ⟨gb221, 1, none⟩ = some (.slice none 0 0) := (blk_cell BK221.out 1).trans rfl; have hfz23_0 := blk_frozen BK221.out 0; have hfz23_1 := blk_frozen BK221.out 1))
   rw [rounds_succ]
   have H := HU17.out
   clear HU17
   replace H := Option.bind_eq_some_iff.mp H
   obtain ⟨⟨t232, t233, t234, t235, t236, t237, t238, t239, t240, t241, t242, t243⟩, A240, H⟩ := H
   replace H : (some (t232, t233, t234, t235, t236, t237, t238, t239, t240, t241, t242, t243, 0, 0, 0)) = some (r1, r2, r3, r4, r5, r6, r7, r8, r9, r10, r11, r12, r13, r14, r15) := H
   have A24 := Aside0.mk A240
   clear A240
   simp only [Option.some.injEq, Prod.mk.injEq] at H
   obtain ⟨rfl, rfl, rfl, rfl, rfl, rfl, rfl, rfl, rfl, rfl, rfl, rfl, rfl, rfl, rfl⟩ := H
   have haa25 : ∀ w_ : World, (Instr.indexAt 34 (.pointer (some ⟨gb221, 0, none⟩)) (.int .i64 0)).run Try.prog w_ = .ok (.pointer (some ⟨gb221, 0, none⟩)) w_ := fun _ => (by kernel_rfl)
   have hnb26 := NB221_220.out
   have hnc26 := NB220_221.out
   have hcz27_0 : w19.cell? ⟨gb221, 0, none⟩ = some (.slice Ao12 t222.length co12) := (blk_cell BK221.out 0).trans rfl
   have hcz27_1 : w19.cell? ⟨gb221, 1, none⟩ = some (.slice none 0 0) := (blk_cell BK221.out 1).trans rfl
   have hfz27_0 := blk_frozen BK221.out 0
   have hfz27_1 := blk_frozen BK221.out 1
   have haa28 : ∀ w_ : World, (Instr.indexAt 34 (.pointer (some ⟨gb221, 0, none⟩)) (.int .i64 1)).run Try.prog w_ = .ok (.pointer (some ⟨gb221, 1, none⟩)) w_ := fun _ => (by kernel_rfl)
   go_wp2_with (first | ((with_reducible refine gate_callee (f := 7) rfl ?_); refine goesL_ (some 42) rfl rfl Try.func7 (by kernel_rfl) rfl #[.slice Ao12 t222.length co12, .slice Ao21 t227.length co21] rfl (by (try simp only [List.map_toArray, List.map_cons, List.map_nil]); first | done | rfl | (simp only [List.length_drop, List.length_take]; first | rfl | (rw [Nat.min_eq_left (Int.toNat_le.2 (of_decide_eq_true (by assumption)))]; rfl))) ?_; (with_reducible refine (diff_Events.calls k _ _ t222 _ _ t227 t232 t233 t234 t235 t236 t237 t238 t239 t240 t241 t242 t243 _ ?side1 ?side2 ?side3 ?side4 A24.out).mono ?_); (case side1 => refine (Kd.R_reads' (e := 25) (base := w.heap.size) (ok := fun k_ => (True ∧ some k_ ≠ (.slice Ao21 t227.length co21 : Value).ownBlock)) (n := t222.length) (c := co12) ?_).2.2; exact (by (with_reducible repeat (first | apply Kd.R_alloc | apply Kd.R_drewN | apply Kd.R_drew)); exact (Kd.R_mono (Kd.R_far (p := ⟨gb221, 1, none⟩) (Kd.R_types HO226.out BK221.out (by decide)) (fun _ hk => hk.2) (.slice Ao21 t227.length co21)) (fun _ h_ => h_.1)))); (case side2 => exact (Kd.R_reads' HO226.out).2.1); (case side3 => refine (Kd.R_reads' (e := 25) (base := w.heap.size) (ok := fun k_ => (True ∧ some k_ ≠ (.slice Ao12 t222.length co12 : Value).ownBlock)) (n := t227.length) (c := co21) ?_).2.2; exact (by (with_reducible repeat (first | apply Kd.R_alloc | apply Kd.R_drewN | apply Kd.R_drew)); exact (Kd.R_mono (Kd.R_far (p := ⟨gb221, 1, none⟩) (Kd.R_types HO231.out BK221.out (by decide)) (fun _ hk => hk.2) (.slice Ao21 t227.length co21)) (fun _ h_ => h_.1)))); (case side4 => exact (Kd.R_reads' HO231.out).2.1); rintro e w29 ⟨rfl, hb⟩; refine ⟨_, rfl, ?_⟩; have n0_ := Aside0.mk (Kd.R_below (by (with_reducible repeat (first | apply Kd.R_alloc | apply Kd.R_drewN | apply Kd.R_drew)); exact (Kd.R_mono (Kd.R_far (p := ⟨gb221, 1, none⟩) (Kd.R_types HO226.out BK221.out (by decide)) (fun _ hk => hk.2) (.slice Ao21 t227.length co21)) (fun _ h_ => h_.1))) hb); have n1_ := Aside0.mk (Kd.R_below (by (with_reducible repeat (first | apply Kd.R_alloc | apply Kd.R_drewN | apply Kd.R_drew)); exact (Kd.R_mono (Kd.R_far (p := ⟨gb221, 1, none⟩) (Kd.R_types HO231.out BK221.out (by decide)) (fun _ hk => hk.2) (.slice Ao21 t227.length co21)) (fun _ h_ => h_.1))) hb); have n2_ := Aside0.mk (blk_below (g := gb220) (o := .cells #[.int .i64 0, .int .i64 0, .int .i64 0, .int .i64 0, .int .i64 0, .int .i64 0, .int .i64 0, .int .i64 0, .int .i64 0, .int .i64 0, .int .i64 0, .int .i64 0] 27 (0, 0)) (by (with_reducible repeat (first | refine blk_drewN ?_ _ | refine blk_drew ?_ | refine blk_alloc ?_ _)); refine blk_far ?_ NB220_221.out _; (with_reducible repeat (first | refine blk_drewN ?_ _ | refine blk_drew ?_ | refine blk_alloc ?_ _)); exact BK220.out) hb); have n3_ := Aside0.mk (blk_below (g := gb221) (o := .cells #[.slice Ao12 t222.length co12, .slice Ao21 t227.length co21] 34 (0, 0)) (by (with_reducible repeat (first | refine blk_drewN ?_ _ | refine blk_drew ?_ | refine blk_alloc ?_ _)); refine blk_put (cs := #[.slice Ao12 t222.length co12, .slice none 0 0]) ?_ 1 _ rfl; (with_reducible repeat (first | refine blk_drewN ?_ _ | refine blk_drew ?_ | refine blk_alloc ?_ _)); exact BK221.out) hb); have n4_ := Aside0.mk (below_step (by repeat (first | (with_reducible first | exact HB.out | apply below_alloc | apply pw_below_drewN | apply below_drew1 | refine below_set ?_ GE220.out | refine below_set ?_ GE221.out) | exact HB.out)) hb); clear HO226; clear HO231; clear BK220; clear BK221; clear HB; have HO226 := n0_; have HO231 := n1_; have BK220 := n2_; have BK221 := n3_; have HB := n4_; clear n0_ n1_ n2_ n3_ n4_; (try clear hb); (try clear hb2); (try clear hk); (try clear hi); have hcz30_0 : w29.cell? ⟨gb220, 0, none⟩ = some (.int .i64 0) := (blk_cell BK220.out 0).trans rfl; have hcz30_1 : w29.cell? ⟨gb220, 1, none⟩ = some (.int .i64 0) := (blk_cell BK220.out 1).trans rfl; have hcz30_2 : w29.cell? ⟨gb220, 2, none⟩ = some (.int .i64 0) := (blk_cell BK220.out 2).trans rfl; have hcz30_3 : w29.cell? ⟨gb220, 3, none⟩ = some (.int .i64 0) := (blk_cell BK220.out 3).trans rfl; have hcz30_4 : w29.cell? ⟨gb220, 4, none⟩ = some (.int .i64 0) := (blk_cell BK220.out 4).trans rfl; have hcz30_5 : w29.cell? ⟨gb220, 5, none⟩ = some (.int .i64 0) := (blk_cell BK220.out 5).trans rfl; have hcz30_6 : w29.cell? ⟨gb220, 6, none⟩ = some (.int .i64 0) := (blk_cell BK220.out 6).trans rfl; have hcz30_7 : w29.cell? ⟨gb220, 7, none⟩ = some (.int .i64 0) := (blk_cell BK220.out 7).trans rfl; have hcz30_8 : w29.cell? ⟨gb220, 8, none⟩ = some (.int .i64 0) := (blk_cell BK220.out 8).trans rfl; have hcz30_9 : w29.cell? ⟨gb220, 9, none⟩ = some (.int .i64 0) := (blk_cell BK220.out 9).trans rfl; have hcz30_10 : w29.cell? ⟨gb220, 10, none⟩ = some (.int .i64 0) := (blk_cell BK220.out 10).trans rfl; have hcz30_11 : w29.cell? ⟨gb220, 11, none⟩ = some (.int .i64 0) := (blk_cell BK220.out 11).trans rfl; have hfz30_0 := blk_frozen BK220.out 0; have hfz30_1 := blk_frozen BK220.out 1; have hfz30_2 := blk_frozen BK220.out 2; have hfz30_3 := blk_frozen BK220.out 3; have hfz30_4 := blk_frozen BK220.out 4; have hfz30_5 := blk_frozen BK220.out 5; have hfz30_6 := blk_frozen BK220.out 6; have hfz30_7 := blk_frozen BK220.out 7; have hfz30_8 := blk_frozen BK220.out 8; have hfz30_9 := blk_frozen BK220.out 9; have hfz30_10 := blk_frozen BK220.out 10; have hfz30_11 := blk_frozen BK220.out 11))
   refine bodyPost_ret (results_list (rs := [.cell 4 27, .tmp 5, .tmp 6, .tmp 7]) rfl (by simp) (.cell gb220 27 #[.int .i64 t232, .int .i64 t233, .int .i64 t234, .int .i64 t235, .int .i64 t236, .int .i64 t237, .int .i64 t238, .int .i64 t239, .int .i64 t240, .int .i64 t241, .int .i64 t242, .int .i64 t243] (0, 0) _ rfl (by (with_reducible repeat (first | refine blk_drewN ?_ _ | refine blk_drew ?_ | refine blk_alloc ?_ _)); refine blk_put (cs := #[.int .i64 t232, .int .i64 t233, .int .i64 t234, .int .i64 t235, .int .i64 t236, .int .i64 t237, .int .i64 t238, .int .i64 t239, .int .i64 t240, .int .i64 t241, .int .i64 t242, .int .i64 0]) ?_ 11 _ rfl; (with_reducible repeat (first | refine blk_drewN ?_ _ | refine blk_drew ?_ | refine blk_alloc ?_ _)); refine blk_put (cs := #[.int .i64 t232, .int .i64 t233, .int .i64 t234, .int .i64 t235, .int .i64 t236, .int .i64 t237, .int .i64 t238, .int .i64 t239, .int .i64 t240, .int .i64 t241, .int .i64 0, .int .i64 0]) ?_ 10 _ rfl; (with_reducible repeat (first | refine blk_drewN ?_ _ | refine blk_drew ?_ | refine blk_alloc ?_ _)); refine blk_put (cs := #[.int .i64 t232, .int .i64 t233, .int .i64 t234, .int .i64 t235, .int .i64 t236, .int .i64 t237, .int .i64 t238, .int .i64 t239, .int .i64 t240, .int .i64 0, .int .i64 0, .int .i64 0]) ?_ 9 _ rfl; (with_reducible repeat (first | refine blk_drewN ?_ _ | refine blk_drew ?_ | refine blk_alloc ?_ _)); refine blk_put (cs := #[.int .i64 t232, .int .i64 t233, .int .i64 t234, .int .i64 t235, .int .i64 t236, .int .i64 t237, .int .i64 t238, .int .i64 t239, .int .i64 0, .int .i64 0, .int .i64 0, .int .i64 0]) ?_ 8 _ rfl; (with_reducible repeat (first | refine blk_drewN ?_ _ | refine blk_drew ?_ | refine blk_alloc ?_ _)); refine blk_put (cs := #[.int .i64 t232, .int .i64 t233, .int .i64 t234, .int .i64 t235, .int .i64 t236, .int .i64 t237, .int .i64 t238, .int .i64 0, .int .i64 0, .int .i64 0, .int .i64 0, .int .i64 0]) ?_ 7 _ rfl; (with_reducible repeat (first | refine blk_drewN ?_ _ | refine blk_drew ?_ | refine blk_alloc ?_ _)); refine blk_put (cs := #[.int .i64 t232, .int .i64 t233, .int .i64 t234, .int .i64 t235, .int .i64 t236, .int .i64 t237, .int .i64 0, .int .i64 0, .int .i64 0, .int .i64 0, .int .i64 0, .int .i64 0]) ?_ 6 _ rfl; (with_reducible repeat (first | refine blk_drewN ?_ _ | refine blk_drew ?_ | refine blk_alloc ?_ _)); refine blk_put (cs := #[.int .i64 t232, .int .i64 t233, .int .i64 t234, .int .i64 t235, .int .i64 t236, .int .i64 0, .int .i64 0, .int .i64 0, .int .i64 0, .int .i64 0, .int .i64 0, .int .i64 0]) ?_ 5 _ rfl; (with_reducible repeat (first | refine blk_drewN ?_ _ | refine blk_drew ?_ | refine blk_alloc ?_ _)); refine blk_put (cs := #[.int .i64 t232, .int .i64 t233, .int .i64 t234, .int .i64 t235, .int .i64 0, .int .i64 0, .int .i64 0, .int .i64 0, .int .i64 0, .int .i64 0, .int .i64 0, .int .i64 0]) ?_ 4 _ rfl; (with_reducible repeat (first | refine blk_drewN ?_ _ | refine blk_drew ?_ | refine blk_alloc ?_ _)); refine blk_put (cs := #[.int .i64 t232, .int .i64 t233, .int .i64 t234, .int .i64 0, .int .i64 0, .int .i64 0, .int .i64 0, .int .i64 0, .int .i64 0, .int .i64 0, .int .i64 0, .int .i64 0]) ?_ 3 _ rfl; (with_reducible repeat (first | refine blk_drewN ?_ _ | refine blk_drew ?_ | refine blk_alloc ?_ _)); refine blk_put (cs := #[.int .i64 t232, .int .i64 t233, .int .i64 0, .int .i64 0, .int .i64 0, .int .i64 0, .int .i64 0, .int .i64 0, .int .i64 0, .int .i64 0, .int .i64 0, .int .i64 0]) ?_ 2 _ rfl; (with_reducible repeat (first | refine blk_drewN ?_ _ | refine blk_drew ?_ | refine blk_alloc ?_ _)); refine blk_put (cs := #[.int .i64 t232, .int .i64 0, .int .i64 0, .int .i64 0, .int .i64 0, .int .i64 0, .int .i64 0, .int .i64 0, .int .i64 0, .int .i64 0, .int .i64 0, .int .i64 0]) ?_ 1 _ rfl; (with_reducible repeat (first | refine blk_drewN ?_ _ | refine blk_drew ?_ | refine blk_alloc ?_ _)); refine blk_put (cs := #[.int .i64 0, .int .i64 0, .int .i64 0, .int .i64 0, .int .i64 0, .int .i64 0, .int .i64 0, .int .i64 0, .int .i64 0, .int .i64 0, .int .i64 0, .int .i64 0]) ?_ 0 _ rfl; (with_reducible repeat (first | refine blk_drewN ?_ _ | refine blk_drew ?_ | refine blk_alloc ?_ _)); exact BK220.out) Try.underlying27 rfl (by kernel_rfl) (.tmp (.tmp (.tmp .nil))))) rfl ?_
   exact ⟨by first | rfl | (simp [errW_none, errW_some] <;> rfl) | (simp [*, errW_none, errW_some] <;> rfl), by repeat (first | (with_reducible first | exact HB.out | apply below_alloc | apply pw_below_drewN | apply below_drew1 | refine below_set ?_ GE220.out | refine below_set ?_ GE221.out) | exact HB.out)⟩
  ·rw [if_neg c16] at H
   have c16b0 : (t229 == 0) = false := beq_eq_false_iff_ne.mpr c16
   have c16b1 : (t229 != 0) = true := bne_iff_ne.mpr c16
   simp only [Option.some.injEq, Prod.mk.injEq] at H
   obtain ⟨rfl, rfl, rfl, rfl, rfl, rfl, rfl, rfl, rfl, rfl, rfl, rfl, rfl, rfl, rfl⟩ := H
   have hai31 : ∀ w_ : World, (Instr.index 35 (.agg #[.slice A0 l0.length c0, .slice A1 l1.length c1]) (.int .i64 1)).run Try.prog w_ = .ok (.slice A1 l1.length c1) w_ := fun _ => (by kernel_rfl)
   go_wp2_with (first | ((with_reducible refine gate_callee (f := 8) rfl ?_); refine goesL_ (some 23) rfl rfl Try.func8 (by kernel_rfl) rfl #[.slice A1 l1.length c1] rfl (by (try simp only [List.map_toArray, List.map_cons, List.map_nil]); first | done | rfl | (simp only [List.length_drop, List.length_take]; first | rfl | (rw [Nat.min_eq_left (Int.toNat_le.2 (of_decide_eq_true (by assumption)))]; rfl))) ?_; (with_reducible refine (event_Decode.calls k _ _ l1 t227 t228 t229 _ ?side1 ?side2 A15.out).mono ?_); (case side1 => exact Kd.C_below HR1.out (by repeat (first | (with_reducible first | exact HB.out | apply below_alloc | apply pw_below_drewN | apply below_drew1 | refine below_set ?_ GE220.out | refine below_set ?_ GE221.out) | exact HB.out))); (case side2 => exact HC1.out); rintro e w32 ⟨v230, rfl, ho0, hb⟩; refine ⟨_, rfl, ?_⟩; have n0_ := Aside0.mk (Kd.R_elder' (by (with_reducible repeat (first | apply Kd.R_alloc | apply Kd.R_drewN | apply Kd.R_drew)); exact (Kd.R_mono (Kd.R_far (p := ⟨gb221, 0, none⟩) (Kd.R_types HO226.out BK221.out (by decide)) (fun _ hk => hk.2) (.slice Ao12 t222.length co12)) (fun _ h_ => h_.1))) (Kd.R_base ho0) hb); have n1_ := Aside0.mk (Kd.R_lower (Kd.R_new' ho0 (Kd.R_lt (by (with_reducible repeat (first | apply Kd.R_alloc | apply Kd.R_drewN | apply Kd.R_drew)); exact (Kd.R_mono (Kd.R_far (p := ⟨gb221, 0, none⟩) (Kd.R_types HO226.out BK221.out (by decide)) (fun _ hk => hk.2) (.slice Ao12 t222.length co12)) (fun _ h_ => h_.1))))) (below_size (by repeat (first | (with_reducible first | exact HB.out | apply below_alloc | apply pw_below_drewN | apply below_drew1 | refine below_set ?_ GE220.out | refine below_set ?_ GE221.out) | exact HB.out)))); have n2_ := Aside0.mk (blk_below (g := gb220) (o := .cells #[.int .i64 0, .int .i64 0, .int .i64 0, .int .i64 0, .int .i64 0, .int .i64 0, .int .i64 0, .int .i64 0, .int .i64 0, .int .i64 0, .int .i64 0, .int .i64 0] 27 (0, 0)) (by (with_reducible repeat (first | refine blk_drewN ?_ _ | refine blk_drew ?_ | refine blk_alloc ?_ _)); refine blk_far ?_ NB220_221.out _; (with_reducible repeat (first | refine blk_drewN ?_ _ | refine blk_drew ?_ | refine blk_alloc ?_ _)); exact BK220.out) hb); have n3_ := Aside0.mk (blk_below (g := gb221) (o := .cells #[.slice Ao12 t222.length co12, .slice none 0 0] 34 (0, 0)) (by (with_reducible repeat (first | refine blk_drewN ?_ _ | refine blk_drew ?_ | refine blk_alloc ?_ _)); refine blk_put (cs := #[.slice none 0 0, .slice none 0 0]) ?_ 0 _ rfl; (with_reducible repeat (first | refine blk_drewN ?_ _ | refine blk_drew ?_ | refine blk_alloc ?_ _)); exact BK221.out) hb); have n4_ := Aside0.mk (below_step (by repeat (first | (with_reducible first | exact HB.out | apply below_alloc | apply pw_below_drewN | apply below_drew1 | refine below_set ?_ GE220.out | refine below_set ?_ GE221.out) | exact HB.out)) hb); clear HO226; clear BK220; clear BK221; clear HB; have HO226 := n0_; have HO231 := n1_; have BK220 := n2_; have BK221 := n3_; have HB := n4_; clear n0_ n1_ n2_ n3_ n4_; (try clear hb); (try clear hb2); (try clear hk); (try clear hi); (try clear ho0); have hnb33 := NB220_221.out; have hnc33 := NB221_220.out; have hcz34_0 : w32.cell? ⟨gb220, 0, none⟩ = some (.int .i64 0) := (blk_cell BK220.out 0).trans rfl; have hcz34_1 : w32.cell? ⟨gb220, 1, none⟩ = some (.int .i64 0) := (blk_cell BK220.out 1).trans rfl; have hcz34_2 : w32.cell? ⟨gb220, 2, none⟩ = some (.int .i64 0) := (blk_cell BK220.out 2).trans rfl; have hcz34_3 : w32.cell? ⟨gb220, 3, none⟩ = some (.int .i64 0) := (blk_cell BK220.out 3).trans rfl; have hcz34_4 : w32.cell? ⟨gb220, 4, none⟩ = some (.int .i64 0) := (blk_cell BK220.out 4).trans rfl; have hcz34_5 : w32.cell? ⟨gb220, 5, none⟩ = some (.int .i64 0) := (blk_cell BK220.out 5).trans rfl; have hcz34_6 : w32.cell? ⟨gb220, 6, none⟩ = some (.int .i64 0) := (blk_cell BK220.out 6).trans rfl; have hcz34_7 : w32.cell? ⟨gb220, 7, none⟩ = some (.int .i64 0) := (blk_cell BK220.out 7).trans rfl; have hcz34_8 : w32.cell? ⟨gb220, 8, none⟩ = some (.int .i64 0) := (blk_cell BK220.out 8).trans rfl; have hcz34_9 : w32.cell? ⟨gb220, 9, none⟩ = some (.int .i64 0) := (blk_cell BK220.out 9).trans rfl; have hcz34_10 : w32.cell? ⟨gb220, 10, none⟩ = some (.int .i64 0) := (blk_cell BK220.out 10).trans rfl; have hcz34_11 : w32.cell? ⟨gb220, 11, none⟩ = some (.int .i64 0) := (blk_cell BK220.out 11).trans rfl; have hfz34_0 := blk_frozen BK220.out 0; have hfz34_1 := blk_frozen BK220.out 1; have hfz34_2 := blk_frozen BK220.out 2; have hfz34_3 := blk_frozen BK220.out 3; have hfz34_4 := blk_frozen BK220.out 4; have hfz34_5 := blk_frozen BK220.out 5; have hfz34_6 := blk_frozen BK220.out 6; have hfz34_7 := blk_frozen BK220.out 7; have hfz34_8 := blk_frozen BK220.out 8; have hfz34_9 := blk_frozen BK220.out 9; have hfz34_10 := blk_frozen BK220.out 10; have hfz34_11 := blk_frozen BK220.out 11))
   refine bodyPost_ret (results_list (rs := [.cell 4 27, .tmp 5, .tmp 6, .tmp 7]) rfl (by simp) (.cell gb220 27 #[.int .i64 0, .int .i64 0, .int .i64 0, .int .i64 0, .int .i64 0, .int .i64 0, .int .i64 0, .int .i64 0, .int .i64 0, .int .i64 0, .int .i64 0, .int .i64 0] (0, 0) _ rfl (by (with_reducible repeat (first | refine blk_drewN ?_ _ | refine blk_drew ?_ | refine blk_alloc ?_ _)); refine blk_put (cs := #[.int .i64 0, .int .i64 0, .int .i64 0, .int .i64 0, .int .i64 0, .int .i64 0, .int .i64 0, .int .i64 0, .int .i64 0, .int .i64 0, .int .i64 0, .int .i64 0]) ?_ 11 _ rfl; (with_reducible repeat (first | refine blk_drewN ?_ _ | refine blk_drew ?_ | refine blk_alloc ?_ _)); refine blk_put (cs := #[.int .i64 0, .int .i64 0, .int .i64 0, .int .i64 0, .int .i64 0, .int .i64 0, .int .i64 0, .int .i64 0, .int .i64 0, .int .i64 0, .int .i64 0, .int .i64 0]) ?_ 10 _ rfl; (with_reducible repeat (first | refine blk_drewN ?_ _ | refine blk_drew ?_ | refine blk_alloc ?_ _)); refine blk_put (cs := #[.int .i64 0, .int .i64 0, .int .i64 0, .int .i64 0, .int .i64 0, .int .i64 0, .int .i64 0, .int .i64 0, .int .i64 0, .int .i64 0, .int .i64 0, .int .i64 0]) ?_ 9 _ rfl; (with_reducible repeat (first | refine blk_drewN ?_ _ | refine blk_drew ?_ | refine blk_alloc ?_ _)); refine blk_put (cs := #[.int .i64 0, .int .i64 0, .int .i64 0, .int .i64 0, .int .i64 0, .int .i64 0, .int .i64 0, .int .i64 0, .int .i64 0, .int .i64 0, .int .i64 0, .int .i64 0]) ?_ 8 _ rfl; (with_reducible repeat (first | refine blk_drewN ?_ _ | refine blk_drew ?_ | refine blk_alloc ?_ _)); refine blk_put (cs := #[.int .i64 0, .int .i64 0, .int .i64 0, .int .i64 0, .int .i64 0, .int .i64 0, .int .i64 0, .int .i64 0, .int .i64 0, .int .i64 0, .int .i64 0, .int .i64 0]) ?_ 7 _ rfl; (with_reducible repeat (first | refine blk_drewN ?_ _ | refine blk_drew ?_ | refine blk_alloc ?_ _)); refine blk_put (cs := #[.int .i64 0, .int .i64 0, .int .i64 0, .int .i64 0, .int .i64 0, .int .i64 0, .int .i64 0, .int .i64 0, .int .i64 0, .int .i64 0, .int .i64 0, .int .i64 0]) ?_ 6 _ rfl; (with_reducible repeat (first | refine blk_drewN ?_ _ | refine blk_drew ?_ | refine blk_alloc ?_ _)); refine blk_put (cs := #[.int .i64 0, .int .i64 0, .int .i64 0, .int .i64 0, .int .i64 0, .int .i64 0, .int .i64 0, .int .i64 0, .int .i64 0, .int .i64 0, .int .i64 0, .int .i64 0]) ?_ 5 _ rfl; (with_reducible repeat (first | refine blk_drewN ?_ _ | refine blk_drew ?_ | refine blk_alloc ?_ _)); refine blk_put (cs := #[.int .i64 0, .int .i64 0, .int .i64 0, .int .i64 0, .int .i64 0, .int .i64 0, .int .i64 0, .int .i64 0, .int .i64 0, .int .i64 0, .int .i64 0, .int .i64 0]) ?_ 4 _ rfl; (with_reducible repeat (first | refine blk_drewN ?_ _ | refine blk_drew ?_ | refine blk_alloc ?_ _)); refine blk_put (cs := #[.int .i64 0, .int .i64 0, .int .i64 0, .int .i64 0, .int .i64 0, .int .i64 0, .int .i64 0, .int .i64 0, .int .i64 0, .int .i64 0, .int .i64 0, .int .i64 0]) ?_ 3 _ rfl; (with_reducible repeat (first | refine blk_drewN ?_ _ | refine blk_drew ?_ | refine blk_alloc ?_ _)); refine blk_put (cs := #[.int .i64 0, .int .i64 0, .int .i64 0, .int .i64 0, .int .i64 0, .int .i64 0, .int .i64 0, .int .i64 0, .int .i64 0, .int .i64 0, .int .i64 0, .int .i64 0]) ?_ 2 _ rfl; (with_reducible repeat (first | refine blk_drewN ?_ _ | refine blk_drew ?_ | refine blk_alloc ?_ _)); refine blk_put (cs := #[.int .i64 0, .int .i64 0, .int .i64 0, .int .i64 0, .int .i64 0, .int .i64 0, .int .i64 0, .int .i64 0, .int .i64 0, .int .i64 0, .int .i64 0, .int .i64 0]) ?_ 1 _ rfl; (with_reducible repeat (first | refine blk_drewN ?_ _ | refine blk_drew ?_ | refine blk_alloc ?_ _)); refine blk_put (cs := #[.int .i64 0, .int .i64 0, .int .i64 0, .int .i64 0, .int .i64 0, .int .i64 0, .int .i64 0, .int .i64 0, .int .i64 0, .int .i64 0, .int .i64 0, .int .i64 0]) ?_ 0 _ rfl; (with_reducible repeat (first | refine blk_drewN ?_ _ | refine blk_drew ?_ | refine blk_alloc ?_ _)); exact BK220.out) Try.underlying27 rfl (by kernel_rfl) (.tmp (.tmp (.tmp .nil))))) rfl ?_
   exact ⟨by first | rfl | (simp [errW_none, errW_some] <;> rfl) | (simp [*, errW_none, errW_some] <;> rfl), by repeat (first | (with_reducible first | exact HB.out | apply below_alloc | apply pw_below_drewN | apply below_drew1 | refine below_set ?_ GE220.out | refine below_set ?_ GE221.out) | exact HB.out)⟩
 ·rw [if_neg c7] at H
  have c7b0 : (t224 == 0) = false := beq_eq_false_iff_ne.mpr c7
  have c7b1 : (t224 != 0) = true := bne_iff_ne.mpr c7
  simp only [Option.some.injEq, Prod.mk.injEq] at H
  obtain ⟨rfl, rfl, rfl, rfl, rfl, rfl, rfl, rfl, rfl, rfl, rfl, rfl, rfl, rfl, rfl⟩ := H
  have hai35 : ∀ w_ : World, (Instr.index 35 (.agg #[.slice A0 l0.length c0, .slice A1 l1.length c1]) (.int .i64 0)).run Try.prog w_ = .ok (.slice A0 l0.length c0) w_ := fun _ => (by kernel_rfl)
  go_wp2_with (first | ((with_reducible refine gate_callee (f := 8) rfl ?_); refine goesL_ (some 23) rfl rfl Try.func8 (by kernel_rfl) rfl #[.slice A0 l0.length c0] rfl (by (try simp only [List.map_toArray, List.map_cons, List.map_nil]); first | done | rfl | (simp only [List.length_drop, List.length_take]; first | rfl | (rw [Nat.min_eq_left (Int.toNat_le.2 (of_decide_eq_true (by assumption)))]; rfl))) ?_; (with_reducible refine (event_Decode.calls k _ _ l0 t222 t223 t224 _ ?side1 ?side2 A6.out).mono ?_); (case side1 => repeat (first | exact (Kd.C_below HR0.out HB.out) | (with_reducible refine Kd.C_alloc ?_ _) | (with_reducible refine Kd.C_drewN ?_ _) | (with_reducible refine Kd.C_drew ?_))); (case side2 => exact HC0.out); rintro e w36 ⟨v225, rfl, ho0, hb⟩; refine ⟨_, rfl, ?_⟩; have n0_ := Aside0.mk (Kd.R_lower ho0 (below_size (by repeat (first | (with_reducible first | exact HB.out | apply below_alloc | apply pw_below_drewN | apply below_drew1 | refine below_set ?_ GE220.out | refine below_set ?_ GE221.out) | exact HB.out)))); have n1_ := Aside0.mk (blk_below (g := gb220) (o := .cells #[.int .i64 0, .int .i64 0, .int .i64 0, .int .i64 0, .int .i64 0, .int .i64 0, .int .i64 0, .int .i64 0, .int .i64 0, .int .i64 0, .int .i64 0, .int .i64 0] 27 (0, 0)) (by (with_reducible repeat (first | refine blk_drewN ?_ _ | refine blk_drew ?_ | refine blk_alloc ?_ _)); exact BK220.out) hb); have n2_ := Aside0.mk (blk_below (g := gb221) (o := .cells #[.slice none 0 0, .slice none 0 0] 34 (0, 0)) (by (with_reducible repeat (first | refine blk_drewN ?_ _ | refine blk_drew ?_ | refine blk_alloc ?_ _)); exact BK221.out) hb); have n3_ := Aside0.mk (below_step (by repeat (first | (with_reducible first | exact HB.out | apply below_alloc | apply pw_below_drewN | apply below_drew1 | refine below_set ?_ GE220.out | refine below_set ?_ GE221.out) | exact HB.out)) hb); clear BK220; clear BK221; clear HB; have HO226 := n0_; have BK220 := n1_; have BK221 := n2_; have HB := n3_; clear n0_ n1_ n2_ n3_; (try clear hb); (try clear hb2); (try clear hk); (try clear hi); (try clear ho0); have hnb37 := NB220_221.out; have hnc37 := NB221_220.out; have hcz38_0 : w36.cell? ⟨gb220, 0, none⟩ = some (.int .i64 0) := (blk_cell BK220.out 0).trans rfl; have hcz38_1 : w36.cell? ⟨gb220, 1, none⟩ = some (.int .i64 0) := (blk_cell BK220.out 1).trans rfl; have hcz38_2 : w36.cell? ⟨gb220, 2, none⟩ = some (.int .i64 0) := (blk_cell BK220.out 2).trans rfl; have hcz38_3 : w36.cell? ⟨gb220, 3, none⟩ = some (.int .i64 0) := (blk_cell BK220.out 3).trans rfl; have hcz38_4 : w36.cell? ⟨gb220, 4, none⟩ = some (.int .i64 0) := (blk_cell BK220.out 4).trans rfl; have hcz38_5 : w36.cell? ⟨gb220, 5, none⟩ = some (.int .i64 0) := (blk_cell BK220.out 5).trans rfl; have hcz38_6 : w36.cell? ⟨gb220, 6, none⟩ = some (.int .i64 0) := (blk_cell BK220.out 6).trans rfl; have hcz38_7 : w36.cell? ⟨gb220, 7, none⟩ = some (.int .i64 0) := (blk_cell BK220.out 7).trans rfl; have hcz38_8 : w36.cell? ⟨gb220, 8, none⟩ = some (.int .i64 0) := (blk_cell BK220.out 8).trans rfl; have hcz38_9 : w36.cell? ⟨gb220, 9, none⟩ = some (.int .i64 0) := (blk_cell BK220.out 9).trans rfl; have hcz38_10 : w36.cell? ⟨gb220, 10, none⟩ = some (.int .i64 0) := (blk_cell BK220.out 10).trans rfl; have hcz38_11 : w36.cell? ⟨gb220, 11, none⟩ = some (.int .i64 0) := (blk_cell BK220.out 11).trans rfl; have hfz38_0 := blk_frozen BK220.out 0; have hfz38_1 := blk_frozen BK220.out 1; have hfz38_2 := blk_frozen BK220.out 2; have hfz38_3 := blk_frozen BK220.out 3; have hfz38_4 := blk_frozen BK220.out 4; have hfz38_5 := blk_frozen BK220.out 5; have hfz38_6 := blk_frozen BK220.out 6; have hfz38_7 := blk_frozen BK220.out 7; have hfz38_8 := blk_frozen BK220.out 8; have hfz38_9 := blk_frozen BK220.out 9; have hfz38_10 := blk_frozen BK220.out 10; have hfz38_11 := blk_frozen BK220.out 11))
  refine bodyPost_ret (results_list (rs := [.cell 4 27, .tmp 5, .tmp 6, .tmp 7]) rfl (by simp) (.cell gb220 27 #[.int .i64 0, .int .i64 0, .int .i64 0, .int .i64 0, .int .i64 0, .int .i64 0, .int .i64 0, .int .i64 0, .int .i64 0, .int .i64 0, .int .i64 0, .int .i64 0] (0, 0) _ rfl (by (with_reducible repeat (first | refine blk_drewN ?_ _ | refine blk_drew ?_ | refine blk_alloc ?_ _)); refine blk_put (cs := #[.int .i64 0, .int .i64 0, .int .i64 0, .int .i64 0, .int .i64 0, .int .i64 0, .int .i64 0, .int .i64 0, .int .i64 0, .int .i64 0, .int .i64 0, .int .i64 0]) ?_ 11 _ rfl; (with_reducible repeat (first | refine blk_drewN ?_ _ | refine blk_drew ?_ | refine blk_alloc ?_ _)); refine blk_put (cs := #[.int .i64 0, .int .i64 0, .int .i64 0, .int .i64 0, .int .i64 0, .int .i64 0, .int .i64 0, .int .i64 0, .int .i64 0, .int .i64 0, .int .i64 0, .int .i64 0]) ?_ 10 _ rfl; (with_reducible repeat (first | refine blk_drewN ?_ _ | refine blk_drew ?_ | refine blk_alloc ?_ _)); refine blk_put (cs := #[.int .i64 0, .int .i64 0, .int .i64 0, .int .i64 0, .int .i64 0, .int .i64 0, .int .i64 0, .int .i64 0, .int .i64 0, .int .i64 0, .int .i64 0, .int .i64 0]) ?_ 9 _ rfl; (with_reducible repeat (first | refine blk_drewN ?_ _ | refine blk_drew ?_ | refine blk_alloc ?_ _)); refine blk_put (cs := #[.int .i64 0, .int .i64 0, .int .i64 0, .int .i64 0, .int .i64 0, .int .i64 0, .int .i64 0, .int .i64 0, .int .i64 0, .int .i64 0, .int .i64 0, .int .i64 0]) ?_ 8 _ rfl; (with_reducible repeat (first | refine blk_drewN ?_ _ | refine blk_drew ?_ | refine blk_alloc ?_ _)); refine blk_put (cs := #[.int .i64 0, .int .i64 0, .int .i64 0, .int .i64 0, .int .i64 0, .int .i64 0, .int .i64 0, .int .i64 0, .int .i64 0, .int .i64 0, .int .i64 0, .int .i64 0]) ?_ 7 _ rfl; (with_reducible repeat (first | refine blk_drewN ?_ _ | refine blk_drew ?_ | refine blk_alloc ?_ _)); refine blk_put (cs := #[.int .i64 0, .int .i64 0, .int .i64 0, .int .i64 0, .int .i64 0, .int .i64 0, .int .i64 0, .int .i64 0, .int .i64 0, .int .i64 0, .int .i64 0, .int .i64 0]) ?_ 6 _ rfl; (with_reducible repeat (first | refine blk_drewN ?_ _ | refine blk_drew ?_ | refine blk_alloc ?_ _)); refine blk_put (cs := #[.int .i64 0, .int .i64 0, .int .i64 0, .int .i64 0, .int .i64 0, .int .i64 0, .int .i64 0, .int .i64 0, .int .i64 0, .int .i64 0, .int .i64 0, .int .i64 0]) ?_ 5 _ rfl; (with_reducible repeat (first | refine blk_drewN ?_ _ | refine blk_drew ?_ | refine blk_alloc ?_ _)); refine blk_put (cs := #[.int .i64 0, .int .i64 0, .int .i64 0, .int .i64 0, .int .i64 0, .int .i64 0, .int .i64 0, .int .i64 0, .int .i64 0, .int .i64 0, .int .i64 0, .int .i64 0]) ?_ 4 _ rfl; (with_reducible repeat (first | refine blk_drewN ?_ _ | refine blk_drew ?_ | refine blk_alloc ?_ _)); refine blk_put (cs := #[.int .i64 0, .int .i64 0, .int .i64 0, .int .i64 0, .int .i64 0, .int .i64 0, .int .i64 0, .int .i64 0, .int .i64 0, .int .i64 0, .int .i64 0, .int .i64 0]) ?_ 3 _ rfl; (with_reducible repeat (first | refine blk_drewN ?_ _ | refine blk_drew ?_ | refine blk_alloc ?_ _)); refine blk_put (cs := #[.int .i64 0, .int .i64 0, .int .i64 0, .int .i64 0, .int .i64 0, .int .i64 0, .int .i64 0, .int .i64 0, .int .i64 0, .int .i64 0, .int .i64 0, .int .i64 0]) ?_ 2 _ rfl; (with_reducible repeat (first | refine blk_drewN ?_ _ | refine blk_drew ?_ | refine blk_alloc ?_ _)); refine blk_put (cs := #[.int .i64 0, .int .i64 0, .int .i64 0, .int .i64 0, .int .i64 0, .int .i64 0, .int .i64 0, .int .i64 0, .int .i64 0, .int .i64 0, .int .i64 0, .int .i64 0]) ?_ 1 _ rfl; (with_reducible repeat (first | refine blk_drewN ?_ _ | refine blk_drew ?_ | refine blk_alloc ?_ _)); refine blk_put (cs := #[.int .i64 0, .int .i64 0, .int .i64 0, .int .i64 0, .int .i64 0, .int .i64 0, .int .i64 0, .int .i64 0, .int .i64 0, .int .i64 0, .int .i64 0, .int .i64 0]) ?_ 0 _ rfl; (with_reducible repeat (first | refine blk_drewN ?_ _ | refine blk_drew ?_ | refine blk_alloc ?_ _)); exact BK220.out) Try.underlying27 rfl (by kernel_rfl) (.tmp (.tmp (.tmp .nil))))) rfl ?_
  exact ⟨by first | rfl | (simp [errW_none, errW_some] <;> rfl) | (simp [*, errW_none, errW_some] <;> rfl), by repeat (first | (with_reducible first | exact HB.out | apply below_alloc | apply pw_below_drewN | apply below_drew1 | refine below_set ?_ GE220.out | refine below_set ?_ GE221.out) | exact HB.out)⟩

/-! ### palletref03_Sum32: function 39 -/
mutual
def palletref03_Sum32.l0 : Nat → Int → List Int → Int → Int → Option (Int)
 | 0, _, _, _, _ => none
 | k + 1, x3, x7, x8, x9 => if x9 < x8 then (if 0 ≤ x9 then (if x9 < (x7.length : Int) then (palletref03_Sum32.l1 k (Go.bits .xor .u32 x3 ((rd x7 x9) % 4294967296)) x7 x8 x9 0) else (none)) else (none)) else (some (Go.bits .xor .u32 4294967295 x3))
def palletref03_Sum32.l1 : Nat → Int → List Int → Int → Int → Int → Option (Int)
 | 0, _, _, _, _, _ => none
 | k + 1, x3, x7, x8, x9, x17 => if x17 < 8 then (if (Int.tmod x3 2) = 1 then (palletref03_Sum32.l1 k (Go.bits .xor .u32 ((Int.tdiv x3 2) % 4294967296) 3988292384) x7 x8 x9 (wrap64 (x17 + 1))) else (palletref03_Sum32.l1 k ((Int.tdiv x3 2) % 4294967296) x7 x8 x9 (wrap64 (x17 + 1)))) else (palletref03_Sum32.l0 k x3 x7 x8 (wrap64 (x9 + 1)))
end
def palletref03_Sum32.f (k : Nat) (l0 : List Int) : Option (Int) := palletref03_Sum32.l0 k 4294967295 l0 (l0.length : Int) 0
theorem palletref03_Sum32.mono_l : ∀ k, (∀ y0 y1 y2 y3, LeO (palletref03_Sum32.l0 k y0 y1 y2 y3) (palletref03_Sum32.l0 (k + 1) y0 y1 y2 y3)) ∧ (∀ y0 y1 y2 y3 y4, LeO (palletref03_Sum32.l1 k y0 y1 y2 y3 y4) (palletref03_Sum32.l1 (k + 1) y0 y1 y2 y3 y4))
 | 0 => ⟨fun _ _ _ _ r h => by simp [palletref03_Sum32.l0] at h, fun _ _ _ _ _ r h => by simp [palletref03_Sum32.l1] at h⟩
 | k + 1 => by
  obtain ⟨ih0, ih1⟩ := palletref03_Sum32.mono_l k
  refine ⟨?_, ?_⟩
  ·intro y0 y1 y2 y3
   unfold palletref03_Sum32.l0
   repeat' first
   | (with_reducible exact ih0 _ _ _ _)
   | (with_reducible exact ih1 _ _ _ _ _)
   | (with_reducible exact LeO.refl _)
   | (with_reducible exact LeO.none _)
   | (with_reducible refine LeO.ite ?_ ?_)
   | (with_reducible refine LeO.bind ?_ (fun _ => ?_))
   | exact ih0 _ _ _ _
   | exact ih1 _ _ _ _ _
   | exact LeO.none _
   | refine LeO.ite ?_ ?_
   | refine LeO.bind ?_ (fun _ => ?_)
  ·intro y0 y1 y2 y3 y4
   unfold palletref03_Sum32.l1
   repeat' first
   | (with_reducible exact ih0 _ _ _ _)
   | (with_reducible exact ih1 _ _ _ _ _)
   | (with_reducible exact LeO.refl _)
   | (with_reducible exact LeO.none _)
   | (with_reducible refine LeO.ite ?_ ?_)
   | (with_reducible refine LeO.bind ?_ (fun _ => ?_))
   | exact ih0 _ _ _ _
   | exact ih1 _ _ _ _ _
   | exact LeO.none _
   | refine LeO.ite ?_ ?_
   | refine LeO.bind ?_ (fun _ => ?_)
theorem palletref03_Sum32.mono : ∀ a0 k, LeO (palletref03_Sum32.f k a0) (palletref03_Sum32.f (k + 1) a0) := by
 intro a0 k
 obtain ⟨ih0, ih1⟩ := palletref03_Sum32.mono_l k
 unfold palletref03_Sum32.f
 repeat' first
   | (with_reducible exact ih0 _ _ _ _)
   | (with_reducible exact ih1 _ _ _ _ _)
   | (with_reducible exact LeO.refl _)
   | (with_reducible exact LeO.none _)
   | (with_reducible refine LeO.ite ?_ ?_)
   | (with_reducible refine LeO.bind ?_ (fun _ => ?_))
   | exact ih0 _ _ _ _
   | exact ih1 _ _ _ _ _
   | exact LeO.none _
   | refine LeO.ite ?_ ?_
   | refine LeO.bind ?_ (fun _ => ?_)
set_option maxHeartbeats 8000000 in
set_option maxRecDepth 100000 in
theorem palletref03_Sum32.calls (k : Nat) (A0 : Option Addr) (c0 : Nat) (l0 : List Int) (r : Int) (w : World) (hr0 : Kd.C (Kd.int .u8) w A0 l0.length l0) (hc0 : l0.length ≤ c0) (h : palletref03_Sum32.f k l0 = some r) :
  Calls Try.prog 39 #[.slice A0 l0.length c0] w fun e w' => e = .returned (.int .u32 r) ∧ Drawn0 w w' := by
 have HR0 := Aside0.mk hr0
 have HC0 := Aside0.mk hc0
 clear hr0 hc0
 have H : (palletref03_Sum32.l0 k 4294967295 l0 (l0.length : Int) 0) = some r := h
 clear h
 have H' := Aside0.mk H
 clear H
 go_enter Try.func39, Try.ntmps39
 go_wp2
 go_loopg [3, 9] k (fun kq v3 v9 w' => ∃ (x3_1 : Int) (x9_1 : Int), v3 = .int .u32 x3_1 ∧ v9 = .int .i64 x9_1 ∧ Aside0 (palletref03_Sum32.l0 kq x3_1 l0 (l0.length : Int) x9_1 = some r) ∧ Aside0 (kq ≤ k) ∧ Drawn0 w w')
 case atStart => exact ⟨(4294967295), (0), (by first | rfl | (simp; done) | (simp [*]; done)), (by first | rfl | (simp; done) | (simp [*]; done)), H', ⟨Nat.le_refl _⟩, by repeat (first | exact Drawn0.refl _ | apply Drawn0.step)⟩
 case round =>
  clear H'
  obtain ⟨x3_1, x9_1, rfl, rfl, HA, HK1, ⟨m1, rfl⟩⟩ := hrel
  cases gk with
  | zero => exact absurd HA.out (by simp [palletref03_Sum32.l0])
  | succ k1 =>
   have H := HA.out
   clear HA
   simp only [palletref03_Sum32.l0] at H
   by_cases c2 : x9_1 < (l0.length : Int)
   ·rw [if_pos c2] at H
    have c2b0 : decide (x9_1 < (l0.length : Int)) = true := decide_eq_true c2
    clear c2
    by_cases c3 : 0 ≤ x9_1
    ·rw [if_pos c3] at H
     have c3b0 : decide (0 ≤ x9_1) = true := decide_eq_true c3
     clear c3
     by_cases c4 : x9_1 < (l0.length : Int)
     ·rw [if_pos c4] at H
      have c4b0 : decide (x9_1 < (l0.length : Int)) = true := decide_eq_true c4
      clear c4
      have H' := Aside0.mk H
      clear H
      have p244 : 0 ≤ (x9_1 : Int) := of_decide_eq_true (by first | (with_reducible assumption) | assumption)
      have q244 : x9_1 < (l0.length : Int) := of_decide_eq_true (by first | (with_reducible assumption) | assumption)
      obtain ⟨ad244, e244, hx244_0⟩ := Kd.at_int HR0.out x9_1 p244 q244
      cases e244
      replace p244 := eq_true p244
      replace q244 := eq_true q244
      go_wp2
      go_loopg [3, 17] k1 (fun kq v3 v17 w' => ∃ (x3_2 : Int) (x17_2 : Int), v3 = .int .u32 x3_2 ∧ v17 = .int .i64 x17_2 ∧ Aside0 (palletref03_Sum32.l1 kq x3_2 l0 (l0.length : Int) x9_1 x17_2 = some r) ∧ Aside0 (kq ≤ k1) ∧ Drawn0 w w')
      case atStart => exact ⟨(Go.bits .xor .u32 x3_1 ((rd l0 x9_1) % 4294967296)), (0), (by first | rfl | (simp; done) | (simp [*]; done)), (by first | rfl | (simp; done) | (simp [*]; done)), H', ⟨Nat.le_refl _⟩, by repeat (first | exact Drawn0.refl _ | apply Drawn0.step)⟩
      case round =>
       clear H'
       try clear c2
       try clear c2b0
       try clear p2
       try clear q2
       try clear hx2
       try clear c3
       try clear c3b0
       try clear c4
       try clear c4b0
       try clear hx244_0
       try clear p244
       try clear q244
       obtain ⟨x3_2, x17_2, rfl, rfl, HA, HK2, ⟨m2, rfl⟩⟩ := hrel
       cases gk with
       | zero => exact absurd HA.out (by simp [palletref03_Sum32.l1])
       | succ k2 =>
        have H := HA.out
        clear HA
        simp only [palletref03_Sum32.l1] at H
        by_cases c5 : x17_2 < 8
        ·rw [if_pos c5] at H
         have c5b0 : decide (x17_2 < 8) = true := decide_eq_true c5
         clear c5
         by_cases c6 : (Int.tmod x3_2 2) = 1
         ·rw [if_pos c6] at H
          have c6b0 : ((Int.tmod x3_2 2) == 1) = true := beq_iff_eq.mpr c6
          have c6b1 : ((Int.tmod x3_2 2) != 1) = false := bne_eq_false_iff_eq.mpr c6
          clear c6
          have H' := Aside0.mk H
          clear H
          go_wp2
          go_roundg k2
          case measure => have := HK1.out; have := HK2.out; omega
          case rel => exact ⟨(Go.bits .xor .u32 ((Int.tdiv x3_2 2) % 4294967296) 3988292384), (wrap64 (x17_2 + 1)), (by first | rfl | (simp; done) | (simp [*]; done)), (by first | rfl | (simp; done) | (simp [*]; done)), H', ⟨by have := HK1.out; have := HK2.out; omega⟩, by repeat (first | exact Drawn0.refl _ | apply Drawn0.step)⟩
         ·rw [if_neg c6] at H
          have c6b0 : ((Int.tmod x3_2 2) == 1) = false := beq_eq_false_iff_ne.mpr c6
          have c6b1 : ((Int.tmod x3_2 2) != 1) = true := bne_iff_ne.mpr c6
          have H' := Aside0.mk H
          clear H
          go_wp2
          go_roundg k2
          case measure => have := HK1.out; have := HK2.out; omega
          case rel => exact ⟨((Int.tdiv x3_2 2) % 4294967296), (wrap64 (x17_2 + 1)), (by first | rfl | (simp; done) | (simp [*]; done)), (by first | rfl | (simp; done) | (simp [*]; done)), H', ⟨by have := HK1.out; have := HK2.out; omega⟩, by repeat (first | exact Drawn0.refl _ | apply Drawn0.step)⟩
        ·rw [if_neg c5] at H
         have c5b0 : decide (x17_2 < 8) = false := decide_eq_false c5
         clear c5
         have H' := Aside0.mk H
         clear H
         go_wp2
         go_roundg k2
         case measure => have := HK1.out; have := HK2.out; omega
         case rel => exact ⟨(x3_2), (wrap64 (x9_1 + 1)), (by first | rfl | (simp; done) | (simp [*]; done)), (by first | rfl | (simp; done) | (simp [*]; done)), H', ⟨by have := HK1.out; have := HK2.out; omega⟩, by repeat (first | exact Drawn0.refl _ | apply Drawn0.step)⟩
     ·rw [if_neg c4] at H
      exact absurd H (by simp)
    ·rw [if_neg c3] at H
     exact absurd H (by simp)
   ·rw [if_neg c2] at H
    have c2b0 : decide (x9_1 < (l0.length : Int)) = false := decide_eq_false c2
    clear c2
    obtain rfl := Option.some.inj H
    go_wp2
    go_ret
    exact ⟨by first | rfl | (simp; done) | (simp [*]; done), by repeat (first | exact Drawn0.refl _ | apply Drawn0.step)⟩

/-! ### palletref03_Seal32: function 30 -/
def palletref03_Seal32.f (k : Nat) (l0 : List Int) : Option (List Int × Int) := if (l0.length : Int) > 1048576 then (some (([] : List Int), 6)) else ((palletref03_Sum32.f k l0).bind fun t245 => (if ([] : List Int).length + l0.length < 140737488355328 then ((some (([] : List Int) ++ l0 : List Int)).bind fun y246 => ((some (([(t245) % 256, (t245 / 256) % 256, (t245 / 65536) % 256, (t245 / 16777216) % 256] : List Int) : List Int)).bind fun y249 => (if y246.length + y249.length < 140737488355328 then (some ((y246 ++ y249), 0)) else (none)))) else (none)))
theorem palletref03_Seal32.mono : ∀ a0 k, LeO (palletref03_Seal32.f k a0) (palletref03_Seal32.f (k + 1) a0) := by
 intro a0 k
 unfold palletref03_Seal32.f
 repeat' first
   | (with_reducible exact palletref03_Sum32.mono _ _)
   | (with_reducible exact LeO.refl _)
   | (with_reducible exact LeO.none _)
   | (with_reducible refine LeO.ite ?_ ?_)
   | (with_reducible refine LeO.bind ?_ (fun _ => ?_))
   | exact palletref03_Sum32.mono _ _
   | exact LeO.none _
   | refine LeO.ite ?_ ?_
   | refine LeO.bind ?_ (fun _ => ?_)
set_option maxHeartbeats 8000000 in
set_option maxRecDepth 100000 in
theorem palletref03_Seal32.calls (k : Nat) (A0 : Option Addr) (c0 : Nat) (l0 : List Int) (r1 : List Int) (r2 : Int) (w : World) (hr0 : Kd.C (Kd.int .u8) w A0 l0.length l0) (hc0 : l0.length ≤ c0) (h : palletref03_Seal32.f k l0 = some (r1, r2)) :
  Calls Try.prog 30 #[.slice A0 l0.length c0] w fun e w' => ∃ v0_ : Value, e = .returned (.tuple #[v0_, .int .i64 r2]) ∧ Kd.R (Kd.int .u8) 5 w' w.heap.size (fun _ => True) v0_ r1 ∧ Below w.heap.size w w' := by
 have HR0 := Aside0.mk hr0
 have HC0 := Aside0.mk hc0
 clear hr0 hc0
 have HB := Aside0.mk (Below.refl w.heap.size w)
 have H : (if (l0.length : Int) > 1048576 then (some (([] : List Int), 6)) else ((palletref03_Sum32.f k l0).bind fun t245 => (if ([] : List Int).length + l0.length < 140737488355328 then ((some (([] : List Int) ++ l0 : List Int)).bind fun y246 => ((some (([(t245) % 256, (t245 / 256) % 256, (t245 / 65536) % 256, (t245 / 16777216) % 256] : List Int) : List Int)).bind fun y249 => (if y246.length + y249.length < 140737488355328 then (some ((y246 ++ y249), 0)) else (none)))) else (none)))) = some (r1, r2) := h
 clear h
 by_cases c2 : (l0.length : Int) > 1048576
 ·rw [if_pos c2] at H
  have c2b0 : decide (1048576 < (l0.length : Int)) = true := decide_eq_true c2
  have c2b1 : decide (1048576 < l0.length) = true := decide_eq_true (by omega)
  clear c2
  simp only [Option.some.injEq, Prod.mk.injEq] at H
  obtain ⟨rfl, rfl⟩ := H
  go_enter Try.func30, Try.ntmps30
  go_wp2
  go_ret2
  exact ⟨_, by first | rfl | (simp [errW_none, errW_some] <;> rfl) | (simp [*, errW_none, errW_some] <;> rfl), by first | exact Kd.R_nil _ _ _ _ _ | exact Kd.N_nil _ _ _ _ _ | exact Kd.V_nil _ _ _ _ _ | exact Kd.Q_nil _ _ _ _ _ | exact Kd.S_nil _ _ _ _ _, by repeat (first | (with_reducible first | exact HB.out | apply below_alloc | apply pw_below_drewN | apply below_drew1) | exact HB.out)⟩
 ·rw [if_neg c2] at H
  have c2b0 : decide (1048576 < (l0.length : Int)) = false := decide_eq_false c2
  have c2b1 : decide (1048576 < l0.length) = false := decide_eq_false (by omega)
  clear c2
  replace H := Option.bind_eq_some_iff.mp H
  obtain ⟨t245, A30, H⟩ := H
  replace H : (if ([] : List Int).length + l0.length < 140737488355328 then ((some (([] : List Int) ++ l0 : List Int)).bind fun y246 => ((some (([(t245) % 256, (t245 / 256) % 256, (t245 / 65536) % 256, (t245 / 16777216) % 256] : List Int) : List Int)).bind fun y249 => (if y246.length + y249.length < 140737488355328 then (some ((y246 ++ y249), 0)) else (none)))) else (none)) = some (r1, r2) := H
  have A3 := Aside0.mk A30
  clear A30
  by_cases c4 : ([] : List Int).length + l0.length < 140737488355328
  ·rw [if_pos c4] at H
   have LMc4 := Aside0.mk c4
   clear c4
   obtain ⟨y246, hy246⟩ : ∃ y_ : List Int, y_ = (([] : List Int) ++ l0) := ⟨_, rfl⟩
   replace H : ((some (([(t245) % 256, (t245 / 256) % 256, (t245 / 65536) % 256, (t245 / 16777216) % 256] : List Int) : List Int)).bind fun y249 => (if y246.length + y249.length < 140737488355328 then (some ((y246 ++ y249), 0)) else (none))) = some (r1, r2) := by first | (rw [hy246]; with_reducible exact H) | (have H2_ := (Option.bind_some _ _).symm.trans H; rw [hy246]; with_reducible exact H2_) | (have H2_ := (Option.bind_some _ _).symm.trans H; with_reducible exact H2_) | with_reducible exact H | (rw [hy246]; exact H) | exact H
   have Ny246 := Aside0.mk hy246
   clear hy246
   obtain ⟨y249, hy249⟩ : ∃ y_ : List Int, y_ = (([(t245) % 256, (t245 / 256) % 256, (t245 / 65536) % 256, (t245 / 16777216) % 256] : List Int)) := ⟨_, rfl⟩
   replace H : (if y246.length + y249.length < 140737488355328 then (some ((y246 ++ y249), 0)) else (none)) = some (r1, r2) := by first | (rw [hy249]; with_reducible exact H) | (have H2_ := (Option.bind_some _ _).symm.trans H; rw [hy249]; with_reducible exact H2_) | (have H2_ := (Option.bind_some _ _).symm.trans H; with_reducible exact H2_) | with_reducible exact H | (rw [hy249]; exact H) | exact H
   have Ny249 := Aside0.mk hy249
   clear hy249
   by_cases c5 : y246.length + y249.length < 140737488355328
   ·rw [if_pos c5] at H
    have LMc5 := Aside0.mk c5
    clear c5
    obtain ⟨y252, hy252⟩ : ∃ y_ : List Int, y_ = (y246 ++ y249) := ⟨_, rfl⟩
    replace H : (some (y252, 0)) = some (r1, r2) := by first | (rw [hy252]; with_reducible exact H) | (have H2_ := (Option.bind_some _ _).symm.trans H; rw [hy252]; with_reducible exact H2_) | (have H2_ := (Option.bind_some _ _).symm.trans H; with_reducible exact H2_) | with_reducible exact H | (rw [hy252]; exact H) | exact H
    have Ny252 := Aside0.mk hy252
    clear hy252
    simp only [Option.some.injEq, Prod.mk.injEq] at H
    obtain ⟨rfl, rfl⟩ := H
    go_enter Try.func30, Try.ntmps30
    go_wp2_with (first | ((with_reducible refine gate_callee (f := 39) rfl ?_); refine goesL_ (some 9) rfl rfl Try.func39 (by kernel_rfl) rfl #[.slice A0 l0.length c0] rfl (by (try simp only [List.map_toArray, List.map_cons, List.map_nil]); first | done | rfl | (simp only [List.length_drop, List.length_take]; first | rfl | (rw [Nat.min_eq_left (Int.toNat_le.2 (of_decide_eq_true (by assumption)))]; rfl))) ?_; (with_reducible refine (palletref03_Sum32.calls k _ _ l0 t245 _ ?side1 ?side2 A3.out).mono ?_); (case side1 => repeat (first | exact HR0.out | (with_reducible refine Kd.C_alloc ?_ _) | (with_reducible refine Kd.C_drewN ?_ _) | (with_reducible refine Kd.C_drew ?_))); (case side2 => exact HC0.out); rintro e w' ⟨rfl, ⟨nd, rfl⟩⟩; refine ⟨_, rfl, ?_⟩) | ((with_reducible refine gate_builtin (b := .append) (xs := #[.const (.slice none 0 0), .tmp 10]) rfl ?_); at_builtin; refine Kd.R_append_rows (Kd.int .u8) (w0 := w) w.heap.size rfl (.const (.slice none 0 0)) (.tmp 10) 22 5 (.int .u8 0) 1 rfl Try.underlying22 info5 rfl (by decide) (by omega) (.slice none 0 0) ([] : List Int) l0 _ _ _ (fun _ => True) (fun _ => False) rfl rfl ?aO ?aR (fun _ _ h => h) (fun _ h => h.elim) ?aF ?aB ?aS ?aL ?_; (case aR => repeat (first | exact HR0.out | (with_reducible refine Kd.C_alloc ?_ _) | (with_reducible refine Kd.C_drewN ?_ _) | (with_reducible refine Kd.C_drew ?_))); (case aB => exact (by repeat (first | (with_reducible first | exact HB.out | apply below_alloc | apply pw_below_drewN | apply below_drew1) | exact HB.out))); (case aF => exact (fun _ _ => trivial)); (case aO => exact ((Kd.R_nil _ _ _ _ (fun _ => True)))); (case aS => exact (below_size (by repeat (first | (with_reducible first | exact HB.out | apply below_alloc | apply pw_below_drewN | apply below_drew1) | exact HB.out)))); (case aL => have := LMc4.out; omega); intro v247 w6 ho hb hg hat; rw [← Ny246.out] at ho; have n0_ := Aside0.mk (hb); have n1_ := Aside0.mk (ho); clear HB; have HB := n0_; have HO248 := n1_; clear n0_ n1_; clear ho hb hg hat) | ((with_reducible refine gate_dst (N := 23) rfl ?_); refine Kd.R_lit (Kd.int .u8) _ 5 ?hg (N := 23) ?hd (xs := ([(t245) % 256, (t245 / 256) % 256, (t245 / 65536) % 256, (t245 / 16777216) % 256] : List Int)) (inner := [.int .u8 ((t245) % 256), .int .u8 ((t245 / 256) % 256), .int .u8 ((t245 / 65536) % 256), .int .u8 ((t245 / 16777216) % 256)]) (ok := fun _ => True) (okp := fun _ => True) ?hr ?hp (fun _ hk => hk) trivial (Below.refl _ _) (Nat.le_refl _) (by simp) ?_; (case hd => rfl); (case hg => rfl); (case hr => first | (go_simp; done) | (go_simp; rfl)); (case hp => exact (Reps.one (show Kd.M (Kd.int .u8) _ _ _ ((t245) % 256) [.int .u8 ((t245) % 256)] from rfl) (Reps.one (show Kd.M (Kd.int .u8) _ _ _ ((t245 / 256) % 256) [.int .u8 ((t245 / 256) % 256)] from rfl) (Reps.one (show Kd.M (Kd.int .u8) _ _ _ ((t245 / 65536) % 256) [.int .u8 ((t245 / 65536) % 256)] from rfl) (Reps.one (show Kd.M (Kd.int .u8) _ _ _ ((t245 / 16777216) % 256) [.int .u8 ((t245 / 16777216) % 256)] from rfl) (Reps.none _ _)))))); intro v250 w7 ho8 hb hg_ hnew_; clear hg_ hnew_; (first | rw [← Ny249.out] at ho8 | (simp only [Int.reduceToNat] at ho8; rw [← Ny249.out] at ho8)); have n0_ := Aside0.mk (Kd.R_elder' (by (with_reducible repeat (first | apply Kd.R_alloc | apply Kd.R_drewN | apply Kd.R_drew)); exact HO248.out) (Kd.R_base ho8) hb); have n1_ := Aside0.mk (Kd.R_lower (Kd.R_new' ho8 (Kd.R_lt (by (with_reducible repeat (first | apply Kd.R_alloc | apply Kd.R_drewN | apply Kd.R_drew)); exact HO248.out))) (below_size (by repeat (first | (with_reducible first | exact HB.out | apply below_alloc | apply pw_below_drewN | apply below_drew1) | exact HB.out)))); have n2_ := Aside0.mk (below_step (by repeat (first | (with_reducible first | exact HB.out | apply below_alloc | apply pw_below_drewN | apply below_drew1) | exact HB.out)) hb); clear HO248; clear HB; have HO248 := n0_; have HO251 := n1_; have HB := n2_; clear n0_ n1_ n2_; clear hb ho8; obtain ⟨Ao10, co10, eo10⟩ := Kd.R_slice HO251.out; subst eo10) | ((with_reducible refine gate_builtin (b := .append) (xs := #[.tmp 11, .tmp 23]) rfl ?_); at_builtin; refine Kd.R_append_rows (Kd.int .u8) (w0 := w) w.heap.size rfl (.tmp 11) (.tmp 23) 22 5 (.int .u8 0) 1 rfl Try.underlying22 info5 rfl (by decide) (by omega) v247 y246 y249 _ _ _ (fun k_ => some k_ ≠ (.slice Ao10 y249.length co10 : Value).ownBlock) (fun _ => False) rfl rfl ?aO ?aR (fun _ _ h => h) (fun _ h => h.elim) ?aF ?aB ?aS ?aL ?_; (case aR => repeat (first | exact (Kd.R_reads' HO251.out).2.2 | (with_reducible refine Kd.C_alloc ?_ _) | (with_reducible refine Kd.C_drewN ?_ _) | (with_reducible refine Kd.C_drew ?_))); (case aB => exact (by repeat (first | (with_reducible first | exact HB.out | apply below_alloc | apply pw_below_drewN | apply below_drew1) | exact HB.out))); (case aF => exact (fun k_ hk => Kd.fresh' (Kd.R_lt (by (with_reducible repeat (first | apply Kd.R_alloc | apply Kd.R_drewN | apply Kd.R_drew)); exact HO251.out)) k_ hk)); (case aO => exact (by (with_reducible repeat (first | apply Kd.R_alloc | apply Kd.R_drewN | apply Kd.R_drew)); exact Kd.R_mono HO248.out (fun _ hk => hk.2))); (case aS => exact (below_size (by repeat (first | (with_reducible first | exact HB.out | apply below_alloc | apply pw_below_drewN | apply below_drew1) | exact HB.out)))); (case aL => have := LMc5.out; omega); intro v253 w9 ho hb hg hat; rw [← Ny252.out] at ho; have n0_ := Aside0.mk (Kd.R_after (ok := (fun _ => True)) (by (with_reducible repeat (first | apply Kd.R_alloc | apply Kd.R_drewN | apply Kd.R_drew)); exact HO251.out) hg hat); have n1_ := Aside0.mk (hb); have n2_ := Aside0.mk (ho); clear HO251; clear HB; clear HO248; have HO251 := n0_; have HB := n1_; have HO254 := n2_; clear n0_ n1_ n2_; clear ho hb hg hat))
    go_ret2
    exact ⟨_, by first | rfl | (simp [errW_none, errW_some] <;> rfl) | (simp [*, errW_none, errW_some] <;> rfl), by (with_reducible repeat (first | apply Kd.R_alloc | apply Kd.R_drewN | apply Kd.R_drew)); exact Kd.R_mono HO254.out (fun _ hk => trivial), by repeat (first | (with_reducible first | exact HB.out | apply below_alloc | apply pw_below_drewN | apply below_drew1) | exact HB.out)⟩
   ·rw [if_neg c5] at H
    exact absurd H (by simp)
  ·rw [if_neg c4] at H
   exact absurd H (by simp)

end Go.Proofs.Ytcbjbgleflbpmaa.Print
