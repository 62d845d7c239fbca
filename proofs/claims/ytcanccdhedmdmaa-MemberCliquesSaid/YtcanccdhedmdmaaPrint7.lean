-- PRINTED by print.py (a twelfth state) out of the translation. Not trusted: Lean checks it.
import Derived.Test.YtcanccdhedmdmaaPrint0
import Derived.Test.YtcanccdhedmdmaaPrint5
import Derived.Test.YtcanccdhedmdmaaPrint6
namespace Go.Proofs.Ytcanccdhedmdmaa.Print
open Go.RowKit Go.Proofs.YtcanccdhedmdmaaW.PrintWords Go.Proofs.YtcanccdhedmdmaaW.PrintLast Go.Proofs.YtcanccdhedmdmaaW.PrintMore Go.Proofs.YtcanccdhedmdmaaX
attribute [local go_sem] max2_int min2_int max_two min_two max_three min_three max_four min_four   -- for this text's walks alone
set_option linter.unusedVariables false
set_option linter.unusedSimpArgs false

/-! ### palletlaw10_MemberCliques: function 3 -/
mutual
def palletlaw10_MemberCliques.l0 : Nat → Bool → Int → Int → List Int → Int → Int → Int → Int → Option (Bool)
 | 0, _, _, _, _, _, _, _, _ => none
 | k + 1, x3, x5, x6, x19, x20, x21, x143000, x143001 => if x21 < x20 then (if 0 ≤ x21 then (if x21 < (x19.length : Int) then ((member_Count.f k x143000 x143001 (wrap64 (Int.tmod (rd x19 x21) 4))).bind fun bt144 => (if bt144.2.2 = 0 then (if (wrap64 (Int.tmod (rd x19 x21) 4)) = 1 then (palletlaw10_MemberCliques.j1 k x3 x5 x6 x19 x20 x21 (wrap64 (Int.tmod (rd x19 x21) 4)) ((wrap64 (Int.tmod (rd x19 x21) 4)) == 1) bt144.1 bt144.2.1) else (palletlaw10_MemberCliques.j1 k x3 x5 x6 x19 x20 x21 (wrap64 (Int.tmod (rd x19 x21) 4)) ((wrap64 (Int.tmod (rd x19 x21) 4)) == 2) bt144.1 bt144.2.1)) else (some false))) else (none)) else (none)) else (some x3)
def palletlaw10_MemberCliques.j1 : Nat → Bool → Int → Int → List Int → Int → Int → Int → Bool → Int → Int → Option (Bool)
 | 0, _, _, _, _, _, _, _, _, _, _ => none
 | k + 1, x3, x5, x6, x19, x20, x21, x38, x39, x143000, x143001 => if x39 = true then (if x143000 = (wrap64 (x5 + 1)) then (if x143001 = x6 then ((member_Clique.f x143000 x143001).bind fun t148 => (if x6 > 0 then (if (t148 != (decide (x6 ≥ (wrap64 (x5 + 1))))) = true then (some false) else (palletlaw10_MemberCliques.l0 k x3 (wrap64 (x5 + 1)) x6 x19 x20 (wrap64 (x21 + 1)) x143000 x143001)) else (if (t148 != false) = true then (some false) else (palletlaw10_MemberCliques.l0 k x3 (wrap64 (x5 + 1)) x6 x19 x20 (wrap64 (x21 + 1)) x143000 x143001)))) else (some false)) else (some false)) else (if x38 = 3 then (if x143000 = x5 then (if x143001 = (wrap64 (x6 + 1)) then ((member_Clique.f x143000 x143001).bind fun t149 => (if (wrap64 (x6 + 1)) > 0 then (if (t149 != (decide ((wrap64 (x6 + 1)) ≥ x5))) = true then (some false) else (palletlaw10_MemberCliques.l0 k x3 x5 (wrap64 (x6 + 1)) x19 x20 (wrap64 (x21 + 1)) x143000 x143001)) else (if (t149 != false) = true then (some false) else (palletlaw10_MemberCliques.l0 k x3 x5 (wrap64 (x6 + 1)) x19 x20 (wrap64 (x21 + 1)) x143000 x143001)))) else (some false)) else (some false)) else (if x143000 = x5 then (if x143001 = x6 then ((member_Clique.f x143000 x143001).bind fun t150 => (if x6 > 0 then (if (t150 != (decide (x6 ≥ x5))) = true then (some false) else (palletlaw10_MemberCliques.l0 k x3 x5 x6 x19 x20 (wrap64 (x21 + 1)) x143000 x143001)) else (if (t150 != false) = true then (some false) else (palletlaw10_MemberCliques.l0 k x3 x5 x6 x19 x20 (wrap64 (x21 + 1)) x143000 x143001)))) else (some false)) else (some false)))
end
def palletlaw10_MemberCliques.f (k : Nat) (l0 : List Int) : Option (Bool) := (palletlaw10_live.f k).bind fun t141 => (if t141 = true then (if (l0.length : Int) > 500 then (some t141) else (palletlaw10_MemberCliques.l0 k t141 0 0 l0 (l0.length : Int) 0 0 0)) else (some false))
theorem palletlaw10_MemberCliques.mono_l : ∀ k, (∀ y0 y1 y2 y3 y4 y5 y6 y7, LeO (palletlaw10_MemberCliques.l0 k y0 y1 y2 y3 y4 y5 y6 y7) (palletlaw10_MemberCliques.l0 (k + 1) y0 y1 y2 y3 y4 y5 y6 y7)) ∧ (∀ y0 y1 y2 y3 y4 y5 y6 y7 y8 y9, LeO (palletlaw10_MemberCliques.j1 k y0 y1 y2 y3 y4 y5 y6 y7 y8 y9) (palletlaw10_MemberCliques.j1 (k + 1) y0 y1 y2 y3 y4 y5 y6 y7 y8 y9))
 | 0 => ⟨fun _ _ _ _ _ _ _ _ r h => by simp [palletlaw10_MemberCliques.l0] at h, fun _ _ _ _ _ _ _ _ _ _ r h => by simp [palletlaw10_MemberCliques.j1] at h⟩
 | k + 1 => by
  obtain ⟨ih0, ih1⟩ := palletlaw10_MemberCliques.mono_l k
  refine ⟨?_, ?_⟩
  ·intro y0 y1 y2 y3 y4 y5 y6 y7
   unfold palletlaw10_MemberCliques.l0
   repeat' first
   | (with_reducible exact ih0 _ _ _ _ _ _ _ _)
   | (with_reducible exact ih1 _ _ _ _ _ _ _ _ _ _)
   | (with_reducible exact member_Count.mono _ _ _ _)
   | (with_reducible exact palletlaw10_live.mono _)
   | (with_reducible exact LeO.refl _)
   | (with_reducible exact LeO.none _)
   | (with_reducible refine LeO.ite ?_ ?_)
   | (with_reducible refine LeO.bind ?_ (fun _ => ?_))
   | exact ih0 _ _ _ _ _ _ _ _
   | exact ih1 _ _ _ _ _ _ _ _ _ _
   | exact member_Count.mono _ _ _ _
   | exact palletlaw10_live.mono _
   | exact LeO.none _
   | refine LeO.ite ?_ ?_
   | refine LeO.bind ?_ (fun _ => ?_)
  ·intro y0 y1 y2 y3 y4 y5 y6 y7 y8 y9
   unfold palletlaw10_MemberCliques.j1
   repeat' first
   | (with_reducible exact ih0 _ _ _ _ _ _ _ _)
   | (with_reducible exact ih1 _ _ _ _ _ _ _ _ _ _)
   | (with_reducible exact member_Count.mono _ _ _ _)
   | (with_reducible exact palletlaw10_live.mono _)
   | (with_reducible exact LeO.refl _)
   | (with_reducible exact LeO.none _)
   | (with_reducible refine LeO.ite ?_ ?_)
   | (with_reducible refine LeO.bind ?_ (fun _ => ?_))
   | exact ih0 _ _ _ _ _ _ _ _
   | exact ih1 _ _ _ _ _ _ _ _ _ _
   | exact member_Count.mono _ _ _ _
   | exact palletlaw10_live.mono _
   | exact LeO.none _
   | refine LeO.ite ?_ ?_
   | refine LeO.bind ?_ (fun _ => ?_)
theorem palletlaw10_MemberCliques.mono : ∀ a0 k, LeO (palletlaw10_MemberCliques.f k a0) (palletlaw10_MemberCliques.f (k + 1) a0) := by
 intro a0 k
 obtain ⟨ih0, ih1⟩ := palletlaw10_MemberCliques.mono_l k
 unfold palletlaw10_MemberCliques.f
 repeat' first
   | (with_reducible exact ih0 _ _ _ _ _ _ _ _)
   | (with_reducible exact ih1 _ _ _ _ _ _ _ _ _ _)
   | (with_reducible exact member_Count.mono _ _ _ _)
   | (with_reducible exact palletlaw10_live.mono _)
   | (with_reducible exact LeO.refl _)
   | (with_reducible exact LeO.none _)
   | (with_reducible refine LeO.ite ?_ ?_)
   | (with_reducible refine LeO.bind ?_ (fun _ => ?_))
   | exact ih0 _ _ _ _ _ _ _ _
   | exact ih1 _ _ _ _ _ _ _ _ _ _
   | exact member_Count.mono _ _ _ _
   | exact palletlaw10_live.mono _
   | exact LeO.none _
   | refine LeO.ite ?_ ?_
   | refine LeO.bind ?_ (fun _ => ?_)
set_option maxHeartbeats 8000000 in
set_option maxRecDepth 100000 in
theorem palletlaw10_MemberCliques.calls (k : Nat) (A0 : Option Addr) (c0 : Nat) (l0 : List Int) (r : Bool) (w : World) (hr0 : Kd.C (Kd.int .u8) w A0 l0.length l0) (hc0 : l0.length ≤ c0) (hr_ : Aside0 (r = true)) (h : palletlaw10_MemberCliques.f k l0 = some r) :
  Calls Try.prog 3 #[.slice A0 l0.length c0] w fun e w' => e = .returned (.bool r) ∧ Below w.heap.size w w' := by
 have hu25 := Try.underlying25
 have HR0 := Aside0.mk hr0
 have HC0 := Aside0.mk hc0
 clear hr0 hc0
 have HB := Aside0.mk (Below.refl w.heap.size w)
 have H : ((palletlaw10_live.f k).bind fun t141 => (if t141 = true then (if (l0.length : Int) > 500 then (some t141) else (palletlaw10_MemberCliques.l0 k t141 0 0 l0 (l0.length : Int) 0 0 0)) else (some false))) = some r := h
 clear h
 replace H := Option.bind_eq_some_iff.mp H
 obtain ⟨t141, A20, H⟩ := H
 replace H : (if t141 = true then (if (l0.length : Int) > 500 then (some t141) else (palletlaw10_MemberCliques.l0 k t141 0 0 l0 (l0.length : Int) 0 0 0)) else (some false)) = some r := H
 have A2 := Aside0.mk A20
 clear A20
 by_cases c3 : t141 = true
 ·subst c3
  have H1 : (if (l0.length : Int) > 500 then (some true) else (palletlaw10_MemberCliques.l0 k true 0 0 l0 (l0.length : Int) 0 0 0)) = some r := by rw [if_pos rfl] at H; exact H
  clear H
  have H := H1
  clear H1
  by_cases c4 : (l0.length : Int) > 500
  ·rw [if_pos c4] at H
   have c4b0 : decide (500 < (l0.length : Int)) = true := decide_eq_true c4
   have c4b1 : decide (500 < l0.length) = true := decide_eq_true (by omega)
   clear c4
   obtain rfl := Option.some.inj H
   go_enter Try.func3, Try.ntmps3
   go_wp2_with (first | ((with_reducible refine gate_callee (f := 10) rfl ?_); refine goesL_ (some 11) rfl rfl Try.func10 (by kernel_rfl) rfl #[] rfl (by (try simp only [List.map_toArray, List.map_cons, List.map_nil]); first | done | rfl | (simp only [List.length_drop, List.length_take]; rfl)) ?_; (with_reducible refine (palletlaw10_live.calls k  true _ A2.out).mono ?_); rintro e w5 ⟨rfl, hb⟩; refine ⟨_, rfl, ?_⟩; have n0_ := Aside0.mk (below_step (by repeat (first | (with_reducible first | exact HB.out | apply below_alloc | apply pw_below_drewN | apply below_drew1) | exact HB.out)) hb); clear HB; have HB := n0_; clear n0_; (try clear hb); (try clear hb2); (try clear hk); (try clear hi)))
   go_ret
   exact ⟨by first | rfl | (simp [errW_none, errW_some] <;> rfl) | (simp [*, errW_none, errW_some] <;> rfl), by repeat (first | (with_reducible first | exact HB.out | apply below_alloc | apply pw_below_drewN | apply below_drew1) | exact HB.out)⟩
  ·rw [if_neg c4] at H
   have c4b0 : decide (500 < (l0.length : Int)) = false := decide_eq_false c4
   have c4b1 : decide (500 < l0.length) = false := decide_eq_false (by omega)
   clear c4
   have H' := Aside0.mk H
   clear H
   go_enter Try.func3, Try.ntmps3
   go_wp2_with (first | ((with_reducible refine gate_callee (f := 10) rfl ?_); refine goesL_ (some 11) rfl rfl Try.func10 (by kernel_rfl) rfl #[] rfl (by (try simp only [List.map_toArray, List.map_cons, List.map_nil]); first | done | rfl | (simp only [List.length_drop, List.length_take]; rfl)) ?_; (with_reducible refine (palletlaw10_live.calls k  true _ A2.out).mono ?_); rintro e w6 ⟨rfl, hb⟩; refine ⟨_, rfl, ?_⟩; have n0_ := Aside0.mk (below_step (by repeat (first | (with_reducible first | exact HB.out | apply below_alloc | apply pw_below_drewN | apply below_drew1) | exact HB.out)) hb); clear HB; have HB := n0_; clear n0_; (try clear hb); (try clear hb2); (try clear hk); (try clear hi)) | ((with_reducible refine gate_dst (N := 4) rfl ?_); refine box_event ?hg (N := 4) ?hd (cs := #[.int .i64 0, .int .i64 0]) (t := 25) ?hr ?_; (case hd => rfl); (case hg => rfl); (case hr => first | (go_simp; done) | (go_simp; rfl)); intro gb142 hg w7 hbox hb; have n0_ := Aside0.mk (below_step (by repeat (first | (with_reducible first | exact HB.out | apply below_alloc | apply pw_below_drewN | apply below_drew1) | exact HB.out)) hb); have n1_ := Aside0.mk (hbox); have n2_ := Aside0.mk ((by rw [hg]; exact (below_size (by repeat (first | (with_reducible first | exact HB.out | apply below_alloc | apply pw_below_drewN | apply below_drew1) | exact HB.out))) : w.heap.size ≤ gb142)); have n3_ := Aside0.mk ((by rw [hg]; exact (below_size (by repeat (first | (with_reducible first | exact HB.out | apply below_alloc | apply pw_below_drewN | apply below_drew1) | exact HB.out))) : w.heap.size ≤ gb142)); clear HB; have HB := n0_; have BK142 := n1_; have GW142 := n2_; have GE142 := n3_; clear n0_ n1_ n2_ n3_; clear hb hbox hg; have hcz8_0 : w7.cell? ⟨gb142, 0, none⟩ = some (.int .i64 0) := (blk_cell BK142.out 0).trans rfl; have hcz8_1 : w7.cell? ⟨gb142, 1, none⟩ = some (.int .i64 0) := (blk_cell BK142.out 1).trans rfl; have hfz8_0 := blk_frozen BK142.out 0; have hfz8_1 := blk_frozen BK142.out 1))
   go_loopg [5, 6, 21] k (fun kq v5 v6 v21 w' => ∃ (x5_1 : Int) (x6_1 : Int) (x21_1 : Int) (x143000_1 : Int) (x143001_1 : Int), v5 = .int .i64 x5_1 ∧ v6 = .int .i64 x6_1 ∧ v21 = .int .i64 x21_1 ∧ Aside0 (palletlaw10_MemberCliques.l0 kq true x5_1 x6_1 l0 (l0.length : Int) x21_1 x143000_1 x143001_1 = some r) ∧ Aside0 (kq ≤ k) ∧ Aside0 (w'.heap[gb142]? = some (.cells #[.int .i64 x143000_1, .int .i64 x143001_1] 25 (0, 0))) ∧ Aside0 (Below w.heap.size w w'))
   case atStart => exact ⟨(0), (0), (0), (0), (0), (by first | rfl | (simp; done) | (simp [*]; done)), (by first | rfl | (simp; done) | (simp [*]; done)), (by first | rfl | (simp; done) | (simp [*]; done)), H', ⟨Nat.le_refl _⟩, ⟨by (with_reducible repeat (first | refine blk_drewN ?_ _ | refine blk_drew ?_ | refine blk_alloc ?_ _)); refine blk_put (cs := #[.int .i64 0, .int .i64 0]) ?_ 1 _ rfl; (with_reducible repeat (first | refine blk_drewN ?_ _ | refine blk_drew ?_ | refine blk_alloc ?_ _)); refine blk_put (cs := #[.int .i64 0, .int .i64 0]) ?_ 0 _ rfl; (with_reducible repeat (first | refine blk_drewN ?_ _ | refine blk_drew ?_ | refine blk_alloc ?_ _)); exact BK142.out⟩, ⟨by repeat (first | (with_reducible first | exact HB.out | apply below_alloc | apply pw_below_drewN | apply below_drew1 | refine below_set ?_ GE142.out) | exact HB.out)⟩⟩
   case round =>
    clear H'
    try clear c1
    try clear p2
    try clear c3
    try clear c4
    try clear c4b0
    try clear c4b1
    try clear hcz8_0
    try clear hcz8_1
    try clear hfz8_0
    try clear hfz8_1
    obtain ⟨x5_1, x6_1, x21_1, x143000_1, x143001_1, rfl, rfl, rfl, HA, HK1, BK142, HB⟩ := hrel
    cases gk with
    | zero => exact absurd HA.out (by simp [palletlaw10_MemberCliques.l0])
    | succ k1 =>
     have H := HA.out
     clear HA
     simp only [palletlaw10_MemberCliques.l0] at H
     by_cases c9 : x21_1 < (l0.length : Int)
     ·rw [if_pos c9] at H
      have c9b0 : decide (x21_1 < (l0.length : Int)) = true := decide_eq_true c9
      clear c9
      by_cases c10 : 0 ≤ x21_1
      ·rw [if_pos c10] at H
       have c10b0 : decide (0 ≤ x21_1) = true := decide_eq_true c10
       clear c10
       by_cases c11 : x21_1 < (l0.length : Int)
       ·rw [if_pos c11] at H
        have c11b0 : decide (x21_1 < (l0.length : Int)) = true := decide_eq_true c11
        clear c11
        replace H := Option.bind_eq_some_iff.mp H
        obtain ⟨⟨t144, t145, t146⟩, A120, H⟩ := H
        replace H : (if t146 = 0 then (if (wrap64 (Int.tmod (rd l0 x21_1) 4)) = 1 then (palletlaw10_MemberCliques.j1 k1 true x5_1 x6_1 l0 (l0.length : Int) x21_1 (wrap64 (Int.tmod (rd l0 x21_1) 4)) ((wrap64 (Int.tmod (rd l0 x21_1) 4)) == 1) t144 t145) else (palletlaw10_MemberCliques.j1 k1 true x5_1 x6_1 l0 (l0.length : Int) x21_1 (wrap64 (Int.tmod (rd l0 x21_1) 4)) ((wrap64 (Int.tmod (rd l0 x21_1) 4)) == 2) t144 t145)) else (some false)) = some r := H
        have A12 := Aside0.mk A120
        clear A120
        by_cases c13 : t146 = 0
        ·rw [if_pos c13] at H
         have c13b0 : (t146 == 0) = true := beq_iff_eq.mpr c13
         have c13b1 : (t146 != 0) = false := bne_eq_false_iff_eq.mpr c13
         clear c13
         have HC14 := Aside0.mk H
         clear H
         have p143 : 0 ≤ (x21_1 : Int) := of_decide_eq_true (by first | (with_reducible assumption) | assumption)
         have q143 : x21_1 < (l0.length : Int) := of_decide_eq_true (by first | (with_reducible assumption) | assumption)
         obtain ⟨ad143, e143, hx143_0⟩ := Kd.at_int HR0.out x21_1 p143 q143
         cases e143
         replace hx143_0 := (HB.out.cell (World.block_lt_of_cell? w _ hx143_0)).trans hx143_0
         replace p143 := eq_true p143
         replace q143 := eq_true q143
         have hcz15_0 : wr.cell? ⟨gb142, 0, none⟩ = some (.int .i64 x143000_1) := (blk_cell BK142.out 0).trans rfl
         have hcz15_1 : wr.cell? ⟨gb142, 1, none⟩ = some (.int .i64 x143001_1) := (blk_cell BK142.out 1).trans rfl
         have hfz15_0 := blk_frozen BK142.out 0
         have hfz15_1 := blk_frozen BK142.out 1
         go_upto_if 39 with (first | ((with_reducible refine gate_callee (f := 11) rfl ?_); refine goesL_ (some 30) rfl rfl Try.func11 (by kernel_rfl) rfl #[.agg #[.int .i64 x143000_1, .int .i64 x143001_1], .int .i64 (wrap64 (Int.tmod (rd l0 x21_1) 4))] rfl (by (try simp only [List.map_toArray, List.map_cons, List.map_nil]); first | done | rfl | (simp only [List.length_drop, List.length_take]; rfl)) ?_; (with_reducible refine (member_Count.calls k1 x143000_1 x143001_1 (wrap64 (Int.tmod (rd l0 x21_1) 4)) t144 t145 t146 _ A12.out).mono ?_); rintro e w16 ⟨rfl, hb⟩; refine ⟨_, rfl, ?_⟩; have n0_ := Aside0.mk (blk_below (g := gb142) (o := .cells #[.int .i64 x143000_1, .int .i64 x143001_1] 25 (0, 0)) (by (with_reducible repeat (first | refine blk_drewN ?_ _ | refine blk_drew ?_ | refine blk_alloc ?_ _)); exact BK142.out) hb); have n1_ := Aside0.mk (below_step (by repeat (first | (with_reducible first | exact HB.out | apply below_alloc | apply pw_below_drewN | apply below_drew1 | refine below_set ?_ GE142.out) | exact HB.out)) hb); clear BK142; clear HB; have BK142 := n0_; have HB := n1_; clear n0_ n1_; (try clear hb); (try clear hb2); (try clear hk); (try clear hi)) | ((with_reducible refine gate_dst (N := 9) rfl ?_); refine box_event ?hg (N := 9) ?hd (cs := #[.int .i64 0, .int .i64 0]) (t := 25) ?hr ?_; (case hd => rfl); (case hg => rfl); (case hr => first | (go_simp; done) | (go_simp; rfl)); intro gb147 hg w17 hbox hb; have n0_ := Aside0.mk (blk_below (g := gb142) (o := .cells #[.int .i64 x143000_1, .int .i64 x143001_1] 25 (0, 0)) (by (with_reducible repeat (first | refine blk_drewN ?_ _ | refine blk_drew ?_ | refine blk_alloc ?_ _)); exact BK142.out) hb); have n1_ := Aside0.mk (below_step (by repeat (first | (with_reducible first | exact HB.out | apply below_alloc | apply pw_below_drewN | apply below_drew1 | refine below_set ?_ GE142.out) | exact HB.out)) hb); have n2_ := Aside0.mk (hbox); have n3_ := Aside0.mk ((by rw [hg]; exact (below_size (by repeat (first | (with_reducible first | exact HB.out | apply below_alloc | apply pw_below_drewN | apply below_drew1 | refine below_set ?_ GE142.out) | exact HB.out))) : w.heap.size ≤ gb147)); have n4_ := Aside0.mk ((by rw [hg]; exact (below_size (by repeat (first | (with_reducible first | exact HB.out | apply below_alloc | apply pw_below_drewN | apply below_drew1 | refine below_set ?_ GE142.out) | exact HB.out))) : w.heap.size ≤ gb147)); have n5_ := Aside0.mk ((by rw [hg]; exact Nat.ne_of_lt (blk_lt (g := gb142) (o := .cells #[.int .i64 x143000_1, .int .i64 x143001_1] 25 (0, 0)) (by (with_reducible repeat (first | refine blk_drewN ?_ _ | refine blk_drew ?_ | refine blk_alloc ?_ _)); exact BK142.out)) : gb142 ≠ gb147)); have n6_ := Aside0.mk ((by rw [hg]; exact Nat.ne_of_gt (blk_lt (g := gb142) (o := .cells #[.int .i64 x143000_1, .int .i64 x143001_1] 25 (0, 0)) (by (with_reducible repeat (first | refine blk_drewN ?_ _ | refine blk_drew ?_ | refine blk_alloc ?_ _)); exact BK142.out)) : gb147 ≠ gb142)); clear BK142; clear HB; have BK142 := n0_; have HB := n1_; have BK147 := n2_; have GW147 := n3_; have GE147 := n4_; have NB142_147 := n5_; have NB147_142 := n6_; clear n0_ n1_ n2_ n3_ n4_ n5_ n6_; clear hb hbox hg; have hnb18 := NB147_142.out; have hnc18 := NB142_147.out; have hcz19_0 : w17.cell? ⟨gb147, 0, none⟩ = some (.int .i64 0) := (blk_cell BK147.out 0).trans rfl; have hcz19_1 : w17.cell? ⟨gb147, 1, none⟩ = some (.int .i64 0) := (blk_cell BK147.out 1).trans rfl; have hfz19_0 := blk_frozen BK147.out 0; have hfz19_1 := blk_frozen BK147.out 1; have hcz20_0 : w17.cell? ⟨gb142, 0, none⟩ = some (.int .i64 x143000_1) := (blk_cell BK142.out 0).trans rfl; have hcz20_1 : w17.cell? ⟨gb142, 1, none⟩ = some (.int .i64 x143001_1) := (blk_cell BK142.out 1).trans rfl; have hfz20_0 := blk_frozen BK142.out 0; have hfz20_1 := blk_frozen BK142.out 1))
         (try simp only [Act.put, List.setIfInBounds_toArray, List.set_cons_zero, List.set_cons_succ])
         go_cut [39] (fun v39 wc => ∃ (kq : Nat) (x39_13 : Bool), v39 = .bool x39_13 ∧ Aside0 (palletlaw10_MemberCliques.j1 kq true x5_1 x6_1 l0 (l0.length : Int) x21_1 (wrap64 (Int.tmod (rd l0 x21_1) 4)) x39_13 t144 t145 = some r) ∧ Aside0 (kq ≤ k1) ∧ Aside0 (wc.heap[gb142]? = some (.cells #[.int .i64 t144, .int .i64 t145] 25 (0, 0))) ∧ Aside0 (wc.heap[gb147]? = some (.cells #[.int .i64 t144, .int .i64 t145] 25 (0, 0))) ∧ Aside0 (Below w.heap.size w wc))
         case first =>
          have H := HC14.out
          clear HC14
          by_cases c21 : (wrap64 (Int.tmod (rd l0 x21_1) 4)) = 1
          ·rw [if_pos c21] at H
           have c21b0 : ((wrap64 (Int.tmod (rd l0 x21_1) 4)) == 1) = true := beq_iff_eq.mpr c21
           have c21b1 : ((wrap64 (Int.tmod (rd l0 x21_1) 4)) != 1) = false := bne_eq_false_iff_eq.mpr c21
           clear c21
           (first | rw [c21b0] | (simp only [i64_w, i32_w]; rw [c21b0]) | skip)
           have H' := Aside0.mk H
           clear H
           go_wp2
           go_meet
           case rel => exact ⟨_, (((wrap64 (Int.tmod (rd l0 x21_1) 4)) == 1)), (by first | rfl | (simp; done) | (simp [*]; done)), H', ⟨by have := HK1.out; first | omega | exact Nat.le_refl _⟩, ⟨by (with_reducible repeat (first | refine blk_drewN ?_ _ | refine blk_drew ?_ | refine blk_alloc ?_ _)); refine blk_put (cs := #[.int .i64 t144, .int .i64 x143001_1]) ?_ 1 _ rfl; (with_reducible repeat (first | refine blk_drewN ?_ _ | refine blk_drew ?_ | refine blk_alloc ?_ _)); refine blk_put (cs := #[.int .i64 x143000_1, .int .i64 x143001_1]) ?_ 0 _ rfl; (with_reducible repeat (first | refine blk_drewN ?_ _ | refine blk_drew ?_ | refine blk_alloc ?_ _)); refine blk_far ?_ NB142_147.out _; (with_reducible repeat (first | refine blk_drewN ?_ _ | refine blk_drew ?_ | refine blk_alloc ?_ _)); refine blk_far ?_ NB142_147.out _; (with_reducible repeat (first | refine blk_drewN ?_ _ | refine blk_drew ?_ | refine blk_alloc ?_ _)); exact BK142.out⟩, ⟨by (with_reducible repeat (first | refine blk_drewN ?_ _ | refine blk_drew ?_ | refine blk_alloc ?_ _)); refine blk_far ?_ NB147_142.out _; (with_reducible repeat (first | refine blk_drewN ?_ _ | refine blk_drew ?_ | refine blk_alloc ?_ _)); refine blk_far ?_ NB147_142.out _; (with_reducible repeat (first | refine blk_drewN ?_ _ | refine blk_drew ?_ | refine blk_alloc ?_ _)); refine blk_put (cs := #[.int .i64 t144, .int .i64 0]) ?_ 1 _ rfl; (with_reducible repeat (first | refine blk_drewN ?_ _ | refine blk_drew ?_ | refine blk_alloc ?_ _)); refine blk_put (cs := #[.int .i64 0, .int .i64 0]) ?_ 0 _ rfl; (with_reducible repeat (first | refine blk_drewN ?_ _ | refine blk_drew ?_ | refine blk_alloc ?_ _)); exact BK147.out⟩, ⟨by repeat (first | (with_reducible first | exact HB.out | apply below_alloc | apply pw_below_drewN | apply below_drew1 | refine below_set ?_ GE142.out | refine below_set ?_ GE147.out) | exact HB.out)⟩⟩
          ·rw [if_neg c21] at H
           have c21b0 : ((wrap64 (Int.tmod (rd l0 x21_1) 4)) == 1) = false := beq_eq_false_iff_ne.mpr c21
           have c21b1 : ((wrap64 (Int.tmod (rd l0 x21_1) 4)) != 1) = true := bne_iff_ne.mpr c21
           (first | rw [c21b0] | (simp only [i64_w, i32_w]; rw [c21b0]) | skip)
           have H' := Aside0.mk H
           clear H
           go_wp2
           go_meet
           case rel => exact ⟨_, (((wrap64 (Int.tmod (rd l0 x21_1) 4)) == 2)), (by first | rfl | (simp; done) | (simp [*]; done)), H', ⟨by have := HK1.out; first | omega | exact Nat.le_refl _⟩, ⟨by (with_reducible repeat (first | refine blk_drewN ?_ _ | refine blk_drew ?_ | refine blk_alloc ?_ _)); refine blk_put (cs := #[.int .i64 t144, .int .i64 x143001_1]) ?_ 1 _ rfl; (with_reducible repeat (first | refine blk_drewN ?_ _ | refine blk_drew ?_ | refine blk_alloc ?_ _)); refine blk_put (cs := #[.int .i64 x143000_1, .int .i64 x143001_1]) ?_ 0 _ rfl; (with_reducible repeat (first | refine blk_drewN ?_ _ | refine blk_drew ?_ | refine blk_alloc ?_ _)); refine blk_far ?_ NB142_147.out _; (with_reducible repeat (first | refine blk_drewN ?_ _ | refine blk_drew ?_ | refine blk_alloc ?_ _)); refine blk_far ?_ NB142_147.out _; (with_reducible repeat (first | refine blk_drewN ?_ _ | refine blk_drew ?_ | refine blk_alloc ?_ _)); exact BK142.out⟩, ⟨by (with_reducible repeat (first | refine blk_drewN ?_ _ | refine blk_drew ?_ | refine blk_alloc ?_ _)); refine blk_far ?_ NB147_142.out _; (with_reducible repeat (first | refine blk_drewN ?_ _ | refine blk_drew ?_ | refine blk_alloc ?_ _)); refine blk_far ?_ NB147_142.out _; (with_reducible repeat (first | refine blk_drewN ?_ _ | refine blk_drew ?_ | refine blk_alloc ?_ _)); refine blk_put (cs := #[.int .i64 t144, .int .i64 0]) ?_ 1 _ rfl; (with_reducible repeat (first | refine blk_drewN ?_ _ | refine blk_drew ?_ | refine blk_alloc ?_ _)); refine blk_put (cs := #[.int .i64 0, .int .i64 0]) ?_ 0 _ rfl; (with_reducible repeat (first | refine blk_drewN ?_ _ | refine blk_drew ?_ | refine blk_alloc ?_ _)); exact BK147.out⟩, ⟨by repeat (first | (with_reducible first | exact HB.out | apply below_alloc | apply pw_below_drewN | apply below_drew1 | refine below_set ?_ GE142.out | refine below_set ?_ GE147.out) | exact HB.out)⟩⟩
         case rest =>
          clear HC14
          try clear c1
          try clear p1
          try clear q1
          try clear hx1
          try clear c2
          try clear p2
          try clear c3
          try clear c4
          try clear c4b0
          try clear c4b1
          try clear p6
          try clear c9
          try clear c9b0
          try clear c10
          try clear c10b0
          try clear c11
          try clear c11b0
          try clear c13
          try clear c13b0
          try clear c13b1
          try clear p14
          try clear q14
          try clear hx14
          try clear c18
          try clear c21
          try clear c21b0
          try clear c21b1
          try clear hcz15_0
          try clear hcz15_1
          try clear hcz19_0
          try clear hcz19_1
          try clear hcz20_0
          try clear hcz20_1
          try clear hcz8_0
          try clear hcz8_1
          try clear hfz15_0
          try clear hfz15_1
          try clear hfz19_0
          try clear hfz19_1
          try clear hfz20_0
          try clear hfz20_1
          try clear hfz8_0
          try clear hfz8_1
          try clear hx143_0
          try clear p143
          try clear p2
          try clear q143
          obtain ⟨kq, x39_13, rfl, HA, HJ13, BK142, BK147, HB⟩ := hcut
          cases kq with
          | zero => exact absurd HA.out (by simp [palletlaw10_MemberCliques.j1])
          | succ kj13 =>
           have H := HA.out
           clear HA
           simp only [palletlaw10_MemberCliques.j1] at H
           by_cases c22 : x39_13 = true
           ·subst c22
            have H1 : (if t144 = (wrap64 (x5_1 + 1)) then (if t145 = x6_1 then ((member_Clique.f t144 t145).bind fun t148 => (if x6_1 > 0 then (if (t148 != (decide (x6_1 ≥ (wrap64 (x5_1 + 1))))) = true then (some false) else (palletlaw10_MemberCliques.l0 kj13 true (wrap64 (x5_1 + 1)) x6_1 l0 (l0.length : Int) (wrap64 (x21_1 + 1)) t144 t145)) else (if (t148 != false) = true then (some false) else (palletlaw10_MemberCliques.l0 kj13 true (wrap64 (x5_1 + 1)) x6_1 l0 (l0.length : Int) (wrap64 (x21_1 + 1)) t144 t145)))) else (some false)) else (some false)) = some r := by rw [if_pos rfl] at H; exact H
            clear H
            have H := H1
            clear H1
            by_cases c23 : t144 = (wrap64 (x5_1 + 1))
            ·rw [if_pos c23] at H
             have c23b0 : (t144 == (wrap64 (x5_1 + 1))) = true := beq_iff_eq.mpr c23
             have c23b1 : (t144 != (wrap64 (x5_1 + 1))) = false := bne_eq_false_iff_eq.mpr c23
             clear c23
             by_cases c24 : t145 = x6_1
             ·rw [if_pos c24] at H
              have c24b0 : (t145 == x6_1) = true := beq_iff_eq.mpr c24
              have c24b1 : (t145 != x6_1) = false := bne_eq_false_iff_eq.mpr c24
              clear c24
              replace H := Option.bind_eq_some_iff.mp H
              obtain ⟨t148, A250, H⟩ := H
              replace H : (if x6_1 > 0 then (if (t148 != (decide (x6_1 ≥ (wrap64 (x5_1 + 1))))) = true then (some false) else (palletlaw10_MemberCliques.l0 kj13 true (wrap64 (x5_1 + 1)) x6_1 l0 (l0.length : Int) (wrap64 (x21_1 + 1)) t144 t145)) else (if (t148 != false) = true then (some false) else (palletlaw10_MemberCliques.l0 kj13 true (wrap64 (x5_1 + 1)) x6_1 l0 (l0.length : Int) (wrap64 (x21_1 + 1)) t144 t145))) = some r := H
              have A25 := Aside0.mk A250
              clear A250
              by_cases c26 : x6_1 > 0
              ·rw [if_pos c26] at H
               have c26b0 : decide (0 < x6_1) = true := decide_eq_true c26
               clear c26
               by_cases c27 : (t148 != (decide (x6_1 ≥ (wrap64 (x5_1 + 1))))) = true
               ·rw [if_pos c27] at H
                have c27b0 : (t148 != (decide (x6_1 ≥ (wrap64 (x5_1 + 1))))) = true := c27
                (try (have c27b1 : decide (t148 = (decide (x6_1 ≥ (wrap64 (x5_1 + 1))))) = false := by simpa using c27))
                (try (have c27b2 : (t148 == (decide (x6_1 ≥ (wrap64 (x5_1 + 1))))) = false := by simpa using c27))
                (try (have c27b3 : ¬ (t148 = (decide (x6_1 ≥ (wrap64 (x5_1 + 1))))) := by simpa using c27))
                clear c27
                obtain rfl := Option.some.inj H
                exact absurd hr_.out (by decide)
               ·rw [if_neg c27] at H
                have c27b0 : (t148 != (decide (x6_1 ≥ (wrap64 (x5_1 + 1))))) = false := by simpa using c27
                (try (have c27b1 : decide (t148 = (decide (x6_1 ≥ (wrap64 (x5_1 + 1))))) = true := by simpa using c27))
                (try (have c27b2 : (t148 == (decide (x6_1 ≥ (wrap64 (x5_1 + 1))))) = true := by simpa using c27))
                clear c27
                have H' := Aside0.mk H
                clear H
                have hnb28 := NB142_147.out
                have hnc28 := NB147_142.out
                have hcz29_0 : wc.cell? ⟨gb142, 0, none⟩ = some (.int .i64 t144) := (blk_cell BK142.out 0).trans rfl
                have hcz29_1 : wc.cell? ⟨gb142, 1, none⟩ = some (.int .i64 t145) := (blk_cell BK142.out 1).trans rfl
                have hfz29_0 := blk_frozen BK142.out 0
                have hfz29_1 := blk_frozen BK142.out 1
                go_wp2_with (first | (go_at_call 12; (with_reducible refine (member_Clique.calls t144 t145 t148 _ A25.out).mono ?_); rintro e w30 ⟨rfl, hb⟩; have n0_ := Aside0.mk (blk_below (g := gb142) (o := .cells #[.int .i64 t144, .int .i64 t145] 25 (0, 0)) (by (with_reducible repeat (first | refine blk_drewN ?_ _ | refine blk_drew ?_ | refine blk_alloc ?_ _)); exact BK142.out) hb); have n1_ := Aside0.mk (blk_below (g := gb147) (o := .cells #[.int .i64 t144, .int .i64 t145] 25 (0, 0)) (by (with_reducible repeat (first | refine blk_drewN ?_ _ | refine blk_drew ?_ | refine blk_alloc ?_ _)); exact BK147.out) hb); have n2_ := Aside0.mk (below_step (by repeat (first | (with_reducible first | exact HB.out | apply below_alloc | apply pw_below_drewN | apply below_drew1 | refine below_set ?_ GE142.out | refine below_set ?_ GE147.out) | exact HB.out)) hb); clear BK142; clear BK147; clear HB; have BK142 := n0_; have BK147 := n1_; have HB := n2_; clear n0_ n1_ n2_; (try clear hb); (try clear hb2); (try clear hk); (try clear hi)))
                go_roundg kj13
                case measure => have := HK1.out; have := HJ13.out; omega
                case rel => exact ⟨(wrap64 (x5_1 + 1)), (x6_1), (wrap64 (x21_1 + 1)), (t144), (t145), (by first | rfl | (simp; done) | (simp [*]; done)), (by first | rfl | (simp; done) | (simp [*]; done)), (by first | rfl | (simp; done) | (simp [*]; done)), H', ⟨by have := HK1.out; have := HJ13.out; omega⟩, ⟨by (with_reducible repeat (first | refine blk_drewN ?_ _ | refine blk_drew ?_ | refine blk_alloc ?_ _)); exact BK142.out⟩, ⟨by repeat (first | (with_reducible first | exact HB.out | apply below_alloc | apply pw_below_drewN | apply below_drew1 | refine below_set ?_ GE142.out | refine below_set ?_ GE147.out) | exact HB.out)⟩⟩
              ·rw [if_neg c26] at H
               have c26b0 : decide (0 < x6_1) = false := decide_eq_false c26
               clear c26
               by_cases c31 : (t148 != false) = true
               ·rw [if_pos c31] at H
                have c31b0 : (t148 != false) = true := c31
                (try (have c31b1 : decide (t148 = false) = false := by simpa using c31))
                (try (have c31b2 : (t148 == false) = false := by simpa using c31))
                (try (have c31b3 : ¬ (t148 = false) := by simpa using c31))
                clear c31
                obtain rfl := Option.some.inj H
                exact absurd hr_.out (by decide)
               ·rw [if_neg c31] at H
                have c31b0 : (t148 != false) = false := by simpa using c31
                (try (have c31b1 : decide (t148 = false) = true := by simpa using c31))
                (try (have c31b2 : (t148 == false) = true := by simpa using c31))
                clear c31
                have H' := Aside0.mk H
                clear H
                have hnb32 := NB142_147.out
                have hnc32 := NB147_142.out
                have hcz33_0 : wc.cell? ⟨gb142, 0, none⟩ = some (.int .i64 t144) := (blk_cell BK142.out 0).trans rfl
                have hcz33_1 : wc.cell? ⟨gb142, 1, none⟩ = some (.int .i64 t145) := (blk_cell BK142.out 1).trans rfl
                have hfz33_0 := blk_frozen BK142.out 0
                have hfz33_1 := blk_frozen BK142.out 1
                go_wp2_with (first | (go_at_call 12; (with_reducible refine (member_Clique.calls t144 t145 t148 _ A25.out).mono ?_); rintro e w34 ⟨rfl, hb⟩; have n0_ := Aside0.mk (blk_below (g := gb142) (o := .cells #[.int .i64 t144, .int .i64 t145] 25 (0, 0)) (by (with_reducible repeat (first | refine blk_drewN ?_ _ | refine blk_drew ?_ | refine blk_alloc ?_ _)); exact BK142.out) hb); have n1_ := Aside0.mk (blk_below (g := gb147) (o := .cells #[.int .i64 t144, .int .i64 t145] 25 (0, 0)) (by (with_reducible repeat (first | refine blk_drewN ?_ _ | refine blk_drew ?_ | refine blk_alloc ?_ _)); exact BK147.out) hb); have n2_ := Aside0.mk (below_step (by repeat (first | (with_reducible first | exact HB.out | apply below_alloc | apply pw_below_drewN | apply below_drew1 | refine below_set ?_ GE142.out | refine below_set ?_ GE147.out) | exact HB.out)) hb); clear BK142; clear BK147; clear HB; have BK142 := n0_; have BK147 := n1_; have HB := n2_; clear n0_ n1_ n2_; (try clear hb); (try clear hb2); (try clear hk); (try clear hi)))
                go_roundg kj13
                case measure => have := HK1.out; have := HJ13.out; omega
                case rel => exact ⟨(wrap64 (x5_1 + 1)), (x6_1), (wrap64 (x21_1 + 1)), (t144), (t145), (by first | rfl | (simp; done) | (simp [*]; done)), (by first | rfl | (simp; done) | (simp [*]; done)), (by first | rfl | (simp; done) | (simp [*]; done)), H', ⟨by have := HK1.out; have := HJ13.out; omega⟩, ⟨by (with_reducible repeat (first | refine blk_drewN ?_ _ | refine blk_drew ?_ | refine blk_alloc ?_ _)); exact BK142.out⟩, ⟨by repeat (first | (with_reducible first | exact HB.out | apply below_alloc | apply pw_below_drewN | apply below_drew1 | refine below_set ?_ GE142.out | refine below_set ?_ GE147.out) | exact HB.out)⟩⟩
             ·rw [if_neg c24] at H
              have c24b0 : (t145 == x6_1) = false := beq_eq_false_iff_ne.mpr c24
              have c24b1 : (t145 != x6_1) = true := bne_iff_ne.mpr c24
              obtain rfl := Option.some.inj H
              exact absurd hr_.out (by decide)
            ·rw [if_neg c23] at H
             have c23b0 : (t144 == (wrap64 (x5_1 + 1))) = false := beq_eq_false_iff_ne.mpr c23
             have c23b1 : (t144 != (wrap64 (x5_1 + 1))) = true := bne_iff_ne.mpr c23
             obtain rfl := Option.some.inj H
             exact absurd hr_.out (by decide)
           ·replace c22 := Bool.eq_false_iff.mpr c22
            subst c22
            have H1 : (if (wrap64 (Int.tmod (rd l0 x21_1) 4)) = 3 then (if t144 = x5_1 then (if t145 = (wrap64 (x6_1 + 1)) then ((member_Clique.f t144 t145).bind fun t149 => (if (wrap64 (x6_1 + 1)) > 0 then (if (t149 != (decide ((wrap64 (x6_1 + 1)) ≥ x5_1))) = true then (some false) else (palletlaw10_MemberCliques.l0 kj13 true x5_1 (wrap64 (x6_1 + 1)) l0 (l0.length : Int) (wrap64 (x21_1 + 1)) t144 t145)) else (if (t149 != false) = true then (some false) else (palletlaw10_MemberCliques.l0 kj13 true x5_1 (wrap64 (x6_1 + 1)) l0 (l0.length : Int) (wrap64 (x21_1 + 1)) t144 t145)))) else (some false)) else (some false)) else (if t144 = x5_1 then (if t145 = x6_1 then ((member_Clique.f t144 t145).bind fun t150 => (if x6_1 > 0 then (if (t150 != (decide (x6_1 ≥ x5_1))) = true then (some false) else (palletlaw10_MemberCliques.l0 kj13 true x5_1 x6_1 l0 (l0.length : Int) (wrap64 (x21_1 + 1)) t144 t145)) else (if (t150 != false) = true then (some false) else (palletlaw10_MemberCliques.l0 kj13 true x5_1 x6_1 l0 (l0.length : Int) (wrap64 (x21_1 + 1)) t144 t145)))) else (some false)) else (some false))) = some r := by rw [if_neg (show ¬ (false = true) by decide)] at H; exact H
            clear H
            have H := H1
            clear H1
            by_cases c35 : (wrap64 (Int.tmod (rd l0 x21_1) 4)) = 3
            ·rw [if_pos c35] at H
             have c35b0 : ((wrap64 (Int.tmod (rd l0 x21_1) 4)) == 3) = true := beq_iff_eq.mpr c35
             have c35b1 : ((wrap64 (Int.tmod (rd l0 x21_1) 4)) != 3) = false := bne_eq_false_iff_eq.mpr c35
             clear c35
             by_cases c36 : t144 = x5_1
             ·rw [if_pos c36] at H
              have c36b0 : (t144 == x5_1) = true := beq_iff_eq.mpr c36
              have c36b1 : (t144 != x5_1) = false := bne_eq_false_iff_eq.mpr c36
              clear c36
              by_cases c37 : t145 = (wrap64 (x6_1 + 1))
              ·rw [if_pos c37] at H
               have c37b0 : (t145 == (wrap64 (x6_1 + 1))) = true := beq_iff_eq.mpr c37
               have c37b1 : (t145 != (wrap64 (x6_1 + 1))) = false := bne_eq_false_iff_eq.mpr c37
               clear c37
               replace H := Option.bind_eq_some_iff.mp H
               obtain ⟨t149, A380, H⟩ := H
               replace H : (if (wrap64 (x6_1 + 1)) > 0 then (if (t149 != (decide ((wrap64 (x6_1 + 1)) ≥ x5_1))) = true then (some false) else (palletlaw10_MemberCliques.l0 kj13 true x5_1 (wrap64 (x6_1 + 1)) l0 (l0.length : Int) (wrap64 (x21_1 + 1)) t144 t145)) else (if (t149 != false) = true then (some false) else (palletlaw10_MemberCliques.l0 kj13 true x5_1 (wrap64 (x6_1 + 1)) l0 (l0.length : Int) (wrap64 (x21_1 + 1)) t144 t145))) = some r := H
               have A38 := Aside0.mk A380
               clear A380
               by_cases c39 : (wrap64 (x6_1 + 1)) > 0
               ·rw [if_pos c39] at H
                have c39b0 : decide (0 < (wrap64 (x6_1 + 1))) = true := decide_eq_true c39
                clear c39
                by_cases c40 : (t149 != (decide ((wrap64 (x6_1 + 1)) ≥ x5_1))) = true
                ·rw [if_pos c40] at H
                 have c40b0 : (t149 != (decide ((wrap64 (x6_1 + 1)) ≥ x5_1))) = true := c40
                 (try (have c40b1 : decide (t149 = (decide ((wrap64 (x6_1 + 1)) ≥ x5_1))) = false := by simpa using c40))
                 (try (have c40b2 : (t149 == (decide ((wrap64 (x6_1 + 1)) ≥ x5_1))) = false := by simpa using c40))
                 (try (have c40b3 : ¬ (t149 = (decide ((wrap64 (x6_1 + 1)) ≥ x5_1))) := by simpa using c40))
                 clear c40
                 obtain rfl := Option.some.inj H
                 exact absurd hr_.out (by decide)
                ·rw [if_neg c40] at H
                 have c40b0 : (t149 != (decide ((wrap64 (x6_1 + 1)) ≥ x5_1))) = false := by simpa using c40
                 (try (have c40b1 : decide (t149 = (decide ((wrap64 (x6_1 + 1)) ≥ x5_1))) = true := by simpa using c40))
                 (try (have c40b2 : (t149 == (decide ((wrap64 (x6_1 + 1)) ≥ x5_1))) = true := by simpa using c40))
                 clear c40
                 have H' := Aside0.mk H
                 clear H
                 have hnb41 := NB142_147.out
                 have hnc41 := NB147_142.out
                 have hcz42_0 : wc.cell? ⟨gb142, 0, none⟩ = some (.int .i64 t144) := (blk_cell BK142.out 0).trans rfl
                 have hcz42_1 : wc.cell? ⟨gb142, 1, none⟩ = some (.int .i64 t145) := (blk_cell BK142.out 1).trans rfl
                 have hfz42_0 := blk_frozen BK142.out 0
                 have hfz42_1 := blk_frozen BK142.out 1
                 go_wp2_with (first | (go_at_call 12; (with_reducible refine (member_Clique.calls t144 t145 t149 _ A38.out).mono ?_); rintro e w43 ⟨rfl, hb⟩; have n0_ := Aside0.mk (blk_below (g := gb142) (o := .cells #[.int .i64 t144, .int .i64 t145] 25 (0, 0)) (by (with_reducible repeat (first | refine blk_drewN ?_ _ | refine blk_drew ?_ | refine blk_alloc ?_ _)); exact BK142.out) hb); have n1_ := Aside0.mk (blk_below (g := gb147) (o := .cells #[.int .i64 t144, .int .i64 t145] 25 (0, 0)) (by (with_reducible repeat (first | refine blk_drewN ?_ _ | refine blk_drew ?_ | refine blk_alloc ?_ _)); exact BK147.out) hb); have n2_ := Aside0.mk (below_step (by repeat (first | (with_reducible first | exact HB.out | apply below_alloc | apply pw_below_drewN | apply below_drew1 | refine below_set ?_ GE142.out | refine below_set ?_ GE147.out) | exact HB.out)) hb); clear BK142; clear BK147; clear HB; have BK142 := n0_; have BK147 := n1_; have HB := n2_; clear n0_ n1_ n2_; (try clear hb); (try clear hb2); (try clear hk); (try clear hi)))
                 go_roundg kj13
                 case measure => have := HK1.out; have := HJ13.out; omega
                 case rel => exact ⟨(x5_1), (wrap64 (x6_1 + 1)), (wrap64 (x21_1 + 1)), (t144), (t145), (by first | rfl | (simp; done) | (simp [*]; done)), (by first | rfl | (simp; done) | (simp [*]; done)), (by first | rfl | (simp; done) | (simp [*]; done)), H', ⟨by have := HK1.out; have := HJ13.out; omega⟩, ⟨by (with_reducible repeat (first | refine blk_drewN ?_ _ | refine blk_drew ?_ | refine blk_alloc ?_ _)); exact BK142.out⟩, ⟨by repeat (first | (with_reducible first | exact HB.out | apply below_alloc | apply pw_below_drewN | apply below_drew1 | refine below_set ?_ GE142.out | refine below_set ?_ GE147.out) | exact HB.out)⟩⟩
               ·rw [if_neg c39] at H
                have c39b0 : decide (0 < (wrap64 (x6_1 + 1))) = false := decide_eq_false c39
                clear c39
                by_cases c44 : (t149 != false) = true
                ·rw [if_pos c44] at H
                 have c44b0 : (t149 != false) = true := c44
                 (try (have c44b1 : decide (t149 = false) = false := by simpa using c44))
                 (try (have c44b2 : (t149 == false) = false := by simpa using c44))
                 (try (have c44b3 : ¬ (t149 = false) := by simpa using c44))
                 clear c44
                 obtain rfl := Option.some.inj H
                 exact absurd hr_.out (by decide)
                ·rw [if_neg c44] at H
                 have c44b0 : (t149 != false) = false := by simpa using c44
                 (try (have c44b1 : decide (t149 = false) = true := by simpa using c44))
                 (try (have c44b2 : (t149 == false) = true := by simpa using c44))
                 clear c44
                 have H' := Aside0.mk H
                 clear H
                 have hnb45 := NB142_147.out
                 have hnc45 := NB147_142.out
                 have hcz46_0 : wc.cell? ⟨gb142, 0, none⟩ = some (.int .i64 t144) := (blk_cell BK142.out 0).trans rfl
                 have hcz46_1 : wc.cell? ⟨gb142, 1, none⟩ = some (.int .i64 t145) := (blk_cell BK142.out 1).trans rfl
                 have hfz46_0 := blk_frozen BK142.out 0
                 have hfz46_1 := blk_frozen BK142.out 1
                 go_wp2_with (first | (go_at_call 12; (with_reducible refine (member_Clique.calls t144 t145 t149 _ A38.out).mono ?_); rintro e w47 ⟨rfl, hb⟩; have n0_ := Aside0.mk (blk_below (g := gb142) (o := .cells #[.int .i64 t144, .int .i64 t145] 25 (0, 0)) (by (with_reducible repeat (first | refine blk_drewN ?_ _ | refine blk_drew ?_ | refine blk_alloc ?_ _)); exact BK142.out) hb); have n1_ := Aside0.mk (blk_below (g := gb147) (o := .cells #[.int .i64 t144, .int .i64 t145] 25 (0, 0)) (by (with_reducible repeat (first | refine blk_drewN ?_ _ | refine blk_drew ?_ | refine blk_alloc ?_ _)); exact BK147.out) hb); have n2_ := Aside0.mk (below_step (by repeat (first | (with_reducible first | exact HB.out | apply below_alloc | apply pw_below_drewN | apply below_drew1 | refine below_set ?_ GE142.out | refine below_set ?_ GE147.out) | exact HB.out)) hb); clear BK142; clear BK147; clear HB; have BK142 := n0_; have BK147 := n1_; have HB := n2_; clear n0_ n1_ n2_; (try clear hb); (try clear hb2); (try clear hk); (try clear hi)))
                 go_roundg kj13
                 case measure => have := HK1.out; have := HJ13.out; omega
                 case rel => exact ⟨(x5_1), (wrap64 (x6_1 + 1)), (wrap64 (x21_1 + 1)), (t144), (t145), (by first | rfl | (simp; done) | (simp [*]; done)), (by first | rfl | (simp; done) | (simp [*]; done)), (by first | rfl | (simp; done) | (simp [*]; done)), H', ⟨by have := HK1.out; have := HJ13.out; omega⟩, ⟨by (with_reducible repeat (first | refine blk_drewN ?_ _ | refine blk_drew ?_ | refine blk_alloc ?_ _)); exact BK142.out⟩, ⟨by repeat (first | (with_reducible first | exact HB.out | apply below_alloc | apply pw_below_drewN | apply below_drew1 | refine below_set ?_ GE142.out | refine below_set ?_ GE147.out) | exact HB.out)⟩⟩
              ·rw [if_neg c37] at H
               have c37b0 : (t145 == (wrap64 (x6_1 + 1))) = false := beq_eq_false_iff_ne.mpr c37
               have c37b1 : (t145 != (wrap64 (x6_1 + 1))) = true := bne_iff_ne.mpr c37
               obtain rfl := Option.some.inj H
               exact absurd hr_.out (by decide)
             ·rw [if_neg c36] at H
              have c36b0 : (t144 == x5_1) = false := beq_eq_false_iff_ne.mpr c36
              have c36b1 : (t144 != x5_1) = true := bne_iff_ne.mpr c36
              obtain rfl := Option.some.inj H
              exact absurd hr_.out (by decide)
            ·rw [if_neg c35] at H
             have c35b0 : ((wrap64 (Int.tmod (rd l0 x21_1) 4)) == 3) = false := beq_eq_false_iff_ne.mpr c35
             have c35b1 : ((wrap64 (Int.tmod (rd l0 x21_1) 4)) != 3) = true := bne_iff_ne.mpr c35
             by_cases c48 : t144 = x5_1
             ·rw [if_pos c48] at H
              have c48b0 : (t144 == x5_1) = true := beq_iff_eq.mpr c48
              have c48b1 : (t144 != x5_1) = false := bne_eq_false_iff_eq.mpr c48
              clear c48
              by_cases c49 : t145 = x6_1
              ·rw [if_pos c49] at H
               have c49b0 : (t145 == x6_1) = true := beq_iff_eq.mpr c49
               have c49b1 : (t145 != x6_1) = false := bne_eq_false_iff_eq.mpr c49
               clear c49
               replace H := Option.bind_eq_some_iff.mp H
               obtain ⟨t150, A500, H⟩ := H
               replace H : (if x6_1 > 0 then (if (t150 != (decide (x6_1 ≥ x5_1))) = true then (some false) else (palletlaw10_MemberCliques.l0 kj13 true x5_1 x6_1 l0 (l0.length : Int) (wrap64 (x21_1 + 1)) t144 t145)) else (if (t150 != false) = true then (some false) else (palletlaw10_MemberCliques.l0 kj13 true x5_1 x6_1 l0 (l0.length : Int) (wrap64 (x21_1 + 1)) t144 t145))) = some r := H
               have A50 := Aside0.mk A500
               clear A500
               by_cases c51 : x6_1 > 0
               ·rw [if_pos c51] at H
                have c51b0 : decide (0 < x6_1) = true := decide_eq_true c51
                clear c51
                by_cases c52 : (t150 != (decide (x6_1 ≥ x5_1))) = true
                ·rw [if_pos c52] at H
                 have c52b0 : (t150 != (decide (x6_1 ≥ x5_1))) = true := c52
                 (try (have c52b1 : decide (t150 = (decide (x6_1 ≥ x5_1))) = false := by simpa using c52))
                 (try (have c52b2 : (t150 == (decide (x6_1 ≥ x5_1))) = false := by simpa using c52))
                 (try (have c52b3 : ¬ (t150 = (decide (x6_1 ≥ x5_1))) := by simpa using c52))
                 clear c52
                 obtain rfl := Option.some.inj H
                 exact absurd hr_.out (by decide)
                ·rw [if_neg c52] at H
                 have c52b0 : (t150 != (decide (x6_1 ≥ x5_1))) = false := by simpa using c52
                 (try (have c52b1 : decide (t150 = (decide (x6_1 ≥ x5_1))) = true := by simpa using c52))
                 (try (have c52b2 : (t150 == (decide (x6_1 ≥ x5_1))) = true := by simpa using c52))
                 clear c52
                 have H' := Aside0.mk H
                 clear H
                 have hnb53 := NB142_147.out
                 have hnc53 := NB147_142.out
                 have hcz54_0 : wc.cell? ⟨gb142, 0, none⟩ = some (.int .i64 t144) := (blk_cell BK142.out 0).trans rfl
                 have hcz54_1 : wc.cell? ⟨gb142, 1, none⟩ = some (.int .i64 t145) := (blk_cell BK142.out 1).trans rfl
                 have hfz54_0 := blk_frozen BK142.out 0
                 have hfz54_1 := blk_frozen BK142.out 1
                 go_wp2_with (first | (go_at_call 12; (with_reducible refine (member_Clique.calls t144 t145 t150 _ A50.out).mono ?_); rintro e w55 ⟨rfl, hb⟩; have n0_ := Aside0.mk (blk_below (g := gb142) (o := .cells #[.int .i64 t144, .int .i64 t145] 25 (0, 0)) (by (with_reducible repeat (first | refine blk_drewN ?_ _ | refine blk_drew ?_ | refine blk_alloc ?_ _)); exact BK142.out) hb); have n1_ := Aside0.mk (blk_below (g := gb147) (o := .cells #[.int .i64 t144, .int .i64 t145] 25 (0, 0)) (by (with_reducible repeat (first | refine blk_drewN ?_ _ | refine blk_drew ?_ | refine blk_alloc ?_ _)); exact BK147.out) hb); have n2_ := Aside0.mk (below_step (by repeat (first | (with_reducible first | exact HB.out | apply below_alloc | apply pw_below_drewN | apply below_drew1 | refine below_set ?_ GE142.out | refine below_set ?_ GE147.out) | exact HB.out)) hb); clear BK142; clear BK147; clear HB; have BK142 := n0_; have BK147 := n1_; have HB := n2_; clear n0_ n1_ n2_; (try clear hb); (try clear hb2); (try clear hk); (try clear hi)))
                 go_roundg kj13
                 case measure => have := HK1.out; have := HJ13.out; omega
                 case rel => exact ⟨(x5_1), (x6_1), (wrap64 (x21_1 + 1)), (t144), (t145), (by first | rfl | (simp; done) | (simp [*]; done)), (by first | rfl | (simp; done) | (simp [*]; done)), (by first | rfl | (simp; done) | (simp [*]; done)), H', ⟨by have := HK1.out; have := HJ13.out; omega⟩, ⟨by (with_reducible repeat (first | refine blk_drewN ?_ _ | refine blk_drew ?_ | refine blk_alloc ?_ _)); exact BK142.out⟩, ⟨by repeat (first | (with_reducible first | exact HB.out | apply below_alloc | apply pw_below_drewN | apply below_drew1 | refine below_set ?_ GE142.out | refine below_set ?_ GE147.out) | exact HB.out)⟩⟩
               ·rw [if_neg c51] at H
                have c51b0 : decide (0 < x6_1) = false := decide_eq_false c51
                clear c51
                by_cases c56 : (t150 != false) = true
                ·rw [if_pos c56] at H
                 have c56b0 : (t150 != false) = true := c56
                 (try (have c56b1 : decide (t150 = false) = false := by simpa using c56))
                 (try (have c56b2 : (t150 == false) = false := by simpa using c56))
                 (try (have c56b3 : ¬ (t150 = false) := by simpa using c56))
                 clear c56
                 obtain rfl := Option.some.inj H
                 exact absurd hr_.out (by decide)
                ·rw [if_neg c56] at H
                 have c56b0 : (t150 != false) = false := by simpa using c56
                 (try (have c56b1 : decide (t150 = false) = true := by simpa using c56))
                 (try (have c56b2 : (t150 == false) = true := by simpa using c56))
                 clear c56
                 have H' := Aside0.mk H
                 clear H
                 have hnb57 := NB142_147.out
                 have hnc57 := NB147_142.out
                 have hcz58_0 : wc.cell? ⟨gb142, 0, none⟩ = some (.int .i64 t144) := (blk_cell BK142.out 0).trans rfl
                 have hcz58_1 : wc.cell? ⟨gb142, 1, none⟩ = some (.int .i64 t145) := (blk_cell BK142.out 1).trans rfl
                 have hfz58_0 := blk_frozen BK142.out 0
                 have hfz58_1 := blk_frozen BK142.out 1
                 go_wp2_with (first | (go_at_call 12; (with_reducible refine (member_Clique.calls t144 t145 t150 _ A50.out).mono ?_); rintro e w59 ⟨rfl, hb⟩; have n0_ := Aside0.mk (blk_below (g := gb142) (o := .cells #[.int .i64 t144, .int .i64 t145] 25 (0, 0)) (by (with_reducible repeat (first | refine blk_drewN ?_ _ | refine blk_drew ?_ | refine blk_alloc ?_ _)); exact BK142.out) hb); have n1_ := Aside0.mk (blk_below (g := gb147) (o := .cells #[.int .i64 t144, .int .i64 t145] 25 (0, 0)) (by (with_reducible repeat (first | refine blk_drewN ?_ _ | refine blk_drew ?_ | refine blk_alloc ?_ _)); exact BK147.out) hb); have n2_ := Aside0.mk (below_step (by repeat (first | (with_reducible first | exact HB.out | apply below_alloc | apply pw_below_drewN | apply below_drew1 | refine below_set ?_ GE142.out | refine below_set ?_ GE147.out) | exact HB.out)) hb); clear BK142; clear BK147; clear HB; have BK142 := n0_; have BK147 := n1_; have HB := n2_; clear n0_ n1_ n2_; (try clear hb); (try clear hb2); (try clear hk); (try clear hi)))
                 go_roundg kj13
                 case measure => have := HK1.out; have := HJ13.out; omega
                 case rel => exact ⟨(x5_1), (x6_1), (wrap64 (x21_1 + 1)), (t144), (t145), (by first | rfl | (simp; done) | (simp [*]; done)), (by first | rfl | (simp; done) | (simp [*]; done)), (by first | rfl | (simp; done) | (simp [*]; done)), H', ⟨by have := HK1.out; have := HJ13.out; omega⟩, ⟨by (with_reducible repeat (first | refine blk_drewN ?_ _ | refine blk_drew ?_ | refine blk_alloc ?_ _)); exact BK142.out⟩, ⟨by repeat (first | (with_reducible first | exact HB.out | apply below_alloc | apply pw_below_drewN | apply below_drew1 | refine below_set ?_ GE142.out | refine below_set ?_ GE147.out) | exact HB.out)⟩⟩
              ·rw [if_neg c49] at H
               have c49b0 : (t145 == x6_1) = false := beq_eq_false_iff_ne.mpr c49
               have c49b1 : (t145 != x6_1) = true := bne_iff_ne.mpr c49
               obtain rfl := Option.some.inj H
               exact absurd hr_.out (by decide)
             ·rw [if_neg c48] at H
              have c48b0 : (t144 == x5_1) = false := beq_eq_false_iff_ne.mpr c48
              have c48b1 : (t144 != x5_1) = true := bne_iff_ne.mpr c48
              obtain rfl := Option.some.inj H
              exact absurd hr_.out (by decide)
        ·rw [if_neg c13] at H
         have c13b0 : (t146 == 0) = false := beq_eq_false_iff_ne.mpr c13
         have c13b1 : (t146 != 0) = true := bne_iff_ne.mpr c13
         obtain rfl := Option.some.inj H
         exact absurd hr_.out (by decide)
       ·rw [if_neg c11] at H
        exact absurd H (by simp)
      ·rw [if_neg c10] at H
       exact absurd H (by simp)
     ·rw [if_neg c9] at H
      have c9b0 : decide (x21_1 < (l0.length : Int)) = false := decide_eq_false c9
      clear c9
      obtain rfl := Option.some.inj H
      go_wp2
      go_ret
      exact ⟨by first | rfl | (simp [errW_none, errW_some] <;> rfl) | (simp [*, errW_none, errW_some] <;> rfl), by repeat (first | (with_reducible first | exact HB.out | apply below_alloc | apply pw_below_drewN | apply below_drew1 | refine below_set ?_ GE142.out) | exact HB.out)⟩
 ·replace c3 := Bool.eq_false_iff.mpr c3
  subst c3
  have H1 : (some false) = some r := by rw [if_neg (show ¬ (false = true) by decide)] at H; exact H
  clear H
  have H := H1
  clear H1
  obtain rfl := Option.some.inj H
  exact absurd hr_.out (by decide)

end Go.Proofs.Ytcanccdhedmdmaa.Print
