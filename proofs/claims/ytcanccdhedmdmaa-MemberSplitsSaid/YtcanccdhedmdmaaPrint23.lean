-- PRINTED by print.py (a twelfth state) out of the translation. Not trusted: Lean checks it.
import Derived.Test.YtcanccdhedmdmaaPrint0
import Derived.Test.YtcanccdhedmdmaaPrint6
import Derived.Test.YtcanccdhedmdmaaPrint20
namespace Go.Proofs.Ytcanccdhedmdmaa.Print
open Go.RowKit Go.Proofs.YtcanccdhedmdmaaW.PrintWords Go.Proofs.YtcanccdhedmdmaaW.PrintLast Go.Proofs.YtcanccdhedmdmaaW.PrintMore Go.Proofs.YtcanccdhedmdmaaX
attribute [local go_sem] max2_int min2_int max_two min_two max_three min_three max_four min_four   -- for this text's walks alone
set_option linter.unusedVariables false
set_option linter.unusedSimpArgs false

/-! ### palletlaw10_MemberSplits: function 8 -/
def palletlaw10_MemberSplits.f (k : Nat) (a0_0 : Int) (a0_1 : Int) (a0_2 : Int) (a0_3 : Int) (a0_4 : Int) (a1 : Int) (a2 : Int) (a3 : Int) (l4 : List Int) (a5 : Int) : Option (Bool) := (palletlaw10_live.f k).bind fun t281 => (if t281 = true then (if (l4.length : Int) > 100 then (some t281) else (if (wrap64 ((l4.length : Int) + 1)) = 0 then (none) else ((member_Round.f k a0_0 a0_1 a0_2 a0_3 a0_4 a1 a2 a3 l4).bind fun bt282 => (if bt282.2.2.2 = 0 then (if (Int.tmod (wrap64 ((wrap64 ((Int.tmod a5 (wrap64 ((l4.length : Int) + 1))) + (l4.length : Int))) + 1)) (wrap64 ((l4.length : Int) + 1))) = (l4.length : Int) then (some t281) else (if 0 ≤ (Int.tmod (wrap64 ((wrap64 ((Int.tmod a5 (wrap64 ((l4.length : Int) + 1))) + (l4.length : Int))) + 1)) (wrap64 ((l4.length : Int) + 1))) then (if (Int.tmod (wrap64 ((wrap64 ((Int.tmod a5 (wrap64 ((l4.length : Int) + 1))) + (l4.length : Int))) + 1)) (wrap64 ((l4.length : Int) + 1))) ≤ (l4.length : Int) then ((member_Round.f k a0_0 a0_1 a0_2 a0_3 a0_4 a1 a2 a3 (l4.take ((Int.tmod (wrap64 ((wrap64 ((Int.tmod a5 (wrap64 ((l4.length : Int) + 1))) + (l4.length : Int))) + 1)) (wrap64 ((l4.length : Int) + 1))) : Int).toNat)).bind fun bt288 => ((member_Round.f k a0_0 a0_1 a0_2 a0_3 a0_4 a1 bt288.1 (IntKind.u64.wrap (a3 + (IntKind.u64.wrap (Int.tmod (wrap64 ((wrap64 ((Int.tmod a5 (wrap64 ((l4.length : Int) + 1))) + (l4.length : Int))) + 1)) (wrap64 ((l4.length : Int) + 1)))))) (l4.drop ((Int.tmod (wrap64 ((wrap64 ((Int.tmod a5 (wrap64 ((l4.length : Int) + 1))) + (l4.length : Int))) + 1)) (wrap64 ((l4.length : Int) + 1))) : Int).toNat)).bind fun bt294 => (if bt288.2.2.2 = 0 then (if bt294.2.2.2 = 0 then (if bt294.1 = bt282.1 then (if (wrap64 (bt288.2.1 + bt294.2.1)) = bt282.2.1 then (some ((wrap64 (bt288.2.2.1 + bt294.2.2.1)) == bt282.2.2.1)) else (some false)) else (some false)) else (some false)) else (some false)))) else (none)) else (none))) else (some (bt282.1 == 0)))))) else (some false))
theorem palletlaw10_MemberSplits.mono : ∀ a0 a1 a2 a3 a4 a5 a6 a7 a8 a9 k, LeO (palletlaw10_MemberSplits.f k a0 a1 a2 a3 a4 a5 a6 a7 a8 a9) (palletlaw10_MemberSplits.f (k + 1) a0 a1 a2 a3 a4 a5 a6 a7 a8 a9) := by
 intro a0 a1 a2 a3 a4 a5 a6 a7 a8 a9 k
 unfold palletlaw10_MemberSplits.f
 repeat' first
   | (with_reducible exact member_Round.mono _ _ _ _ _ _ _ _ _ _)
   | (with_reducible exact palletlaw10_live.mono _)
   | (with_reducible exact LeO.refl _)
   | (with_reducible exact LeO.none _)
   | (with_reducible refine LeO.ite ?_ ?_)
   | (with_reducible refine LeO.bind ?_ (fun _ => ?_))
   | exact member_Round.mono _ _ _ _ _ _ _ _ _ _
   | exact palletlaw10_live.mono _
   | exact LeO.none _
   | refine LeO.ite ?_ ?_
   | refine LeO.bind ?_ (fun _ => ?_)
def palletlaw10_MemberSplits.T12 : Bool × List (List Nat × List Nat) := (true, [([], []), ([], []), ([], []), ([], []), ([], []), ([], []), ([4, 5], [4, 5]), ([0, 1, 2, 3, 6], [0, 1, 2, 3, 6]), ([7], [7]), ([8], [8]), ([8], [8]), ([8], [8]), ([], []), ([9, 7, 0, 1, 2, 3, 4, 5, 6, 7, 8, 9, 12], [9]), ([12, 10, 13, 0, 1, 2, 3, 4, 5, 6, 7, 8, 9, 10, 12, 13], [10, 12]), ([11, 14, 0, 1, 2, 3, 4, 5, 6, 7, 8, 9, 10, 11, 12, 13, 14], [11])])
def palletlaw10_MemberSplits.B12 : List Nat := [0, 0, 0, 0, 0, 0, 48, 127, 255, 511, 511, 511, 0, 5119, 14335, 32767]
theorem palletlaw10_MemberSplits.tab12 : rtab .any (opsOf Try.f8 12) = palletlaw10_MemberSplits.T12 := by kernel_rfl
theorem palletlaw10_MemberSplits.bits12 : waitsOk palletlaw10_MemberSplits.T12.2 palletlaw10_MemberSplits.B12 = true := by kernel_rfl
def palletlaw10_MemberSplits.T13 : Bool × List (List Nat × List Nat) := (true, [([], []), ([], []), ([], []), ([], []), ([], []), ([4], [4]), ([3, 5], [3, 5]), ([], []), ([], []), ([7, 8], [7, 8]), ([0, 1, 2, 6, 9], [0, 1, 2, 6, 9]), ([10], [10]), ([11], [11]), ([11], [11]), ([11], [11]), ([], []), ([12, 10, 0, 1, 2, 3, 4, 5, 6, 7, 8, 9, 10, 11, 12, 15], [12]), ([15, 13, 16, 0, 1, 2, 3, 4, 5, 6, 7, 8, 9, 10, 11, 12, 13, 15, 16], [13, 15]), ([14, 17, 0, 1, 2, 3, 4, 5, 6, 7, 8, 9, 10, 11, 12, 13, 14, 15, 16, 17], [14])])
def palletlaw10_MemberSplits.B13 : List Nat := [0, 0, 0, 0, 0, 16, 56, 0, 0, 384, 1023, 2047, 4095, 4095, 4095, 0, 40959, 114687, 262143]
theorem palletlaw10_MemberSplits.tab13 : rtab .any (opsOf Try.f8 13) = palletlaw10_MemberSplits.T13 := by kernel_rfl
theorem palletlaw10_MemberSplits.bits13 : waitsOk palletlaw10_MemberSplits.T13.2 palletlaw10_MemberSplits.B13 = true := by kernel_rfl
set_option maxHeartbeats 8000000 in
set_option maxRecDepth 100000 in
theorem palletlaw10_MemberSplits.calls (k : Nat) (a0_0 : Int) (a0_1 : Int) (a0_2 : Int) (a0_3 : Int) (a0_4 : Int) (a1 : Int) (a2 : Int) (a3 : Int) (A4 : Option Addr) (c4 : Nat) (l4 : List Int) (a5 : Int) (r : Bool) (w : World) (hr4 : Kd.C (Kd.int .i64) w A4 l4.length l4) (hc4 : l4.length ≤ c4) (hr_ : Aside0 (r = true)) (h : palletlaw10_MemberSplits.f k a0_0 a0_1 a0_2 a0_3 a0_4 a1 a2 a3 l4 a5 = some r) :
  Calls Try.prog 8 #[.agg #[.int .i64 a0_0, .int .i64 a0_1, .int .i64 a0_2, .int .i64 a0_3, .int .i64 a0_4], .int .i64 a1, .int .u16 a2, .int .u64 a3, .slice A4 l4.length c4, .int .i64 a5] w fun e w' => e = .returned (.bool r) ∧ Below w.heap.size w w' := by
 have hu32 := Try.underlying32
 have hu25 := Try.underlying25
 have HR4 := Aside0.mk hr4
 have HC4 := Aside0.mk hc4
 clear hr4 hc4
 have HB := Aside0.mk (Below.refl w.heap.size w)
 have H : ((palletlaw10_live.f k).bind fun t281 => (if t281 = true then (if (l4.length : Int) > 100 then (some t281) else (if (wrap64 ((l4.length : Int) + 1)) = 0 then (none) else ((member_Round.f k a0_0 a0_1 a0_2 a0_3 a0_4 a1 a2 a3 l4).bind fun bt282 => (if bt282.2.2.2 = 0 then (if (Int.tmod (wrap64 ((wrap64 ((Int.tmod a5 (wrap64 ((l4.length : Int) + 1))) + (l4.length : Int))) + 1)) (wrap64 ((l4.length : Int) + 1))) = (l4.length : Int) then (some t281) else (if 0 ≤ (Int.tmod (wrap64 ((wrap64 ((Int.tmod a5 (wrap64 ((l4.length : Int) + 1))) + (l4.length : Int))) + 1)) (wrap64 ((l4.length : Int) + 1))) then (if (Int.tmod (wrap64 ((wrap64 ((Int.tmod a5 (wrap64 ((l4.length : Int) + 1))) + (l4.length : Int))) + 1)) (wrap64 ((l4.length : Int) + 1))) ≤ (l4.length : Int) then ((member_Round.f k a0_0 a0_1 a0_2 a0_3 a0_4 a1 a2 a3 (l4.take ((Int.tmod (wrap64 ((wrap64 ((Int.tmod a5 (wrap64 ((l4.length : Int) + 1))) + (l4.length : Int))) + 1)) (wrap64 ((l4.length : Int) + 1))) : Int).toNat)).bind fun bt288 => ((member_Round.f k a0_0 a0_1 a0_2 a0_3 a0_4 a1 bt288.1 (IntKind.u64.wrap (a3 + (IntKind.u64.wrap (Int.tmod (wrap64 ((wrap64 ((Int.tmod a5 (wrap64 ((l4.length : Int) + 1))) + (l4.length : Int))) + 1)) (wrap64 ((l4.length : Int) + 1)))))) (l4.drop ((Int.tmod (wrap64 ((wrap64 ((Int.tmod a5 (wrap64 ((l4.length : Int) + 1))) + (l4.length : Int))) + 1)) (wrap64 ((l4.length : Int) + 1))) : Int).toNat)).bind fun bt294 => (if bt288.2.2.2 = 0 then (if bt294.2.2.2 = 0 then (if bt294.1 = bt282.1 then (if (wrap64 (bt288.2.1 + bt294.2.1)) = bt282.2.1 then (some ((wrap64 (bt288.2.2.1 + bt294.2.2.1)) == bt282.2.2.1)) else (some false)) else (some false)) else (some false)) else (some false)))) else (none)) else (none))) else (some (bt282.1 == 0)))))) else (some false))) = some r := h
 clear h
 replace H := Option.bind_eq_some_iff.mp H
 obtain ⟨t281, A70, H⟩ := H
 replace H : (if t281 = true then (if (l4.length : Int) > 100 then (some t281) else (if (wrap64 ((l4.length : Int) + 1)) = 0 then (none) else ((member_Round.f k a0_0 a0_1 a0_2 a0_3 a0_4 a1 a2 a3 l4).bind fun bt282 => (if bt282.2.2.2 = 0 then (if (Int.tmod (wrap64 ((wrap64 ((Int.tmod a5 (wrap64 ((l4.length : Int) + 1))) + (l4.length : Int))) + 1)) (wrap64 ((l4.length : Int) + 1))) = (l4.length : Int) then (some t281) else (if 0 ≤ (Int.tmod (wrap64 ((wrap64 ((Int.tmod a5 (wrap64 ((l4.length : Int) + 1))) + (l4.length : Int))) + 1)) (wrap64 ((l4.length : Int) + 1))) then (if (Int.tmod (wrap64 ((wrap64 ((Int.tmod a5 (wrap64 ((l4.length : Int) + 1))) + (l4.length : Int))) + 1)) (wrap64 ((l4.length : Int) + 1))) ≤ (l4.length : Int) then ((member_Round.f k a0_0 a0_1 a0_2 a0_3 a0_4 a1 a2 a3 (l4.take ((Int.tmod (wrap64 ((wrap64 ((Int.tmod a5 (wrap64 ((l4.length : Int) + 1))) + (l4.length : Int))) + 1)) (wrap64 ((l4.length : Int) + 1))) : Int).toNat)).bind fun bt288 => ((member_Round.f k a0_0 a0_1 a0_2 a0_3 a0_4 a1 bt288.1 (IntKind.u64.wrap (a3 + (IntKind.u64.wrap (Int.tmod (wrap64 ((wrap64 ((Int.tmod a5 (wrap64 ((l4.length : Int) + 1))) + (l4.length : Int))) + 1)) (wrap64 ((l4.length : Int) + 1)))))) (l4.drop ((Int.tmod (wrap64 ((wrap64 ((Int.tmod a5 (wrap64 ((l4.length : Int) + 1))) + (l4.length : Int))) + 1)) (wrap64 ((l4.length : Int) + 1))) : Int).toNat)).bind fun bt294 => (if bt288.2.2.2 = 0 then (if bt294.2.2.2 = 0 then (if bt294.1 = bt282.1 then (if (wrap64 (bt288.2.1 + bt294.2.1)) = bt282.2.1 then (some ((wrap64 (bt288.2.2.1 + bt294.2.2.1)) == bt282.2.2.1)) else (some false)) else (some false)) else (some false)) else (some false)))) else (none)) else (none))) else (some (bt282.1 == 0)))))) else (some false)) = some r := H
 have A7 := Aside0.mk A70
 clear A70
 by_cases c8 : t281 = true
 ·subst c8
  have H1 : (if (l4.length : Int) > 100 then (some true) else (if (wrap64 ((l4.length : Int) + 1)) = 0 then (none) else ((member_Round.f k a0_0 a0_1 a0_2 a0_3 a0_4 a1 a2 a3 l4).bind fun bt282 => (if bt282.2.2.2 = 0 then (if (Int.tmod (wrap64 ((wrap64 ((Int.tmod a5 (wrap64 ((l4.length : Int) + 1))) + (l4.length : Int))) + 1)) (wrap64 ((l4.length : Int) + 1))) = (l4.length : Int) then (some true) else (if 0 ≤ (Int.tmod (wrap64 ((wrap64 ((Int.tmod a5 (wrap64 ((l4.length : Int) + 1))) + (l4.length : Int))) + 1)) (wrap64 ((l4.length : Int) + 1))) then (if (Int.tmod (wrap64 ((wrap64 ((Int.tmod a5 (wrap64 ((l4.length : Int) + 1))) + (l4.length : Int))) + 1)) (wrap64 ((l4.length : Int) + 1))) ≤ (l4.length : Int) then ((member_Round.f k a0_0 a0_1 a0_2 a0_3 a0_4 a1 a2 a3 (l4.take ((Int.tmod (wrap64 ((wrap64 ((Int.tmod a5 (wrap64 ((l4.length : Int) + 1))) + (l4.length : Int))) + 1)) (wrap64 ((l4.length : Int) + 1))) : Int).toNat)).bind fun bt288 => ((member_Round.f k a0_0 a0_1 a0_2 a0_3 a0_4 a1 bt288.1 (IntKind.u64.wrap (a3 + (IntKind.u64.wrap (Int.tmod (wrap64 ((wrap64 ((Int.tmod a5 (wrap64 ((l4.length : Int) + 1))) + (l4.length : Int))) + 1)) (wrap64 ((l4.length : Int) + 1)))))) (l4.drop ((Int.tmod (wrap64 ((wrap64 ((Int.tmod a5 (wrap64 ((l4.length : Int) + 1))) + (l4.length : Int))) + 1)) (wrap64 ((l4.length : Int) + 1))) : Int).toNat)).bind fun bt294 => (if bt288.2.2.2 = 0 then (if bt294.2.2.2 = 0 then (if bt294.1 = bt282.1 then (if (wrap64 (bt288.2.1 + bt294.2.1)) = bt282.2.1 then (some ((wrap64 (bt288.2.2.1 + bt294.2.2.1)) == bt282.2.2.1)) else (some false)) else (some false)) else (some false)) else (some false)))) else (none)) else (none))) else (some (bt282.1 == 0)))))) = some r := by rw [if_pos rfl] at H; exact H
  clear H
  have H := H1
  clear H1
  by_cases c9 : (l4.length : Int) > 100
  ·rw [if_pos c9] at H
   have c9b0 : decide (100 < (l4.length : Int)) = true := decide_eq_true c9
   have c9b1 : decide (100 < l4.length) = true := decide_eq_true (by omega)
   clear c9
   obtain rfl := Option.some.inj H
   go_enter Try.func8, Try.ntmps8
   go_wp2_with (first | ((with_reducible refine gate_dst (N := 6) rfl ?_); refine box_event ?hg (N := 6) ?hd (cs := #[.int .i64 a0_0, .int .i64 a0_1, .int .i64 a0_2, .int .i64 a0_3, .int .i64 a0_4]) (t := 32) ?hr ?_; (case hd => rfl); (case hg => rfl); (case hr => first | (go_simp; done) | (go_simp; rfl)); intro gb280 hg w10 hbox hb; have n0_ := Aside0.mk (below_step (by repeat (first | (with_reducible first | exact HB.out | apply below_alloc | apply pw_below_drewN | apply below_drew1) | exact HB.out)) hb); have n1_ := Aside0.mk (hbox); have n2_ := Aside0.mk ((by rw [hg]; exact (below_size (by repeat (first | (with_reducible first | exact HB.out | apply below_alloc | apply pw_below_drewN | apply below_drew1) | exact HB.out))) : w.heap.size ≤ gb280)); have n3_ := Aside0.mk ((by rw [hg]; exact (below_size (by repeat (first | (with_reducible first | exact HB.out | apply below_alloc | apply pw_below_drewN | apply below_drew1) | exact HB.out))) : w.heap.size ≤ gb280)); clear HB; have HB := n0_; have BK280 := n1_; have GW280 := n2_; have GE280 := n3_; clear n0_ n1_ n2_ n3_; clear hb hbox hg) | ((with_reducible refine gate_callee (f := 10) rfl ?_); refine goesL_ (some 23) rfl rfl Try.func10 (by kernel_rfl) rfl #[] rfl (by (try simp only [List.map_toArray, List.map_cons, List.map_nil]); first | done | rfl | (simp only [List.length_drop, List.length_take]; rfl)) ?_; (with_reducible refine (palletlaw10_live.calls k  true _ A7.out).mono ?_); rintro e w11 ⟨rfl, hb⟩; refine ⟨_, rfl, ?_⟩; have n0_ := Aside0.mk (blk_below (g := gb280) (o := .cells #[.int .i64 a0_0, .int .i64 a0_1, .int .i64 a0_2, .int .i64 a0_3, .int .i64 a0_4] 32 (0, 0)) (by (with_reducible repeat (first | refine blk_drewN ?_ _ | refine blk_drew ?_ | refine blk_alloc ?_ _)); exact BK280.out) hb); have n1_ := Aside0.mk (below_step (by repeat (first | (with_reducible first | exact HB.out | apply below_alloc | apply pw_below_drewN | apply below_drew1 | refine below_set ?_ GE280.out) | exact HB.out)) hb); clear BK280; clear HB; have BK280 := n0_; have HB := n1_; clear n0_ n1_; (try clear hb); (try clear hb2); (try clear hk); (try clear hi)))
   go_ret
   exact ⟨by first | rfl | (simp [errW_none, errW_some] <;> rfl) | (simp [*, errW_none, errW_some] <;> rfl), by repeat (first | (with_reducible first | exact HB.out | apply below_alloc | apply pw_below_drewN | apply below_drew1 | refine below_set ?_ GE280.out) | exact HB.out)⟩
  ·rw [if_neg c9] at H
   have c9b0 : decide (100 < (l4.length : Int)) = false := decide_eq_false c9
   have c9b1 : decide (100 < l4.length) = false := decide_eq_false (by omega)
   clear c9
   by_cases c12 : (wrap64 ((l4.length : Int) + 1)) = 0
   ·rw [if_pos c12] at H
    exact absurd H (by simp)
   ·rw [if_neg c12] at H
    have c12b0 : ((wrap64 ((l4.length : Int) + 1)) == 0) = false := beq_eq_false_iff_ne.mpr c12
    have c12b1 : ((wrap64 ((l4.length : Int) + 1)) != 0) = true := bne_iff_ne.mpr c12
    replace H := Option.bind_eq_some_iff.mp H
    obtain ⟨⟨t282, t283, t284, t285⟩, A130, H⟩ := H
    replace H : (if t285 = 0 then (if (Int.tmod (wrap64 ((wrap64 ((Int.tmod a5 (wrap64 ((l4.length : Int) + 1))) + (l4.length : Int))) + 1)) (wrap64 ((l4.length : Int) + 1))) = (l4.length : Int) then (some true) else (if 0 ≤ (Int.tmod (wrap64 ((wrap64 ((Int.tmod a5 (wrap64 ((l4.length : Int) + 1))) + (l4.length : Int))) + 1)) (wrap64 ((l4.length : Int) + 1))) then (if (Int.tmod (wrap64 ((wrap64 ((Int.tmod a5 (wrap64 ((l4.length : Int) + 1))) + (l4.length : Int))) + 1)) (wrap64 ((l4.length : Int) + 1))) ≤ (l4.length : Int) then ((member_Round.f k a0_0 a0_1 a0_2 a0_3 a0_4 a1 a2 a3 (l4.take ((Int.tmod (wrap64 ((wrap64 ((Int.tmod a5 (wrap64 ((l4.length : Int) + 1))) + (l4.length : Int))) + 1)) (wrap64 ((l4.length : Int) + 1))) : Int).toNat)).bind fun bt288 => ((member_Round.f k a0_0 a0_1 a0_2 a0_3 a0_4 a1 bt288.1 (IntKind.u64.wrap (a3 + (IntKind.u64.wrap (Int.tmod (wrap64 ((wrap64 ((Int.tmod a5 (wrap64 ((l4.length : Int) + 1))) + (l4.length : Int))) + 1)) (wrap64 ((l4.length : Int) + 1)))))) (l4.drop ((Int.tmod (wrap64 ((wrap64 ((Int.tmod a5 (wrap64 ((l4.length : Int) + 1))) + (l4.length : Int))) + 1)) (wrap64 ((l4.length : Int) + 1))) : Int).toNat)).bind fun bt294 => (if bt288.2.2.2 = 0 then (if bt294.2.2.2 = 0 then (if bt294.1 = t282 then (if (wrap64 (bt288.2.1 + bt294.2.1)) = t283 then (some ((wrap64 (bt288.2.2.1 + bt294.2.2.1)) == t284)) else (some false)) else (some false)) else (some false)) else (some false)))) else (none)) else (none))) else (some (t282 == 0))) = some r := H
    have A13 := Aside0.mk A130
    clear A130
    by_cases c14 : t285 = 0
    ·rw [if_pos c14] at H
     have c14b0 : (t285 == 0) = true := beq_iff_eq.mpr c14
     have c14b1 : (t285 != 0) = false := bne_eq_false_iff_eq.mpr c14
     clear c14
     by_cases c15 : (Int.tmod (wrap64 ((wrap64 ((Int.tmod a5 (wrap64 ((l4.length : Int) + 1))) + (l4.length : Int))) + 1)) (wrap64 ((l4.length : Int) + 1))) = (l4.length : Int)
     ·rw [if_pos c15] at H
      have c15b0 : ((Int.tmod (wrap64 ((wrap64 ((Int.tmod a5 (wrap64 ((l4.length : Int) + 1))) + (l4.length : Int))) + 1)) (wrap64 ((l4.length : Int) + 1))) == (l4.length : Int)) = true := beq_iff_eq.mpr c15
      have c15b1 : ((Int.tmod (wrap64 ((wrap64 ((Int.tmod a5 (wrap64 ((l4.length : Int) + 1))) + (l4.length : Int))) + 1)) (wrap64 ((l4.length : Int) + 1))) != (l4.length : Int)) = false := bne_eq_false_iff_eq.mpr c15
      clear c15
      obtain rfl := Option.some.inj H
      go_enter Try.func8, Try.ntmps8
      go_wp2_with (first | ((with_reducible refine gate_dst (N := 6) rfl ?_); refine box_event ?hg (N := 6) ?hd (cs := #[.int .i64 a0_0, .int .i64 a0_1, .int .i64 a0_2, .int .i64 a0_3, .int .i64 a0_4]) (t := 32) ?hr ?_; (case hd => rfl); (case hg => rfl); (case hr => first | (go_simp; done) | (go_simp; rfl)); intro gb280 hg w16 hbox hb; have n0_ := Aside0.mk (below_step (by repeat (first | (with_reducible first | exact HB.out | apply below_alloc | apply pw_below_drewN | apply below_drew1) | exact HB.out)) hb); have n1_ := Aside0.mk (hbox); have n2_ := Aside0.mk ((by rw [hg]; exact (below_size (by repeat (first | (with_reducible first | exact HB.out | apply below_alloc | apply pw_below_drewN | apply below_drew1) | exact HB.out))) : w.heap.size ≤ gb280)); have n3_ := Aside0.mk ((by rw [hg]; exact (below_size (by repeat (first | (with_reducible first | exact HB.out | apply below_alloc | apply pw_below_drewN | apply below_drew1) | exact HB.out))) : w.heap.size ≤ gb280)); clear HB; have HB := n0_; have BK280 := n1_; have GW280 := n2_; have GE280 := n3_; clear n0_ n1_ n2_ n3_; clear hb hbox hg) | ((with_reducible refine gate_callee (f := 10) rfl ?_); refine goesL_ (some 23) rfl rfl Try.func10 (by kernel_rfl) rfl #[] rfl (by (try simp only [List.map_toArray, List.map_cons, List.map_nil]); first | done | rfl | (simp only [List.length_drop, List.length_take]; rfl)) ?_; (with_reducible refine (palletlaw10_live.calls k  true _ A7.out).mono ?_); rintro e w17 ⟨rfl, hb⟩; refine ⟨_, rfl, ?_⟩; have n0_ := Aside0.mk (blk_below (g := gb280) (o := .cells #[.int .i64 a0_0, .int .i64 a0_1, .int .i64 a0_2, .int .i64 a0_3, .int .i64 a0_4] 32 (0, 0)) (by (with_reducible repeat (first | refine blk_drewN ?_ _ | refine blk_drew ?_ | refine blk_alloc ?_ _)); exact BK280.out) hb); have n1_ := Aside0.mk (below_step (by repeat (first | (with_reducible first | exact HB.out | apply below_alloc | apply pw_below_drewN | apply below_drew1 | refine below_set ?_ GE280.out) | exact HB.out)) hb); clear BK280; clear HB; have BK280 := n0_; have HB := n1_; clear n0_ n1_; (try clear hb); (try clear hb2); (try clear hk); (try clear hi); have hcz18_0 : w17.cell? ⟨gb280, 0, none⟩ = some (.int .i64 a0_0) := (blk_cell BK280.out 0).trans rfl; have hcz18_1 : w17.cell? ⟨gb280, 1, none⟩ = some (.int .i64 a0_1) := (blk_cell BK280.out 1).trans rfl; have hcz18_2 : w17.cell? ⟨gb280, 2, none⟩ = some (.int .i64 a0_2) := (blk_cell BK280.out 2).trans rfl; have hcz18_3 : w17.cell? ⟨gb280, 3, none⟩ = some (.int .i64 a0_3) := (blk_cell BK280.out 3).trans rfl; have hcz18_4 : w17.cell? ⟨gb280, 4, none⟩ = some (.int .i64 a0_4) := (blk_cell BK280.out 4).trans rfl; have hfz18_0 := blk_frozen BK280.out 0; have hfz18_1 := blk_frozen BK280.out 1; have hfz18_2 := blk_frozen BK280.out 2; have hfz18_3 := blk_frozen BK280.out 3; have hfz18_4 := blk_frozen BK280.out 4) | ((with_reducible refine gate_callee (f := 23) rfl ?_); refine goesL_ (some 49) rfl rfl Try.func23 (by kernel_rfl) rfl #[.agg #[.int .i64 a0_0, .int .i64 a0_1, .int .i64 a0_2, .int .i64 a0_3, .int .i64 a0_4], .int .i64 a1, .int .u16 a2, .int .u64 a3, .slice A4 l4.length c4] rfl (by (try simp only [List.map_toArray, List.map_cons, List.map_nil]); first | done | rfl | (simp only [List.length_drop, List.length_take]; rfl)) ?_; (with_reducible refine (member_Round.calls k a0_0 a0_1 a0_2 a0_3 a0_4 a1 a2 a3 _ _ l4 t282 t283 t284 t285 _ ?side1 ?side2 A13.out).mono ?_); (case side1 => repeat (first | exact (Kd.C_below HR4.out HB.out) | (with_reducible refine Kd.C_alloc ?_ _) | (with_reducible refine Kd.C_drewN ?_ _) | (with_reducible refine Kd.C_drew ?_))); (case side2 => exact HC4.out); rintro e w19 ⟨rfl, hb⟩; refine ⟨_, rfl, ?_⟩; have n0_ := Aside0.mk (blk_below (g := gb280) (o := .cells #[.int .i64 a0_0, .int .i64 a0_1, .int .i64 a0_2, .int .i64 a0_3, .int .i64 a0_4] 32 (0, 0)) (by (with_reducible repeat (first | refine blk_drewN ?_ _ | refine blk_drew ?_ | refine blk_alloc ?_ _)); exact BK280.out) hb); have n1_ := Aside0.mk (below_step (by repeat (first | (with_reducible first | exact HB.out | apply below_alloc | apply pw_below_drewN | apply below_drew1 | refine below_set ?_ GE280.out) | exact HB.out)) hb); clear BK280; clear HB; have BK280 := n0_; have HB := n1_; clear n0_ n1_; (try clear hb); (try clear hb2); (try clear hk); (try clear hi)) | ((with_reducible refine gate_dst (N := 15) rfl ?_); refine box_event ?hg (N := 15) ?hd (cs := #[.int .i64 0, .int .i64 0]) (t := 25) ?hr ?_; (case hd => rfl); (case hg => rfl); (case hr => first | (go_simp; done) | (go_simp; rfl)); intro gb286 hg w20 hbox hb; have n0_ := Aside0.mk (blk_below (g := gb280) (o := .cells #[.int .i64 a0_0, .int .i64 a0_1, .int .i64 a0_2, .int .i64 a0_3, .int .i64 a0_4] 32 (0, 0)) (by (with_reducible repeat (first | refine blk_drewN ?_ _ | refine blk_drew ?_ | refine blk_alloc ?_ _)); exact BK280.out) hb); have n1_ := Aside0.mk (below_step (by repeat (first | (with_reducible first | exact HB.out | apply below_alloc | apply pw_below_drewN | apply below_drew1 | refine below_set ?_ GE280.out) | exact HB.out)) hb); have n2_ := Aside0.mk (hbox); have n3_ := Aside0.mk ((by rw [hg]; exact (below_size (by repeat (first | (with_reducible first | exact HB.out | apply below_alloc | apply pw_below_drewN | apply below_drew1 | refine below_set ?_ GE280.out) | exact HB.out))) : w.heap.size ≤ gb286)); have n4_ := Aside0.mk ((by rw [hg]; exact (below_size (by repeat (first | (with_reducible first | exact HB.out | apply below_alloc | apply pw_below_drewN | apply below_drew1 | refine below_set ?_ GE280.out) | exact HB.out))) : w.heap.size ≤ gb286)); have n5_ := Aside0.mk ((by rw [hg]; exact Nat.ne_of_lt (blk_lt (g := gb280) (o := .cells #[.int .i64 a0_0, .int .i64 a0_1, .int .i64 a0_2, .int .i64 a0_3, .int .i64 a0_4] 32 (0, 0)) (by (with_reducible repeat (first | refine blk_drewN ?_ _ | refine blk_drew ?_ | refine blk_alloc ?_ _)); exact BK280.out)) : gb280 ≠ gb286)); have n6_ := Aside0.mk ((by rw [hg]; exact Nat.ne_of_gt (blk_lt (g := gb280) (o := .cells #[.int .i64 a0_0, .int .i64 a0_1, .int .i64 a0_2, .int .i64 a0_3, .int .i64 a0_4] 32 (0, 0)) (by (with_reducible repeat (first | refine blk_drewN ?_ _ | refine blk_drew ?_ | refine blk_alloc ?_ _)); exact BK280.out)) : gb286 ≠ gb280)); clear BK280; clear HB; have BK280 := n0_; have HB := n1_; have BK286 := n2_; have GW286 := n3_; have GE286 := n4_; have NB280_286 := n5_; have NB286_280 := n6_; clear n0_ n1_ n2_ n3_ n4_ n5_ n6_; clear hb hbox hg; have hnb21 := NB286_280.out; have hnc21 := NB280_286.out; have hcz22_0 : w20.cell? ⟨gb286, 0, none⟩ = some (.int .i64 0) := (blk_cell BK286.out 0).trans rfl; have hcz22_1 : w20.cell? ⟨gb286, 1, none⟩ = some (.int .i64 0) := (blk_cell BK286.out 1).trans rfl; have hfz22_0 := blk_frozen BK286.out 0; have hfz22_1 := blk_frozen BK286.out 1))
      go_ret
      exact ⟨by first | rfl | (simp [errW_none, errW_some] <;> rfl) | (simp [*, errW_none, errW_some] <;> rfl), by repeat (first | (with_reducible first | exact HB.out | apply below_alloc | apply pw_below_drewN | apply below_drew1 | refine below_set ?_ GE280.out | refine below_set ?_ GE286.out) | exact HB.out)⟩
     ·rw [if_neg c15] at H
      have c15b0 : ((Int.tmod (wrap64 ((wrap64 ((Int.tmod a5 (wrap64 ((l4.length : Int) + 1))) + (l4.length : Int))) + 1)) (wrap64 ((l4.length : Int) + 1))) == (l4.length : Int)) = false := beq_eq_false_iff_ne.mpr c15
      have c15b1 : ((Int.tmod (wrap64 ((wrap64 ((Int.tmod a5 (wrap64 ((l4.length : Int) + 1))) + (l4.length : Int))) + 1)) (wrap64 ((l4.length : Int) + 1))) != (l4.length : Int)) = true := bne_iff_ne.mpr c15
      obtain ⟨ji23, hji23⟩ : ∃ j_ : Int, (Int.tmod (wrap64 ((wrap64 ((Int.tmod a5 (wrap64 ((l4.length : Int) + 1))) + (l4.length : Int))) + 1)) (wrap64 ((l4.length : Int) + 1))) = j_ := ⟨_, rfl⟩
      replace H : (if 0 ≤ (ji23) then (if (ji23) ≤ (l4.length : Int) then ((member_Round.f k a0_0 a0_1 a0_2 a0_3 a0_4 a1 a2 a3 (l4.take ((ji23) : Int).toNat)).bind fun bt288 => ((member_Round.f k a0_0 a0_1 a0_2 a0_3 a0_4 a1 bt288.1 (IntKind.u64.wrap (a3 + (IntKind.u64.wrap (ji23)))) (l4.drop ((ji23) : Int).toNat)).bind fun bt294 => (if bt288.2.2.2 = 0 then (if bt294.2.2.2 = 0 then (if bt294.1 = t282 then (if (wrap64 (bt288.2.1 + bt294.2.1)) = t283 then (some ((wrap64 (bt288.2.2.1 + bt294.2.2.1)) == t284)) else (some false)) else (some false)) else (some false)) else (some false)))) else (none)) else (none)) = some r := by first | (rw [hji23] at H; exact H) | (simp only [hji23] at H ⊢; exact H)
      (try rw [hji23] at c15b0)
      (try rw [hji23] at c15b1)
      (try rw [hji23] at A7)
      (try rw [hji23] at A13)
      by_cases c24 : 0 ≤ (ji23)
      ·rw [if_pos c24] at H
       have c24b0 := eq_true c24
       have c24b1 : decide (0 ≤ (ji23)) = true := decide_eq_true c24
       clear c24
       by_cases c25 : (ji23) ≤ (l4.length : Int)
       ·rw [if_pos c25] at H
        have c25b0 := eq_true c25
        have c25b1 : decide ((ji23) ≤ (l4.length : Int)) = true := decide_eq_true c25
        clear c25
        replace H := Option.bind_eq_some_iff.mp H
        obtain ⟨⟨t288, t289, t290, t291⟩, A260, H⟩ := H
        replace H : ((member_Round.f k a0_0 a0_1 a0_2 a0_3 a0_4 a1 t288 (IntKind.u64.wrap (a3 + (IntKind.u64.wrap (ji23)))) (l4.drop ((ji23) : Int).toNat)).bind fun bt294 => (if t291 = 0 then (if bt294.2.2.2 = 0 then (if bt294.1 = t282 then (if (wrap64 (t289 + bt294.2.1)) = t283 then (some ((wrap64 (t290 + bt294.2.2.1)) == t284)) else (some false)) else (some false)) else (some false)) else (some false))) = some r := H
        have A26 := Aside0.mk A260
        clear A260
        have c27b0 := eq_true (of_decide_eq_true (by first | (with_reducible assumption) | assumption) : 0 ≤ (ji23))
        have c28b0 := eq_true (of_decide_eq_true (by first | (with_reducible assumption) | assumption) : (ji23) ≤ (l4.length : Int))
        replace H := Option.bind_eq_some_iff.mp H
        obtain ⟨⟨t294, t295, t296, t297⟩, A290, H⟩ := H
        replace H : (if t291 = 0 then (if t297 = 0 then (if t294 = t282 then (if (wrap64 (t289 + t295)) = t283 then (some ((wrap64 (t290 + t296)) == t284)) else (some false)) else (some false)) else (some false)) else (some false)) = some r := H
        have A29 := Aside0.mk A290
        clear A290
        by_cases c30 : t291 = 0
        ·rw [if_pos c30] at H
         have c30b0 : (t291 == 0) = true := beq_iff_eq.mpr c30
         have c30b1 : (t291 != 0) = false := bne_eq_false_iff_eq.mpr c30
         clear c30
         by_cases c31 : t297 = 0
         ·rw [if_pos c31] at H
          have c31b0 : (t297 == 0) = true := beq_iff_eq.mpr c31
          have c31b1 : (t297 != 0) = false := bne_eq_false_iff_eq.mpr c31
          clear c31
          by_cases c32 : t294 = t282
          ·rw [if_pos c32] at H
           have c32b0 : (t294 == t282) = true := beq_iff_eq.mpr c32
           have c32b1 : (t294 != t282) = false := bne_eq_false_iff_eq.mpr c32
           clear c32
           by_cases c33 : (wrap64 (t289 + t295)) = t283
           ·rw [if_pos c33] at H
            have c33b0 : ((wrap64 (t289 + t295)) == t283) = true := beq_iff_eq.mpr c33
            have c33b1 : ((wrap64 (t289 + t295)) != t283) = false := bne_eq_false_iff_eq.mpr c33
            clear c33
            obtain rfl := Option.some.inj H
            go_enter Try.func8, Try.ntmps8
            try go_wp2_with (first | ((with_reducible refine gate_dst (N := 6) rfl ?_); refine box_event ?hg (N := 6) ?hd (cs := #[.int .i64 a0_0, .int .i64 a0_1, .int .i64 a0_2, .int .i64 a0_3, .int .i64 a0_4]) (t := 32) ?hr ?_; (case hd => rfl); (case hg => rfl); (case hr => first | (go_simp; done) | (go_simp; rfl)); intro gb280 hg w34 hbox hb; have n0_ := Aside0.mk (below_step (by repeat (first | (with_reducible first | exact HB.out | apply below_alloc | apply pw_below_drewN | apply below_drew1) | exact HB.out)) hb); have n1_ := Aside0.mk (hbox); have n2_ := Aside0.mk ((by rw [hg]; exact (below_size (by repeat (first | (with_reducible first | exact HB.out | apply below_alloc | apply pw_below_drewN | apply below_drew1) | exact HB.out))) : w.heap.size ≤ gb280)); have n3_ := Aside0.mk ((by rw [hg]; exact (below_size (by repeat (first | (with_reducible first | exact HB.out | apply below_alloc | apply pw_below_drewN | apply below_drew1) | exact HB.out))) : w.heap.size ≤ gb280)); clear HB; have HB := n0_; have BK280 := n1_; have GW280 := n2_; have GE280 := n3_; clear n0_ n1_ n2_ n3_; clear hb hbox hg) | ((with_reducible refine gate_callee (f := 10) rfl ?_); refine goesL_ (some 23) rfl rfl Try.func10 (by kernel_rfl) rfl #[] rfl (by (try simp only [List.map_toArray, List.map_cons, List.map_nil]); first | done | rfl | (simp only [List.length_drop, List.length_take]; rfl)) ?_; (with_reducible refine (palletlaw10_live.calls k  true _ A7.out).mono ?_); rintro e w35 ⟨rfl, hb⟩; refine ⟨_, rfl, ?_⟩; have n0_ := Aside0.mk (blk_below (g := gb280) (o := .cells #[.int .i64 a0_0, .int .i64 a0_1, .int .i64 a0_2, .int .i64 a0_3, .int .i64 a0_4] 32 (0, 0)) (by (with_reducible repeat (first | refine blk_drewN ?_ _ | refine blk_drew ?_ | refine blk_alloc ?_ _)); exact BK280.out) hb); have n1_ := Aside0.mk (below_step (by repeat (first | (with_reducible first | exact HB.out | apply below_alloc | apply pw_below_drewN | apply below_drew1 | refine below_set ?_ GE280.out) | exact HB.out)) hb); clear BK280; clear HB; have BK280 := n0_; have HB := n1_; clear n0_ n1_; (try clear hb); (try clear hb2); (try clear hk); (try clear hi); have hcz36_0 : w35.cell? ⟨gb280, 0, none⟩ = some (.int .i64 a0_0) := (blk_cell BK280.out 0).trans rfl; have hcz36_1 : w35.cell? ⟨gb280, 1, none⟩ = some (.int .i64 a0_1) := (blk_cell BK280.out 1).trans rfl; have hcz36_2 : w35.cell? ⟨gb280, 2, none⟩ = some (.int .i64 a0_2) := (blk_cell BK280.out 2).trans rfl; have hcz36_3 : w35.cell? ⟨gb280, 3, none⟩ = some (.int .i64 a0_3) := (blk_cell BK280.out 3).trans rfl; have hcz36_4 : w35.cell? ⟨gb280, 4, none⟩ = some (.int .i64 a0_4) := (blk_cell BK280.out 4).trans rfl; have hfz36_0 := blk_frozen BK280.out 0; have hfz36_1 := blk_frozen BK280.out 1; have hfz36_2 := blk_frozen BK280.out 2; have hfz36_3 := blk_frozen BK280.out 3; have hfz36_4 := blk_frozen BK280.out 4) | ((with_reducible refine gate_callee (f := 23) rfl ?_); refine goesL_ (some 49) rfl rfl Try.func23 (by kernel_rfl) rfl #[.agg #[.int .i64 a0_0, .int .i64 a0_1, .int .i64 a0_2, .int .i64 a0_3, .int .i64 a0_4], .int .i64 a1, .int .u16 a2, .int .u64 a3, .slice A4 l4.length c4] rfl (by (try simp only [List.map_toArray, List.map_cons, List.map_nil]); first | done | rfl | (simp only [List.length_drop, List.length_take]; rfl)) ?_; (with_reducible refine (member_Round.calls k a0_0 a0_1 a0_2 a0_3 a0_4 a1 a2 a3 _ _ l4 t282 t283 t284 t285 _ ?side1 ?side2 A13.out).mono ?_); (case side1 => repeat (first | exact (Kd.C_below HR4.out HB.out) | (with_reducible refine Kd.C_alloc ?_ _) | (with_reducible refine Kd.C_drewN ?_ _) | (with_reducible refine Kd.C_drew ?_))); (case side2 => exact HC4.out); rintro e w37 ⟨rfl, hb⟩; refine ⟨_, rfl, ?_⟩; have n0_ := Aside0.mk (blk_below (g := gb280) (o := .cells #[.int .i64 a0_0, .int .i64 a0_1, .int .i64 a0_2, .int .i64 a0_3, .int .i64 a0_4] 32 (0, 0)) (by (with_reducible repeat (first | refine blk_drewN ?_ _ | refine blk_drew ?_ | refine blk_alloc ?_ _)); exact BK280.out) hb); have n1_ := Aside0.mk (below_step (by repeat (first | (with_reducible first | exact HB.out | apply below_alloc | apply pw_below_drewN | apply below_drew1 | refine below_set ?_ GE280.out) | exact HB.out)) hb); clear BK280; clear HB; have BK280 := n0_; have HB := n1_; clear n0_ n1_; (try clear hb); (try clear hb2); (try clear hk); (try clear hi)) | ((with_reducible refine gate_dst (N := 15) rfl ?_); refine box_event ?hg (N := 15) ?hd (cs := #[.int .i64 0, .int .i64 0]) (t := 25) ?hr ?_; (case hd => rfl); (case hg => rfl); (case hr => first | (go_simp; done) | (go_simp; rfl)); intro gb286 hg w38 hbox hb; have n0_ := Aside0.mk (blk_below (g := gb280) (o := .cells #[.int .i64 a0_0, .int .i64 a0_1, .int .i64 a0_2, .int .i64 a0_3, .int .i64 a0_4] 32 (0, 0)) (by (with_reducible repeat (first | refine blk_drewN ?_ _ | refine blk_drew ?_ | refine blk_alloc ?_ _)); exact BK280.out) hb); have n1_ := Aside0.mk (below_step (by repeat (first | (with_reducible first | exact HB.out | apply below_alloc | apply pw_below_drewN | apply below_drew1 | refine below_set ?_ GE280.out) | exact HB.out)) hb); have n2_ := Aside0.mk (hbox); have n3_ := Aside0.mk ((by rw [hg]; exact (below_size (by repeat (first | (with_reducible first | exact HB.out | apply below_alloc | apply pw_below_drewN | apply below_drew1 | refine below_set ?_ GE280.out) | exact HB.out))) : w.heap.size ≤ gb286)); have n4_ := Aside0.mk ((by rw [hg]; exact (below_size (by repeat (first | (with_reducible first | exact HB.out | apply below_alloc | apply pw_below_drewN | apply below_drew1 | refine below_set ?_ GE280.out) | exact HB.out))) : w.heap.size ≤ gb286)); have n5_ := Aside0.mk ((by rw [hg]; exact Nat.ne_of_lt (blk_lt (g := gb280) (o := .cells #[.int .i64 a0_0, .int .i64 a0_1, .int .i64 a0_2, .int .i64 a0_3, .int .i64 a0_4] 32 (0, 0)) (by (with_reducible repeat (first | refine blk_drewN ?_ _ | refine blk_drew ?_ | refine blk_alloc ?_ _)); exact BK280.out)) : gb280 ≠ gb286)); have n6_ := Aside0.mk ((by rw [hg]; exact Nat.ne_of_gt (blk_lt (g := gb280) (o := .cells #[.int .i64 a0_0, .int .i64 a0_1, .int .i64 a0_2, .int .i64 a0_3, .int .i64 a0_4] 32 (0, 0)) (by (with_reducible repeat (first | refine blk_drewN ?_ _ | refine blk_drew ?_ | refine blk_alloc ?_ _)); exact BK280.out)) : gb286 ≠ gb280)); clear BK280; clear HB; have BK280 := n0_; have HB := n1_; have BK286 := n2_; have GW286 := n3_; have GE286 := n4_; have NB280_286 := n5_; have NB286_280 := n6_; clear n0_ n1_ n2_ n3_ n4_ n5_ n6_; clear hb hbox hg; have hnb39 := NB286_280.out; have hnc39 := NB280_286.out; have hcz40_0 : w38.cell? ⟨gb286, 0, none⟩ = some (.int .i64 0) := (blk_cell BK286.out 0).trans rfl; have hcz40_1 : w38.cell? ⟨gb286, 1, none⟩ = some (.int .i64 0) := (blk_cell BK286.out 1).trans rfl; have hfz40_0 := blk_frozen BK286.out 0; have hfz40_1 := blk_frozen BK286.out 1))
            have n0_ : Aside0 (((w38.setCell ⟨gb286, 0, none⟩ (.int .i64 t283)).setCell ⟨gb286, 1, none⟩ (.int .i64 t284)).heap[gb280]? = some (.cells #[.int .i64 a0_0, .int .i64 a0_1, .int .i64 a0_2, .int .i64 a0_3, .int .i64 a0_4] 32 (0, 0))) := ⟨by (with_reducible repeat (first | refine blk_drewN ?_ _ | refine blk_drew ?_ | refine blk_alloc ?_ _)); refine blk_far ?_ NB280_286.out _; (with_reducible repeat (first | refine blk_drewN ?_ _ | refine blk_drew ?_ | refine blk_alloc ?_ _)); refine blk_far ?_ NB280_286.out _; (with_reducible repeat (first | refine blk_drewN ?_ _ | refine blk_drew ?_ | refine blk_alloc ?_ _)); exact BK280.out⟩
            have n1_ : Aside0 (((w38.setCell ⟨gb286, 0, none⟩ (.int .i64 t283)).setCell ⟨gb286, 1, none⟩ (.int .i64 t284)).heap[gb286]? = some (.cells #[.int .i64 t283, .int .i64 t284] 25 (0, 0))) := ⟨by (with_reducible repeat (first | refine blk_drewN ?_ _ | refine blk_drew ?_ | refine blk_alloc ?_ _)); refine blk_put (cs := #[.int .i64 t283, .int .i64 0]) ?_ 1 _ rfl; (with_reducible repeat (first | refine blk_drewN ?_ _ | refine blk_drew ?_ | refine blk_alloc ?_ _)); refine blk_put (cs := #[.int .i64 0, .int .i64 0]) ?_ 0 _ rfl; (with_reducible repeat (first | refine blk_drewN ?_ _ | refine blk_drew ?_ | refine blk_alloc ?_ _)); exact BK286.out⟩
            have n2_ : Aside0 (Below w.heap.size w ((w38.setCell ⟨gb286, 0, none⟩ (.int .i64 t283)).setCell ⟨gb286, 1, none⟩ (.int .i64 t284))) := ⟨by repeat (first | (with_reducible first | exact HB.out | apply below_alloc | apply pw_below_drewN | apply below_drew1 | refine below_set ?_ GE280.out | refine below_set ?_ GE286.out) | exact HB.out)⟩
            (try clear BK280)
            (try clear BK286)
            (try clear HB)
            generalize ((w38.setCell ⟨gb286, 0, none⟩ (.int .i64 t283)).setCell ⟨gb286, 1, none⟩ (.int .i64 t284)) = w41 at n0_ n1_ n2_ ⊢
            have BK280 := n0_
            have BK286 := n1_
            have HB := n2_
            clear n0_ n1_ n2_
            have n0_ := Aside0.mk (blk_drew BK280.out)
            have n1_ := Aside0.mk (blk_drew BK286.out)
            have n2_ := Aside0.mk (below_drew1 HB.out)
            clear BK280
            clear BK286
            clear HB
            have BK280 := n0_
            have BK286 := n1_
            have HB := n2_
            clear n0_ n1_ n2_
            obtain ⟨i043, hi043, _, hsz43, _⟩ := info_parts info3
            obtain ⟨hcut43, hA43, hC43⟩ := print_take_of (P := Try.prog) (Value.int .i64) 0 47 3 .i64 Try.underlying47 hi043 hsz43 A4 c4 l4 (ji23) (of_decide_eq_true (by first | (with_reducible assumption) | assumption)) (of_decide_eq_true (by first | (with_reducible assumption) | assumption)) HC4.out
            have HR287 := Aside0.mk (Kd.C_of_reads (h1 := fun _ => rfl) (hA43 _ (Kd.reads_of_C HR4.out)))
            have HC287 := Aside0.mk hC43
            clear hA43 hC43 hi043 hsz43
            refine start_ (n := 16) (S := fun w' => w'.cell? ⟨gb280, 0, none⟩ = some (.int .i64 a0_0) ∧ w'.cell? ⟨gb280, 1, none⟩ = some (.int .i64 a0_1) ∧ w'.cell? ⟨gb280, 2, none⟩ = some (.int .i64 a0_2) ∧ w'.cell? ⟨gb280, 3, none⟩ = some (.int .i64 a0_3) ∧ w'.cell? ⟨gb280, 4, none⟩ = some (.int .i64 a0_4)) (ds := []) #[false, false, false, false, false, false, false, false, false, false, false, false, false, false, false, false] (by kernel_rfl) rfl rfl ⟨(blk_cell BK280.out 0).trans rfl, (blk_cell BK280.out 1).trans rfl, (blk_cell BK280.out 2).trans rfl, (blk_cell BK280.out 3).trans rfl, (blk_cell BK280.out 4).trans rfl⟩ (fun hHeld => ?_); refine with_tabW palletlaw10_MemberSplits.tab12 palletlaw10_MemberSplits.bits12 (fun HT_ HW_ => ?_)
            generalize w41.drew = w42 at BK280 BK286 HB HR287 hHeld ⊢
            refine pure_ (i := 1) (N := some 67) (v := ?_) (a' := ?_) #[false, true, false, false, false, false, false, false, false, false, false, false, false, false, false, false] rfl rfl (any_of HT_.out (by kernel_rfl)) (fun _ _ _ h => h) (Or.inl ⟨by rfl, ?_⟩) ?_ ?_
            rotate_left
            ·intro w'
             go_simp
             with_reducible rfl
            rotate_left
            ·simp only [Act.put, List.setIfInBounds_toArray, List.set_cons_zero, List.set_cons_succ, i64_w, i32_w]
             rfl
            refine pure_ (i := 2) (N := some 68) (v := ?_) (a' := ?_) #[false, true, true, false, false, false, false, false, false, false, false, false, false, false, false, false] rfl rfl (any_of HT_.out (by kernel_rfl)) (fun _ _ _ h => h) (Or.inl ⟨by rfl, ?_⟩) ?_ ?_
            rotate_left
            ·intro w'
             go_simp
             with_reducible rfl
            rotate_left
            ·simp only [Act.put, List.setIfInBounds_toArray, List.set_cons_zero, List.set_cons_succ, i64_w, i32_w]
             rfl
            refine pure_ (i := 3) (N := some 69) (v := ?_) (a' := ?_) #[false, true, true, true, false, false, false, false, false, false, false, false, false, false, false, false] rfl rfl (any_of HT_.out (by kernel_rfl)) (fun _ _ _ h => h) (Or.inl ⟨by rfl, ?_⟩) ?_ ?_
            rotate_left
            ·intro w'
             go_simp
             with_reducible rfl
            rotate_left
            ·simp only [Act.put, List.setIfInBounds_toArray, List.set_cons_zero, List.set_cons_succ, i64_w, i32_w]
             rfl
            refine pure_ (i := 4) (N := some 70) (v := ?_) (a' := ?_) #[false, true, true, true, true, false, false, false, false, false, false, false, false, false, false, false] rfl rfl (any_of HT_.out (by kernel_rfl)) (fun _ _ _ h => h) (Or.inl ⟨by rfl, ?_⟩) ?_ ?_
            rotate_left
            ·intro w'
             go_simp
             with_reducible rfl
            rotate_left
            ·simp only [Act.put, List.setIfInBounds_toArray, List.set_cons_zero, List.set_cons_succ, i64_w, i32_w]
             rfl
            refine pure_ (i := 5) (N := some 71) (v := ?_) (a' := ?_) #[false, true, true, true, true, true, false, false, false, false, false, false, false, false, false, false] rfl rfl (any_of HT_.out (by kernel_rfl)) (fun _ _ _ h => h) (Or.inl ⟨by rfl, ?_⟩) ?_ ?_
            rotate_left
            ·intro w'
             go_simp
             with_reducible rfl
            rotate_left
            ·simp only [Act.put, List.setIfInBounds_toArray, List.set_cons_zero, List.set_cons_succ, i64_w, i32_w]
             rfl
            refine pure_ (i := 6) (N := some 72) (v := ?_) (a' := ?_) #[false, true, true, true, true, true, true, false, false, false, false, false, false, false, false, false] rfl rfl (any_of HT_.out (by kernel_rfl)) (fun _ _ _ h => h) (Or.inl ⟨by rfl, ?_⟩) ?_ ?_
            rotate_left
            ·intro w'
             go_simp
             with_reducible rfl
            rotate_left
            ·simp only [Act.put, List.setIfInBounds_toArray, List.set_cons_zero, List.set_cons_succ, i64_w, i32_w]
             rfl
            refine take_ (i := 0) (N := some 66) (v := ?_) (a' := ?_) #[true, true, true, true, true, true, true, false, false, false, false, false, false, false, false, false] rfl rfl (take_ofW HT_.out HW_.out (by kernel_rfl)) (fun _ _ _ h => h) (Or.inl ⟨by rfl, ?_⟩) hHeld ?_ ?_
            rotate_left
            ·rintro w' ⟨s0, s1, s2, s3, s4⟩
             go_simp
             with_reducible rfl
            rotate_left
            ·simp only [Act.put, List.setIfInBounds_toArray, List.set_cons_zero, List.set_cons_succ, i64_w, i32_w]
             rfl
            refine join_ (σ := Nat) 3 #[true, true, true, true, true, true, true, true, true, true, true, true, true, false, false, false] (fun s_ => [(73, .tuple #[.int .u16 t288, .agg #[.int .i64 t289, .int .i64 t290], .int .i64 t291]), (18, .pointer (some ⟨s_, 0, none⟩)), (65, .tuple #[.int .u16 t288, .agg #[.int .i64 t289, .int .i64 t290], .int .i64 t291]), (74, .int .u16 t288), (75, .agg #[.int .i64 t289, .int .i64 t290]), (76, .int .i64 t291)]) (fun s_ w' => (w'.cell? ⟨gb280, 0, none⟩ = some (.int .i64 a0_0) ∧ w'.cell? ⟨gb280, 1, none⟩ = some (.int .i64 a0_1) ∧ w'.cell? ⟨gb280, 2, none⟩ = some (.int .i64 a0_2) ∧ w'.cell? ⟨gb280, 3, none⟩ = some (.int .i64 a0_3) ∧ w'.cell? ⟨gb280, 4, none⟩ = some (.int .i64 a0_4)) ∧ (w'.heap[gb280]? = some (.cells #[.int .i64 a0_0, .int .i64 a0_1, .int .i64 a0_2, .int .i64 a0_3, .int .i64 a0_4] 32 (0, 0))) ∧ (w'.heap[gb286]? = some (.cells #[.int .i64 t283, .int .i64 t284] 25 (0, 0))) ∧ (w'.heap[s_]? = some (.cells #[.int .i64 0, .int .i64 0] 25 (0, 0))) ∧ (w.heap.size ≤ s_) ∧ (w.heap.size ≤ s_) ∧ (gb280 ≠ s_) ∧ (s_ ≠ gb280) ∧ (gb286 ≠ s_) ∧ (s_ ≠ gb286) ∧ (Below w.heap.size w w')) ?_ ?_
            rotate_left
            ·intro hCont
             refine two_ (i := 7) (j := 12) (Ni := some 73) (Nj := some 18) #[true, true, true, true, true, true, true, true, false, false, false, false, false, false, false, false] #[true, true, true, true, true, true, true, false, false, false, false, false, true, false, false, false] rfl rfl rfl rfl (two_of HT_.out (by kernel_rfl)) (by decide) (by decide) (fun K hK => ?_) (fun K hK => ?_)
             ·skip
              refine goes_ Try.func23 (by kernel_rfl) rfl #[.agg #[.int .i64 a0_0, .int .i64 a0_1, .int .i64 a0_2, .int .i64 a0_3, .int .i64 a0_4], .int .i64 a1, .int .u16 a2, .int .u64 a3, .slice A4 (l4.take ((ji23) : Int).toNat).length c4] (by rfl) rfl rfl (by (try simp only [List.map_toArray, List.map_cons, List.map_nil]); first | done | (rw [show (l4.take ((ji23) : Int).toNat).length = (ji23).toNat from (by rw [List.length_take]; have h_ : ((ji23) : Int) ≤ (l4.length : Int) := of_decide_eq_true (by first | (with_reducible assumption) | assumption); omega)] <;> rfl) | (simp only [hji23]; rfl) | rfl | (simp only [List.length_drop, List.length_take]; rfl)) ?_
              with_reducible refine (member_Round.calls k a0_0 a0_1 a0_2 a0_3 a0_4 a1 a2 a3 _ _ (l4.take ((ji23) : Int).toNat) t288 t289 t290 t291 _ ?side1 ?side2 A26.out).mono ?_
              (case side1 => repeat (first | exact (Kd.C_below HR287.out HB.out) | (with_reducible refine Kd.C_alloc ?_ _) | (with_reducible refine Kd.C_drewN ?_ _) | (with_reducible refine Kd.C_drew ?_)))
              (case side2 => exact HC287.out)
              rintro e w44 ⟨rfl, hb⟩
              refine ⟨_, rfl, ?_⟩
              have n0_ := Aside0.mk (blk_below (g := gb280) (o := .cells #[.int .i64 a0_0, .int .i64 a0_1, .int .i64 a0_2, .int .i64 a0_3, .int .i64 a0_4] 32 (0, 0)) (by (with_reducible repeat (first | refine blk_drewN ?_ _ | refine blk_drew ?_ | refine blk_alloc ?_ _)); exact BK280.out) hb)
              have n1_ := Aside0.mk (blk_below (g := gb286) (o := .cells #[.int .i64 t283, .int .i64 t284] 25 (0, 0)) (by (with_reducible repeat (first | refine blk_drewN ?_ _ | refine blk_drew ?_ | refine blk_alloc ?_ _)); exact BK286.out) hb)
              have n2_ := Aside0.mk (below_step (by repeat (first | (with_reducible first | exact HB.out | apply below_alloc | apply pw_below_drewN | apply below_drew1 | refine below_set ?_ GE280.out | refine below_set ?_ GE286.out) | exact HB.out)) hb)
              clear BK280
              clear BK286
              clear HB
              have BK280 := n0_
              have BK286 := n1_
              have HB := n2_
              clear n0_ n1_ n2_
              (try clear hb)
              (try clear hb2)
              (try clear hk)
              (try clear hi)
              refine hK.out _ _ ⟨(blk_cell BK280.out 0).trans rfl, (blk_cell BK280.out 1).trans rfl, (blk_cell BK280.out 2).trans rfl, (blk_cell BK280.out 3).trans rfl, (blk_cell BK280.out 4).trans rfl⟩ (fun hHeld => ?_)
              clear hK K
              refine norm_ (a' := ?_) ?_ ?_
              rotate_left
              ·show Act.put _ (some 73) _ = _
               simp only [Act.put, List.setIfInBounds_toArray, List.set_cons_zero, List.set_cons_succ, i64_w, i32_w]
               rfl
              refine pure_ (i := 8) (N := some 65) (v := ?_) (a' := ?_) #[true, true, true, true, true, true, true, true, true, false, false, false, false, false, false, false] rfl rfl (any_of HT_.out (by kernel_rfl)) (fun _ _ _ h => h) (Or.inl ⟨by rfl, ?_⟩) ?_ ?_
              rotate_left
              ·intro w'
               go_simp
               with_reducible rfl
              rotate_left
              ·simp only [Act.put, List.setIfInBounds_toArray, List.set_cons_zero, List.set_cons_succ, i64_w, i32_w]
               rfl
              refine pure_ (i := 9) (N := some 74) (v := ?_) (a' := ?_) #[true, true, true, true, true, true, true, true, true, true, false, false, false, false, false, false] rfl rfl (any_of HT_.out (by kernel_rfl)) (fun _ _ _ h => h) (Or.inl ⟨by rfl, ?_⟩) ?_ ?_
              rotate_left
              ·intro w'
               go_simp
               with_reducible rfl
              rotate_left
              ·simp only [Act.put, List.setIfInBounds_toArray, List.set_cons_zero, List.set_cons_succ, i64_w, i32_w]
               rfl
              refine pure_ (i := 10) (N := some 75) (v := ?_) (a' := ?_) #[true, true, true, true, true, true, true, true, true, true, true, false, false, false, false, false] rfl rfl (any_of HT_.out (by kernel_rfl)) (fun _ _ _ h => h) (Or.inl ⟨by rfl, ?_⟩) ?_ ?_
              rotate_left
              ·intro w'
               go_simp
               with_reducible rfl
              rotate_left
              ·simp only [Act.put, List.setIfInBounds_toArray, List.set_cons_zero, List.set_cons_succ, i64_w, i32_w]
               rfl
              refine pure_ (i := 11) (N := some 76) (v := ?_) (a' := ?_) #[true, true, true, true, true, true, true, true, true, true, true, true, false, false, false, false] rfl rfl (any_of HT_.out (by kernel_rfl)) (fun _ _ _ h => h) (Or.inl ⟨by rfl, ?_⟩) ?_ ?_
              rotate_left
              ·intro w'
               go_simp
               with_reducible rfl
              rotate_left
              ·simp only [Act.put, List.setIfInBounds_toArray, List.set_cons_zero, List.set_cons_succ, i64_w, i32_w]
               rfl
              refine one_ (i := 12) (N := some 18) #[true, true, true, true, true, true, true, true, true, true, true, true, true, false, false, false] rfl rfl (one_of HT_.out (by kernel_rfl)) (by decide) (fun K hK => ?_)
              refine box_step ?hg (N := 18) ?hd (cs := #[.int .i64 0, .int .i64 0]) (t := 25) ?hr ?_; (case hd => rfl); (case hg => rfl); (case hr => first | (go_simp; done) | (go_simp; rfl))
              intro gb292 hg w45 hbox hb
              have n0_ := Aside0.mk (blk_below (g := gb280) (o := .cells #[.int .i64 a0_0, .int .i64 a0_1, .int .i64 a0_2, .int .i64 a0_3, .int .i64 a0_4] 32 (0, 0)) (by (with_reducible repeat (first | refine blk_drewN ?_ _ | refine blk_drew ?_ | refine blk_alloc ?_ _)); exact BK280.out) hb)
              have n1_ := Aside0.mk (blk_below (g := gb286) (o := .cells #[.int .i64 t283, .int .i64 t284] 25 (0, 0)) (by (with_reducible repeat (first | refine blk_drewN ?_ _ | refine blk_drew ?_ | refine blk_alloc ?_ _)); exact BK286.out) hb)
              have n2_ := Aside0.mk (below_step (by repeat (first | (with_reducible first | exact HB.out | apply below_alloc | apply pw_below_drewN | apply below_drew1 | refine below_set ?_ GE280.out | refine below_set ?_ GE286.out) | exact HB.out)) hb)
              have n3_ := Aside0.mk (hbox)
              have n4_ := Aside0.mk ((by rw [hg]; exact (below_size (by repeat (first | (with_reducible first | exact HB.out | apply below_alloc | apply pw_below_drewN | apply below_drew1 | refine below_set ?_ GE280.out | refine below_set ?_ GE286.out) | exact HB.out))) : w.heap.size ≤ gb292))
              have n5_ := Aside0.mk ((by rw [hg]; exact (below_size (by repeat (first | (with_reducible first | exact HB.out | apply below_alloc | apply pw_below_drewN | apply below_drew1 | refine below_set ?_ GE280.out | refine below_set ?_ GE286.out) | exact HB.out))) : w.heap.size ≤ gb292))
              have n6_ := Aside0.mk ((by rw [hg]; exact Nat.ne_of_lt (blk_lt (g := gb280) (o := .cells #[.int .i64 a0_0, .int .i64 a0_1, .int .i64 a0_2, .int .i64 a0_3, .int .i64 a0_4] 32 (0, 0)) (by (with_reducible repeat (first | refine blk_drewN ?_ _ | refine blk_drew ?_ | refine blk_alloc ?_ _)); exact BK280.out)) : gb280 ≠ gb292))
              have n7_ := Aside0.mk ((by rw [hg]; exact Nat.ne_of_gt (blk_lt (g := gb280) (o := .cells #[.int .i64 a0_0, .int .i64 a0_1, .int .i64 a0_2, .int .i64 a0_3, .int .i64 a0_4] 32 (0, 0)) (by (with_reducible repeat (first | refine blk_drewN ?_ _ | refine blk_drew ?_ | refine blk_alloc ?_ _)); exact BK280.out)) : gb292 ≠ gb280))
              have n8_ := Aside0.mk ((by rw [hg]; exact Nat.ne_of_lt (blk_lt (g := gb286) (o := .cells #[.int .i64 t283, .int .i64 t284] 25 (0, 0)) (by (with_reducible repeat (first | refine blk_drewN ?_ _ | refine blk_drew ?_ | refine blk_alloc ?_ _)); exact BK286.out)) : gb286 ≠ gb292))
              have n9_ := Aside0.mk ((by rw [hg]; exact Nat.ne_of_gt (blk_lt (g := gb286) (o := .cells #[.int .i64 t283, .int .i64 t284] 25 (0, 0)) (by (with_reducible repeat (first | refine blk_drewN ?_ _ | refine blk_drew ?_ | refine blk_alloc ?_ _)); exact BK286.out)) : gb292 ≠ gb286))
              clear BK280
              clear BK286
              clear HB
              have BK280 := n0_
              have BK286 := n1_
              have HB := n2_
              have BK292 := n3_
              have GW292 := n4_
              have GE292 := n5_
              have NB280_292 := n6_
              have NB292_280 := n7_
              have NB286_292 := n8_
              have NB292_286 := n9_
              clear n0_ n1_ n2_ n3_ n4_ n5_ n6_ n7_ n8_ n9_
              clear hb hbox hg
              refine hK.out _ _ ⟨(blk_cell BK280.out 0).trans rfl, (blk_cell BK280.out 1).trans rfl, (blk_cell BK280.out 2).trans rfl, (blk_cell BK280.out 3).trans rfl, (blk_cell BK280.out 4).trans rfl⟩ (fun hHeld => ?_)
              clear hK K
              refine norm_ (a' := ?_) ?_ ?_
              rotate_left
              ·show Act.put _ (some 18) _ = _
               simp only [Act.put, List.setIfInBounds_toArray, List.set_cons_zero, List.set_cons_succ, i64_w, i32_w]
               rfl
              exact norm_ (by simp only [putAll, Act.put, List.setIfInBounds_toArray, List.set_cons_zero, List.set_cons_succ]) (hCont (gb292) _ ⟨hHeld, (by (with_reducible repeat (first | refine blk_drewN ?_ _ | refine blk_drew ?_ | refine blk_alloc ?_ _)); exact BK280.out), (by (with_reducible repeat (first | refine blk_drewN ?_ _ | refine blk_drew ?_ | refine blk_alloc ?_ _)); exact BK286.out), (by (with_reducible repeat (first | refine blk_drewN ?_ _ | refine blk_drew ?_ | refine blk_alloc ?_ _)); exact BK292.out), GW292.out, GE292.out, NB280_292.out, NB292_280.out, NB286_292.out, NB292_286.out, (by repeat (first | (with_reducible first | exact HB.out | apply below_alloc | apply pw_below_drewN | apply below_drew1 | refine below_set ?_ GE280.out | refine below_set ?_ GE286.out | refine below_set ?_ GE292.out) | exact HB.out))⟩)
             ·skip
              refine box_step ?hg (N := 18) ?hd (cs := #[.int .i64 0, .int .i64 0]) (t := 25) ?hr ?_; (case hd => rfl); (case hg => rfl); (case hr => first | (go_simp; done) | (go_simp; rfl))
              intro gb292 hg w44 hbox hb
              have n0_ := Aside0.mk (blk_below (g := gb280) (o := .cells #[.int .i64 a0_0, .int .i64 a0_1, .int .i64 a0_2, .int .i64 a0_3, .int .i64 a0_4] 32 (0, 0)) (by (with_reducible repeat (first | refine blk_drewN ?_ _ | refine blk_drew ?_ | refine blk_alloc ?_ _)); exact BK280.out) hb)
              have n1_ := Aside0.mk (blk_below (g := gb286) (o := .cells #[.int .i64 t283, .int .i64 t284] 25 (0, 0)) (by (with_reducible repeat (first | refine blk_drewN ?_ _ | refine blk_drew ?_ | refine blk_alloc ?_ _)); exact BK286.out) hb)
              have n2_ := Aside0.mk (below_step (by repeat (first | (with_reducible first | exact HB.out | apply below_alloc | apply pw_below_drewN | apply below_drew1 | refine below_set ?_ GE280.out | refine below_set ?_ GE286.out) | exact HB.out)) hb)
              have n3_ := Aside0.mk (hbox)
              have n4_ := Aside0.mk ((by rw [hg]; exact (below_size (by repeat (first | (with_reducible first | exact HB.out | apply below_alloc | apply pw_below_drewN | apply below_drew1 | refine below_set ?_ GE280.out | refine below_set ?_ GE286.out) | exact HB.out))) : w.heap.size ≤ gb292))
              have n5_ := Aside0.mk ((by rw [hg]; exact (below_size (by repeat (first | (with_reducible first | exact HB.out | apply below_alloc | apply pw_below_drewN | apply below_drew1 | refine below_set ?_ GE280.out | refine below_set ?_ GE286.out) | exact HB.out))) : w.heap.size ≤ gb292))
              have n6_ := Aside0.mk ((by rw [hg]; exact Nat.ne_of_lt (blk_lt (g := gb280) (o := .cells #[.int .i64 a0_0, .int .i64 a0_1, .int .i64 a0_2, .int .i64 a0_3, .int .i64 a0_4] 32 (0, 0)) (by (with_reducible repeat (first | refine blk_drewN ?_ _ | refine blk_drew ?_ | refine blk_alloc ?_ _)); exact BK280.out)) : gb280 ≠ gb292))
              have n7_ := Aside0.mk ((by rw [hg]; exact Nat.ne_of_gt (blk_lt (g := gb280) (o := .cells #[.int .i64 a0_0, .int .i64 a0_1, .int .i64 a0_2, .int .i64 a0_3, .int .i64 a0_4] 32 (0, 0)) (by (with_reducible repeat (first | refine blk_drewN ?_ _ | refine blk_drew ?_ | refine blk_alloc ?_ _)); exact BK280.out)) : gb292 ≠ gb280))
              have n8_ := Aside0.mk ((by rw [hg]; exact Nat.ne_of_lt (blk_lt (g := gb286) (o := .cells #[.int .i64 t283, .int .i64 t284] 25 (0, 0)) (by (with_reducible repeat (first | refine blk_drewN ?_ _ | refine blk_drew ?_ | refine blk_alloc ?_ _)); exact BK286.out)) : gb286 ≠ gb292))
              have n9_ := Aside0.mk ((by rw [hg]; exact Nat.ne_of_gt (blk_lt (g := gb286) (o := .cells #[.int .i64 t283, .int .i64 t284] 25 (0, 0)) (by (with_reducible repeat (first | refine blk_drewN ?_ _ | refine blk_drew ?_ | refine blk_alloc ?_ _)); exact BK286.out)) : gb292 ≠ gb286))
              clear BK280
              clear BK286
              clear HB
              have BK280 := n0_
              have BK286 := n1_
              have HB := n2_
              have BK292 := n3_
              have GW292 := n4_
              have GE292 := n5_
              have NB280_292 := n6_
              have NB292_280 := n7_
              have NB286_292 := n8_
              have NB292_286 := n9_
              clear n0_ n1_ n2_ n3_ n4_ n5_ n6_ n7_ n8_ n9_
              clear hb hbox hg
              refine hK.out _ _ ⟨(blk_cell BK280.out 0).trans rfl, (blk_cell BK280.out 1).trans rfl, (blk_cell BK280.out 2).trans rfl, (blk_cell BK280.out 3).trans rfl, (blk_cell BK280.out 4).trans rfl⟩ (fun hHeld => ?_)
              clear hK K
              refine norm_ (a' := ?_) ?_ ?_
              rotate_left
              ·show Act.put _ (some 18) _ = _
               simp only [Act.put, List.setIfInBounds_toArray, List.set_cons_zero, List.set_cons_succ, i64_w, i32_w]
               rfl
              refine one_ (i := 7) (N := some 73) #[true, true, true, true, true, true, true, true, false, false, false, false, true, false, false, false] rfl rfl (one_of HT_.out (by kernel_rfl)) (by decide) (fun K hK => ?_)
              refine goes_ Try.func23 (by kernel_rfl) rfl #[.agg #[.int .i64 a0_0, .int .i64 a0_1, .int .i64 a0_2, .int .i64 a0_3, .int .i64 a0_4], .int .i64 a1, .int .u16 a2, .int .u64 a3, .slice A4 (l4.take ((ji23) : Int).toNat).length c4] (by rfl) rfl rfl (by (try simp only [List.map_toArray, List.map_cons, List.map_nil]); first | done | (rw [show (l4.take ((ji23) : Int).toNat).length = (ji23).toNat from (by rw [List.length_take]; have h_ : ((ji23) : Int) ≤ (l4.length : Int) := of_decide_eq_true (by first | (with_reducible assumption) | assumption); omega)] <;> rfl) | (simp only [hji23]; rfl) | rfl | (simp only [List.length_drop, List.length_take]; rfl)) ?_
              with_reducible refine (member_Round.calls k a0_0 a0_1 a0_2 a0_3 a0_4 a1 a2 a3 _ _ (l4.take ((ji23) : Int).toNat) t288 t289 t290 t291 _ ?side1 ?side2 A26.out).mono ?_
              (case side1 => repeat (first | exact (Kd.C_below HR287.out HB.out) | (with_reducible refine Kd.C_alloc ?_ _) | (with_reducible refine Kd.C_drewN ?_ _) | (with_reducible refine Kd.C_drew ?_)))
              (case side2 => exact HC287.out)
              rintro e w45 ⟨rfl, hb⟩
              refine ⟨_, rfl, ?_⟩
              have n0_ := Aside0.mk (blk_below (g := gb280) (o := .cells #[.int .i64 a0_0, .int .i64 a0_1, .int .i64 a0_2, .int .i64 a0_3, .int .i64 a0_4] 32 (0, 0)) (by (with_reducible repeat (first | refine blk_drewN ?_ _ | refine blk_drew ?_ | refine blk_alloc ?_ _)); exact BK280.out) hb)
              have n1_ := Aside0.mk (blk_below (g := gb286) (o := .cells #[.int .i64 t283, .int .i64 t284] 25 (0, 0)) (by (with_reducible repeat (first | refine blk_drewN ?_ _ | refine blk_drew ?_ | refine blk_alloc ?_ _)); exact BK286.out) hb)
              have n2_ := Aside0.mk (blk_below (g := gb292) (o := .cells #[.int .i64 0, .int .i64 0] 25 (0, 0)) (by (with_reducible repeat (first | refine blk_drewN ?_ _ | refine blk_drew ?_ | refine blk_alloc ?_ _)); exact BK292.out) hb)
              have n3_ := Aside0.mk (below_step (by repeat (first | (with_reducible first | exact HB.out | apply below_alloc | apply pw_below_drewN | apply below_drew1 | refine below_set ?_ GE280.out | refine below_set ?_ GE286.out | refine below_set ?_ GE292.out) | exact HB.out)) hb)
              clear BK280
              clear BK286
              clear BK292
              clear HB
              have BK280 := n0_
              have BK286 := n1_
              have BK292 := n2_
              have HB := n3_
              clear n0_ n1_ n2_ n3_
              (try clear hb)
              (try clear hb2)
              (try clear hk)
              (try clear hi)
              refine hK.out _ _ ⟨(blk_cell BK280.out 0).trans rfl, (blk_cell BK280.out 1).trans rfl, (blk_cell BK280.out 2).trans rfl, (blk_cell BK280.out 3).trans rfl, (blk_cell BK280.out 4).trans rfl⟩ (fun hHeld => ?_)
              clear hK K
              refine norm_ (a' := ?_) ?_ ?_
              rotate_left
              ·show Act.put _ (some 73) _ = _
               simp only [Act.put, List.setIfInBounds_toArray, List.set_cons_zero, List.set_cons_succ, i64_w, i32_w]
               rfl
              refine pure_ (i := 8) (N := some 65) (v := ?_) (a' := ?_) #[true, true, true, true, true, true, true, true, true, false, false, false, true, false, false, false] rfl rfl (any_of HT_.out (by kernel_rfl)) (fun _ _ _ h => h) (Or.inl ⟨by rfl, ?_⟩) ?_ ?_
              rotate_left
              ·intro w'
               go_simp
               with_reducible rfl
              rotate_left
              ·simp only [Act.put, List.setIfInBounds_toArray, List.set_cons_zero, List.set_cons_succ, i64_w, i32_w]
               rfl
              refine pure_ (i := 9) (N := some 74) (v := ?_) (a' := ?_) #[true, true, true, true, true, true, true, true, true, true, false, false, true, false, false, false] rfl rfl (any_of HT_.out (by kernel_rfl)) (fun _ _ _ h => h) (Or.inl ⟨by rfl, ?_⟩) ?_ ?_
              rotate_left
              ·intro w'
               go_simp
               with_reducible rfl
              rotate_left
              ·simp only [Act.put, List.setIfInBounds_toArray, List.set_cons_zero, List.set_cons_succ, i64_w, i32_w]
               rfl
              refine pure_ (i := 10) (N := some 75) (v := ?_) (a' := ?_) #[true, true, true, true, true, true, true, true, true, true, true, false, true, false, false, false] rfl rfl (any_of HT_.out (by kernel_rfl)) (fun _ _ _ h => h) (Or.inl ⟨by rfl, ?_⟩) ?_ ?_
              rotate_left
              ·intro w'
               go_simp
               with_reducible rfl
              rotate_left
              ·simp only [Act.put, List.setIfInBounds_toArray, List.set_cons_zero, List.set_cons_succ, i64_w, i32_w]
               rfl
              refine pure_ (i := 11) (N := some 76) (v := ?_) (a' := ?_) #[true, true, true, true, true, true, true, true, true, true, true, true, true, false, false, false] rfl rfl (any_of HT_.out (by kernel_rfl)) (fun _ _ _ h => h) (Or.inl ⟨by rfl, ?_⟩) ?_ ?_
              rotate_left
              ·intro w'
               go_simp
               with_reducible rfl
              rotate_left
              ·simp only [Act.put, List.setIfInBounds_toArray, List.set_cons_zero, List.set_cons_succ, i64_w, i32_w]
               rfl
              exact norm_ (by simp only [putAll, Act.put, List.setIfInBounds_toArray, List.set_cons_zero, List.set_cons_succ]) (hCont (gb292) _ ⟨hHeld, (by (with_reducible repeat (first | refine blk_drewN ?_ _ | refine blk_drew ?_ | refine blk_alloc ?_ _)); exact BK280.out), (by (with_reducible repeat (first | refine blk_drewN ?_ _ | refine blk_drew ?_ | refine blk_alloc ?_ _)); exact BK286.out), (by (with_reducible repeat (first | refine blk_drewN ?_ _ | refine blk_drew ?_ | refine blk_alloc ?_ _)); exact BK292.out), GW292.out, GE292.out, NB280_292.out, NB292_280.out, NB286_292.out, NB292_286.out, (by repeat (first | (with_reducible first | exact HB.out | apply below_alloc | apply pw_below_drewN | apply below_drew1 | refine below_set ?_ GE280.out | refine below_set ?_ GE286.out | refine below_set ?_ GE292.out) | exact HB.out))⟩)
            rintro gb292 w46 ⟨hS_, h0_, h1_, h2_, h3_, h4_, h5_, h6_, h7_, h8_, h9_⟩
            have n0_ : Aside0 (w46.heap[gb280]? = some (.cells #[.int .i64 a0_0, .int .i64 a0_1, .int .i64 a0_2, .int .i64 a0_3, .int .i64 a0_4] 32 (0, 0))) := ⟨h0_⟩
            have n1_ : Aside0 (w46.heap[gb286]? = some (.cells #[.int .i64 t283, .int .i64 t284] 25 (0, 0))) := ⟨h1_⟩
            have n2_ : Aside0 (w46.heap[gb292]? = some (.cells #[.int .i64 0, .int .i64 0] 25 (0, 0))) := ⟨h2_⟩
            have n3_ : Aside0 (w.heap.size ≤ gb292) := ⟨h3_⟩
            have n4_ : Aside0 (w.heap.size ≤ gb292) := ⟨h4_⟩
            have n5_ : Aside0 (gb280 ≠ gb292) := ⟨h5_⟩
            have n6_ : Aside0 (gb292 ≠ gb280) := ⟨h6_⟩
            have n7_ : Aside0 (gb286 ≠ gb292) := ⟨h7_⟩
            have n8_ : Aside0 (gb292 ≠ gb286) := ⟨h8_⟩
            have n9_ : Aside0 (Below w.heap.size w w46) := ⟨h9_⟩
            clear BK280
            clear BK286
            clear HB
            clear h0_ h1_ h2_ h3_ h4_ h5_ h6_ h7_ h8_ h9_
            have BK280 := n0_
            have BK286 := n1_
            have BK292 := n2_
            have GW292 := n3_
            have GE292 := n4_
            have NB280_292 := n5_
            have NB292_280 := n6_
            have NB286_292 := n7_
            have NB292_286 := n8_
            have HB := n9_
            clear n0_ n1_ n2_ n3_ n4_ n5_ n6_ n7_ n8_ n9_
            have hHeld : w46.cell? ⟨gb280, 0, none⟩ = some (.int .i64 a0_0) ∧ w46.cell? ⟨gb280, 1, none⟩ = some (.int .i64 a0_1) ∧ w46.cell? ⟨gb280, 2, none⟩ = some (.int .i64 a0_2) ∧ w46.cell? ⟨gb280, 3, none⟩ = some (.int .i64 a0_3) ∧ w46.cell? ⟨gb280, 4, none⟩ = some (.int .i64 a0_4) := hS_
            refine norm_ (a' := ?_) ?_ ?_
            rotate_left
            ·simp only [putAll, Act.put, List.setIfInBounds_toArray, List.set_cons_zero, List.set_cons_succ]
             rfl
            refine pure_ (i := 13) (N := some 17) (v := ?_) (a' := ?_) #[true, true, true, true, true, true, true, true, true, true, true, true, true, true, false, false] rfl rfl (any_of HT_.out (by kernel_rfl)) (fun _ _ _ h => h) (Or.inl ⟨by rfl, ?_⟩) ?_ ?_
            rotate_left
            ·intro w'
             go_simp
             with_reducible rfl
            rotate_left
            ·simp only [Act.put, List.setIfInBounds_toArray, List.set_cons_zero, List.set_cons_succ, i64_w, i32_w]
             rfl
            refine one_ (i := 14) (N := none) #[true, true, true, true, true, true, true, true, true, true, true, true, true, true, true, false] rfl rfl (one_of HT_.out (by kernel_rfl)) (by decide) (fun K hK => ?_)
            have hs47 : w46.cell? ⟨gb292, 0, none⟩ = some (.int .i64 0) := (blk_cell BK292.out 0).trans rfl
            have hfs47 := blk_frozen BK292.out 0
            have hns47_0 := NB280_292.out
            have hns47_1 := NB286_292.out
            have hms47_0 := NB292_280.out
            have hms47_1 := NB292_286.out
            have hs48 : w46.cell? ⟨gb292, 1, none⟩ = some (.int .i64 0) := (blk_cell BK292.out 1).trans rfl
            have hfs48 := blk_frozen BK292.out 1
            have hns48_0 := NB280_292.out
            have hns48_1 := NB286_292.out
            have hms48_0 := NB292_280.out
            have hms48_1 := NB292_286.out
            refine skip_ (w1 := ?_) (by rfl) rfl ?_ ?_
            rotate_left
            ·go_simp
             rfl
            refine hK.out _ _ ⟨((cell_far (p := ⟨gb292, _, none⟩) NB280_292.out _).trans (((cell_far (p := ⟨gb292, _, none⟩) NB280_292.out _).trans (hHeld.1)))), ((cell_far (p := ⟨gb292, _, none⟩) NB280_292.out _).trans (((cell_far (p := ⟨gb292, _, none⟩) NB280_292.out _).trans (hHeld.2.1)))), ((cell_far (p := ⟨gb292, _, none⟩) NB280_292.out _).trans (((cell_far (p := ⟨gb292, _, none⟩) NB280_292.out _).trans (hHeld.2.2.1)))), ((cell_far (p := ⟨gb292, _, none⟩) NB280_292.out _).trans (((cell_far (p := ⟨gb292, _, none⟩) NB280_292.out _).trans (hHeld.2.2.2.1)))), ((cell_far (p := ⟨gb292, _, none⟩) NB280_292.out _).trans (((cell_far (p := ⟨gb292, _, none⟩) NB280_292.out _).trans (hHeld.2.2.2.2))))⟩ (fun hHeld => ?_)
            clear hK K
            refine pure_ (i := 15) (N := some 19) (v := ?_) (a' := ?_) #[true, true, true, true, true, true, true, true, true, true, true, true, true, true, true, true] rfl rfl (any_of HT_.out (by kernel_rfl)) (fun _ _ _ h => h) (Or.inl ⟨by rfl, ?_⟩) ?_ ?_
            rotate_left
            ·intro w'
             go_simp
             with_reducible rfl
            rotate_left
            ·simp only [Act.put, List.setIfInBounds_toArray, List.set_cons_zero, List.set_cons_succ, i64_w, i32_w]
             rfl
            refine done_ (done_of HT_.out (by kernel_rfl)) ?_
            try go_wp2
            have n0_ : Aside0 (((w46.setCell ⟨gb292, 0, none⟩ (.int .i64 t289)).setCell ⟨gb292, 1, none⟩ (.int .i64 t290)).heap[gb280]? = some (.cells #[.int .i64 a0_0, .int .i64 a0_1, .int .i64 a0_2, .int .i64 a0_3, .int .i64 a0_4] 32 (0, 0))) := ⟨by (with_reducible repeat (first | refine blk_drewN ?_ _ | refine blk_drew ?_ | refine blk_alloc ?_ _)); refine blk_far ?_ NB280_292.out _; (with_reducible repeat (first | refine blk_drewN ?_ _ | refine blk_drew ?_ | refine blk_alloc ?_ _)); refine blk_far ?_ NB280_292.out _; (with_reducible repeat (first | refine blk_drewN ?_ _ | refine blk_drew ?_ | refine blk_alloc ?_ _)); exact BK280.out⟩
            have n1_ : Aside0 (((w46.setCell ⟨gb292, 0, none⟩ (.int .i64 t289)).setCell ⟨gb292, 1, none⟩ (.int .i64 t290)).heap[gb286]? = some (.cells #[.int .i64 t283, .int .i64 t284] 25 (0, 0))) := ⟨by (with_reducible repeat (first | refine blk_drewN ?_ _ | refine blk_drew ?_ | refine blk_alloc ?_ _)); refine blk_far ?_ NB286_292.out _; (with_reducible repeat (first | refine blk_drewN ?_ _ | refine blk_drew ?_ | refine blk_alloc ?_ _)); refine blk_far ?_ NB286_292.out _; (with_reducible repeat (first | refine blk_drewN ?_ _ | refine blk_drew ?_ | refine blk_alloc ?_ _)); exact BK286.out⟩
            have n2_ : Aside0 (((w46.setCell ⟨gb292, 0, none⟩ (.int .i64 t289)).setCell ⟨gb292, 1, none⟩ (.int .i64 t290)).heap[gb292]? = some (.cells #[.int .i64 t289, .int .i64 t290] 25 (0, 0))) := ⟨by (with_reducible repeat (first | refine blk_drewN ?_ _ | refine blk_drew ?_ | refine blk_alloc ?_ _)); refine blk_put (cs := #[.int .i64 t289, .int .i64 0]) ?_ 1 _ rfl; (with_reducible repeat (first | refine blk_drewN ?_ _ | refine blk_drew ?_ | refine blk_alloc ?_ _)); refine blk_put (cs := #[.int .i64 0, .int .i64 0]) ?_ 0 _ rfl; (with_reducible repeat (first | refine blk_drewN ?_ _ | refine blk_drew ?_ | refine blk_alloc ?_ _)); exact BK292.out⟩
            have n3_ : Aside0 (Below w.heap.size w ((w46.setCell ⟨gb292, 0, none⟩ (.int .i64 t289)).setCell ⟨gb292, 1, none⟩ (.int .i64 t290))) := ⟨by repeat (first | (with_reducible first | exact HB.out | apply below_alloc | apply pw_below_drewN | apply below_drew1 | refine below_set ?_ GE280.out | refine below_set ?_ GE286.out | refine below_set ?_ GE292.out) | exact HB.out)⟩
            (try clear BK280)
            (try clear BK286)
            (try clear BK292)
            (try clear HB)
            generalize ((w46.setCell ⟨gb292, 0, none⟩ (.int .i64 t289)).setCell ⟨gb292, 1, none⟩ (.int .i64 t290)) = w49 at n0_ n1_ n2_ n3_ ⊢
            have BK280 := n0_
            have BK286 := n1_
            have BK292 := n2_
            have HB := n3_
            clear n0_ n1_ n2_ n3_
            have n0_ := Aside0.mk (blk_drew BK280.out)
            have n1_ := Aside0.mk (blk_drew BK286.out)
            have n2_ := Aside0.mk (blk_drew BK292.out)
            have n3_ := Aside0.mk (below_drew1 HB.out)
            clear BK280
            clear BK286
            clear BK292
            clear HB
            have BK280 := n0_
            have BK286 := n1_
            have BK292 := n2_
            have HB := n3_
            clear n0_ n1_ n2_ n3_
            obtain ⟨i051, hi051, _, hsz51, _⟩ := info_parts info3
            obtain ⟨A51, hcut51, hA51, hC51⟩ := print_drop_of (P := Try.prog) (Value.int .i64) 0 47 3 .i64 Try.underlying47 hi051 hsz51 A4 c4 l4 (ji23) (of_decide_eq_true (by first | (with_reducible assumption) | assumption)) (of_decide_eq_true (by first | (with_reducible assumption) | assumption)) HC4.out
            have HR293 := Aside0.mk (Kd.C_of_reads (h1 := fun _ => rfl) (hA51 _ (Kd.reads_of_C HR4.out)))
            have HC293 := Aside0.mk hC51
            clear hA51 hC51 hi051 hsz51
            refine start_ (n := 19) (S := fun w' => w'.cell? ⟨gb280, 0, none⟩ = some (.int .i64 a0_0) ∧ w'.cell? ⟨gb280, 1, none⟩ = some (.int .i64 a0_1) ∧ w'.cell? ⟨gb280, 2, none⟩ = some (.int .i64 a0_2) ∧ w'.cell? ⟨gb280, 3, none⟩ = some (.int .i64 a0_3) ∧ w'.cell? ⟨gb280, 4, none⟩ = some (.int .i64 a0_4)) (ds := []) #[false, false, false, false, false, false, false, false, false, false, false, false, false, false, false, false, false, false, false] (by kernel_rfl) rfl rfl ⟨(blk_cell BK280.out 0).trans rfl, (blk_cell BK280.out 1).trans rfl, (blk_cell BK280.out 2).trans rfl, (blk_cell BK280.out 3).trans rfl, (blk_cell BK280.out 4).trans rfl⟩ (fun hHeld => ?_); refine with_tabW palletlaw10_MemberSplits.tab13 palletlaw10_MemberSplits.bits13 (fun HT_ HW_ => ?_)
            generalize w49.drew = w50 at BK280 BK286 BK292 HB HR293 hHeld ⊢
            refine pure_ (i := 1) (N := some 79) (v := ?_) (a' := ?_) #[false, true, false, false, false, false, false, false, false, false, false, false, false, false, false, false, false, false, false] rfl rfl (any_of HT_.out (by kernel_rfl)) (fun _ _ _ h => h) (Or.inl ⟨by rfl, ?_⟩) ?_ ?_
            rotate_left
            ·intro w'
             go_simp
             with_reducible rfl
            rotate_left
            ·simp only [Act.put, List.setIfInBounds_toArray, List.set_cons_zero, List.set_cons_succ, i64_w, i32_w]
             rfl
            refine pure_ (i := 2) (N := some 80) (v := ?_) (a' := ?_) #[false, true, true, false, false, false, false, false, false, false, false, false, false, false, false, false, false, false, false] rfl rfl (any_of HT_.out (by kernel_rfl)) (fun _ _ _ h => h) (Or.inl ⟨by rfl, ?_⟩) ?_ ?_
            rotate_left
            ·intro w'
             go_simp
             with_reducible rfl
            rotate_left
            ·simp only [Act.put, List.setIfInBounds_toArray, List.set_cons_zero, List.set_cons_succ, i64_w, i32_w]
             rfl
            refine pure_ (i := 3) (N := some 81) (v := ?_) (a' := ?_) #[false, true, true, true, false, false, false, false, false, false, false, false, false, false, false, false, false, false, false] rfl rfl (any_of HT_.out (by kernel_rfl)) (fun _ _ _ h => h) (Or.inl ⟨by rfl, ?_⟩) ?_ ?_
            rotate_left
            ·intro w'
             go_simp
             with_reducible rfl
            rotate_left
            ·simp only [Act.put, List.setIfInBounds_toArray, List.set_cons_zero, List.set_cons_succ, i64_w, i32_w]
             rfl
            refine pure_ (i := 4) (N := some 82) (v := ?_) (a' := ?_) #[false, true, true, true, true, false, false, false, false, false, false, false, false, false, false, false, false, false, false] rfl rfl (any_of HT_.out (by kernel_rfl)) (fun _ _ _ h => h) (Or.inl ⟨by rfl, ?_⟩) ?_ ?_
            rotate_left
            ·intro w'
             go_simp
             with_reducible rfl
            rotate_left
            ·simp only [Act.put, List.setIfInBounds_toArray, List.set_cons_zero, List.set_cons_succ, i64_w, i32_w]
             rfl
            refine pure_ (i := 5) (N := some 83) (v := ?_) (a' := ?_) #[false, true, true, true, true, true, false, false, false, false, false, false, false, false, false, false, false, false, false] rfl rfl (any_of HT_.out (by kernel_rfl)) (fun _ _ _ h => h) (Or.inl ⟨by rfl, ?_⟩) ?_ ?_
            rotate_left
            ·intro w'
             go_simp
             with_reducible rfl
            rotate_left
            ·simp only [Act.put, List.setIfInBounds_toArray, List.set_cons_zero, List.set_cons_succ, i64_w, i32_w]
             rfl
            refine pure_ (i := 6) (N := some 84) (v := ?_) (a' := ?_) #[false, true, true, true, true, true, true, false, false, false, false, false, false, false, false, false, false, false, false] rfl rfl (any_of HT_.out (by kernel_rfl)) (fun _ _ _ h => h) (Or.inl ⟨by rfl, ?_⟩) ?_ ?_
            rotate_left
            ·intro w'
             go_simp
             with_reducible rfl
            rotate_left
            ·simp only [Act.put, List.setIfInBounds_toArray, List.set_cons_zero, List.set_cons_succ, i64_w, i32_w]
             rfl
            refine pure_ (i := 7) (N := some 85) (v := ?_) (a' := ?_) #[false, true, true, true, true, true, true, true, false, false, false, false, false, false, false, false, false, false, false] rfl rfl (any_of HT_.out (by kernel_rfl)) (fun _ _ _ h => h) (Or.inl ⟨by rfl, ?_⟩) ?_ ?_
            rotate_left
            ·intro w'
             go_simp
             with_reducible rfl
            rotate_left
            ·simp only [Act.put, List.setIfInBounds_toArray, List.set_cons_zero, List.set_cons_succ, i64_w, i32_w]
             rfl
            refine pure_ (i := 8) (N := some 86) (v := ?_) (a' := ?_) #[false, true, true, true, true, true, true, true, true, false, false, false, false, false, false, false, false, false, false] rfl rfl (any_of HT_.out (by kernel_rfl)) (fun _ _ _ h => h) (Or.inl ⟨by rfl, ?_⟩) ?_ ?_
            rotate_left
            ·intro w'
             go_simp
             with_reducible rfl
            rotate_left
            ·simp only [Act.put, List.setIfInBounds_toArray, List.set_cons_zero, List.set_cons_succ, i64_w, i32_w]
             rfl
            refine pure_ (i := 9) (N := some 87) (v := ?_) (a' := ?_) #[false, true, true, true, true, true, true, true, true, true, false, false, false, false, false, false, false, false, false] rfl rfl (any_of HT_.out (by kernel_rfl)) (fun _ _ _ h => h) (Or.inl ⟨by rfl, ?_⟩) ?_ ?_
            rotate_left
            ·intro w'
             go_simp
             with_reducible rfl
            rotate_left
            ·simp only [Act.put, List.setIfInBounds_toArray, List.set_cons_zero, List.set_cons_succ, i64_w, i32_w]
             rfl
            refine take_ (i := 0) (N := some 78) (v := ?_) (a' := ?_) #[true, true, true, true, true, true, true, true, true, true, false, false, false, false, false, false, false, false, false] rfl rfl (take_ofW HT_.out HW_.out (by kernel_rfl)) (fun _ _ _ h => h) (Or.inl ⟨by rfl, ?_⟩) hHeld ?_ ?_
            rotate_left
            ·rintro w' ⟨s0, s1, s2, s3, s4⟩
             go_simp
             with_reducible rfl
            rotate_left
            ·simp only [Act.put, List.setIfInBounds_toArray, List.set_cons_zero, List.set_cons_succ, i64_w, i32_w]
             rfl
            refine join_ (σ := Nat) 3 #[true, true, true, true, true, true, true, true, true, true, true, true, true, true, true, true, false, false, false] (fun s_ => [(88, .tuple #[.int .u16 t294, .agg #[.int .i64 t295, .int .i64 t296], .int .i64 t297]), (21, .pointer (some ⟨s_, 0, none⟩)), (77, .tuple #[.int .u16 t294, .agg #[.int .i64 t295, .int .i64 t296], .int .i64 t297]), (89, .int .u16 t294), (90, .agg #[.int .i64 t295, .int .i64 t296]), (91, .int .i64 t297)]) (fun s_ w' => (w'.cell? ⟨gb280, 0, none⟩ = some (.int .i64 a0_0) ∧ w'.cell? ⟨gb280, 1, none⟩ = some (.int .i64 a0_1) ∧ w'.cell? ⟨gb280, 2, none⟩ = some (.int .i64 a0_2) ∧ w'.cell? ⟨gb280, 3, none⟩ = some (.int .i64 a0_3) ∧ w'.cell? ⟨gb280, 4, none⟩ = some (.int .i64 a0_4)) ∧ (w'.heap[gb280]? = some (.cells #[.int .i64 a0_0, .int .i64 a0_1, .int .i64 a0_2, .int .i64 a0_3, .int .i64 a0_4] 32 (0, 0))) ∧ (w'.heap[gb286]? = some (.cells #[.int .i64 t283, .int .i64 t284] 25 (0, 0))) ∧ (w'.heap[gb292]? = some (.cells #[.int .i64 t289, .int .i64 t290] 25 (0, 0))) ∧ (w'.heap[s_]? = some (.cells #[.int .i64 0, .int .i64 0] 25 (0, 0))) ∧ (w.heap.size ≤ s_) ∧ (w.heap.size ≤ s_) ∧ (gb280 ≠ s_) ∧ (s_ ≠ gb280) ∧ (gb286 ≠ s_) ∧ (s_ ≠ gb286) ∧ (gb292 ≠ s_) ∧ (s_ ≠ gb292) ∧ (Below w.heap.size w w')) ?_ ?_
            rotate_left
            ·intro hCont
             refine two_ (i := 10) (j := 15) (Ni := some 88) (Nj := some 21) #[true, true, true, true, true, true, true, true, true, true, true, false, false, false, false, false, false, false, false] #[true, true, true, true, true, true, true, true, true, true, false, false, false, false, false, true, false, false, false] rfl rfl rfl rfl (two_of HT_.out (by kernel_rfl)) (by decide) (by decide) (fun K hK => ?_) (fun K hK => ?_)
             ·skip
              refine goes_ Try.func23 (by kernel_rfl) rfl #[.agg #[.int .i64 a0_0, .int .i64 a0_1, .int .i64 a0_2, .int .i64 a0_3, .int .i64 a0_4], .int .i64 a1, .int .u16 t288, .int .u64 (IntKind.u64.wrap (a3 + (IntKind.u64.wrap (ji23)))), .slice A51 (l4.drop ((ji23) : Int).toNat).length (c4 - (ji23).toNat)] (by rfl) rfl rfl (by (try simp only [List.map_toArray, List.map_cons, List.map_nil]); first | done | (rw [show (l4.drop ((ji23) : Int).toNat).length = (l4.length - (ji23).toNat) from List.length_drop] <;> rfl) | (simp only [hji23]; rfl) | rfl | (simp only [List.length_drop, List.length_take]; rfl)) ?_
              with_reducible refine (member_Round.calls k a0_0 a0_1 a0_2 a0_3 a0_4 a1 t288 (IntKind.u64.wrap (a3 + (IntKind.u64.wrap (ji23)))) _ _ (l4.drop ((ji23) : Int).toNat) t294 t295 t296 t297 _ ?side1 ?side2 A29.out).mono ?_
              (case side1 => repeat (first | exact (Kd.C_below HR293.out HB.out) | (with_reducible refine Kd.C_alloc ?_ _) | (with_reducible refine Kd.C_drewN ?_ _) | (with_reducible refine Kd.C_drew ?_)))
              (case side2 => exact HC293.out)
              rintro e w52 ⟨rfl, hb⟩
              refine ⟨_, rfl, ?_⟩
              have n0_ := Aside0.mk (blk_below (g := gb280) (o := .cells #[.int .i64 a0_0, .int .i64 a0_1, .int .i64 a0_2, .int .i64 a0_3, .int .i64 a0_4] 32 (0, 0)) (by (with_reducible repeat (first | refine blk_drewN ?_ _ | refine blk_drew ?_ | refine blk_alloc ?_ _)); exact BK280.out) hb)
              have n1_ := Aside0.mk (blk_below (g := gb286) (o := .cells #[.int .i64 t283, .int .i64 t284] 25 (0, 0)) (by (with_reducible repeat (first | refine blk_drewN ?_ _ | refine blk_drew ?_ | refine blk_alloc ?_ _)); exact BK286.out) hb)
              have n2_ := Aside0.mk (blk_below (g := gb292) (o := .cells #[.int .i64 t289, .int .i64 t290] 25 (0, 0)) (by (with_reducible repeat (first | refine blk_drewN ?_ _ | refine blk_drew ?_ | refine blk_alloc ?_ _)); exact BK292.out) hb)
              have n3_ := Aside0.mk (below_step (by repeat (first | (with_reducible first | exact HB.out | apply below_alloc | apply pw_below_drewN | apply below_drew1 | refine below_set ?_ GE280.out | refine below_set ?_ GE286.out | refine below_set ?_ GE292.out) | exact HB.out)) hb)
              clear BK280
              clear BK286
              clear BK292
              clear HB
              have BK280 := n0_
              have BK286 := n1_
              have BK292 := n2_
              have HB := n3_
              clear n0_ n1_ n2_ n3_
              (try clear hb)
              (try clear hb2)
              (try clear hk)
              (try clear hi)
              refine hK.out _ _ ⟨(blk_cell BK280.out 0).trans rfl, (blk_cell BK280.out 1).trans rfl, (blk_cell BK280.out 2).trans rfl, (blk_cell BK280.out 3).trans rfl, (blk_cell BK280.out 4).trans rfl⟩ (fun hHeld => ?_)
              clear hK K
              refine norm_ (a' := ?_) ?_ ?_
              rotate_left
              ·show Act.put _ (some 88) _ = _
               simp only [Act.put, List.setIfInBounds_toArray, List.set_cons_zero, List.set_cons_succ, i64_w, i32_w]
               rfl
              refine pure_ (i := 11) (N := some 77) (v := ?_) (a' := ?_) #[true, true, true, true, true, true, true, true, true, true, true, true, false, false, false, false, false, false, false] rfl rfl (any_of HT_.out (by kernel_rfl)) (fun _ _ _ h => h) (Or.inl ⟨by rfl, ?_⟩) ?_ ?_
              rotate_left
              ·intro w'
               go_simp
               with_reducible rfl
              rotate_left
              ·simp only [Act.put, List.setIfInBounds_toArray, List.set_cons_zero, List.set_cons_succ, i64_w, i32_w]
               rfl
              refine pure_ (i := 12) (N := some 89) (v := ?_) (a' := ?_) #[true, true, true, true, true, true, true, true, true, true, true, true, true, false, false, false, false, false, false] rfl rfl (any_of HT_.out (by kernel_rfl)) (fun _ _ _ h => h) (Or.inl ⟨by rfl, ?_⟩) ?_ ?_
              rotate_left
              ·intro w'
               go_simp
               with_reducible rfl
              rotate_left
              ·simp only [Act.put, List.setIfInBounds_toArray, List.set_cons_zero, List.set_cons_succ, i64_w, i32_w]
               rfl
              refine pure_ (i := 13) (N := some 90) (v := ?_) (a' := ?_) #[true, true, true, true, true, true, true, true, true, true, true, true, true, true, false, false, false, false, false] rfl rfl (any_of HT_.out (by kernel_rfl)) (fun _ _ _ h => h) (Or.inl ⟨by rfl, ?_⟩) ?_ ?_
              rotate_left
              ·intro w'
               go_simp
               with_reducible rfl
              rotate_left
              ·simp only [Act.put, List.setIfInBounds_toArray, List.set_cons_zero, List.set_cons_succ, i64_w, i32_w]
               rfl
              refine pure_ (i := 14) (N := some 91) (v := ?_) (a' := ?_) #[true, true, true, true, true, true, true, true, true, true, true, true, true, true, true, false, false, false, false] rfl rfl (any_of HT_.out (by kernel_rfl)) (fun _ _ _ h => h) (Or.inl ⟨by rfl, ?_⟩) ?_ ?_
              rotate_left
              ·intro w'
               go_simp
               with_reducible rfl
              rotate_left
              ·simp only [Act.put, List.setIfInBounds_toArray, List.set_cons_zero, List.set_cons_succ, i64_w, i32_w]
               rfl
              refine one_ (i := 15) (N := some 21) #[true, true, true, true, true, true, true, true, true, true, true, true, true, true, true, true, false, false, false] rfl rfl (one_of HT_.out (by kernel_rfl)) (by decide) (fun K hK => ?_)
              refine box_step ?hg (N := 21) ?hd (cs := #[.int .i64 0, .int .i64 0]) (t := 25) ?hr ?_; (case hd => rfl); (case hg => rfl); (case hr => first | (go_simp; done) | (go_simp; rfl))
              intro gb298 hg w53 hbox hb
              have n0_ := Aside0.mk (blk_below (g := gb280) (o := .cells #[.int .i64 a0_0, .int .i64 a0_1, .int .i64 a0_2, .int .i64 a0_3, .int .i64 a0_4] 32 (0, 0)) (by (with_reducible repeat (first | refine blk_drewN ?_ _ | refine blk_drew ?_ | refine blk_alloc ?_ _)); exact BK280.out) hb)
              have n1_ := Aside0.mk (blk_below (g := gb286) (o := .cells #[.int .i64 t283, .int .i64 t284] 25 (0, 0)) (by (with_reducible repeat (first | refine blk_drewN ?_ _ | refine blk_drew ?_ | refine blk_alloc ?_ _)); exact BK286.out) hb)
              have n2_ := Aside0.mk (blk_below (g := gb292) (o := .cells #[.int .i64 t289, .int .i64 t290] 25 (0, 0)) (by (with_reducible repeat (first | refine blk_drewN ?_ _ | refine blk_drew ?_ | refine blk_alloc ?_ _)); exact BK292.out) hb)
              have n3_ := Aside0.mk (below_step (by repeat (first | (with_reducible first | exact HB.out | apply below_alloc | apply pw_below_drewN | apply below_drew1 | refine below_set ?_ GE280.out | refine below_set ?_ GE286.out | refine below_set ?_ GE292.out) | exact HB.out)) hb)
              have n4_ := Aside0.mk (hbox)
              have n5_ := Aside0.mk ((by rw [hg]; exact (below_size (by repeat (first | (with_reducible first | exact HB.out | apply below_alloc | apply pw_below_drewN | apply below_drew1 | refine below_set ?_ GE280.out | refine below_set ?_ GE286.out | refine below_set ?_ GE292.out) | exact HB.out))) : w.heap.size ≤ gb298))
              have n6_ := Aside0.mk ((by rw [hg]; exact (below_size (by repeat (first | (with_reducible first | exact HB.out | apply below_alloc | apply pw_below_drewN | apply below_drew1 | refine below_set ?_ GE280.out | refine below_set ?_ GE286.out | refine below_set ?_ GE292.out) | exact HB.out))) : w.heap.size ≤ gb298))
              have n7_ := Aside0.mk ((by rw [hg]; exact Nat.ne_of_lt (blk_lt (g := gb280) (o := .cells #[.int .i64 a0_0, .int .i64 a0_1, .int .i64 a0_2, .int .i64 a0_3, .int .i64 a0_4] 32 (0, 0)) (by (with_reducible repeat (first | refine blk_drewN ?_ _ | refine blk_drew ?_ | refine blk_alloc ?_ _)); exact BK280.out)) : gb280 ≠ gb298))
              have n8_ := Aside0.mk ((by rw [hg]; exact Nat.ne_of_gt (blk_lt (g := gb280) (o := .cells #[.int .i64 a0_0, .int .i64 a0_1, .int .i64 a0_2, .int .i64 a0_3, .int .i64 a0_4] 32 (0, 0)) (by (with_reducible repeat (first | refine blk_drewN ?_ _ | refine blk_drew ?_ | refine blk_alloc ?_ _)); exact BK280.out)) : gb298 ≠ gb280))
              have n9_ := Aside0.mk ((by rw [hg]; exact Nat.ne_of_lt (blk_lt (g := gb286) (o := .cells #[.int .i64 t283, .int .i64 t284] 25 (0, 0)) (by (with_reducible repeat (first | refine blk_drewN ?_ _ | refine blk_drew ?_ | refine blk_alloc ?_ _)); exact BK286.out)) : gb286 ≠ gb298))
              have n10_ := Aside0.mk ((by rw [hg]; exact Nat.ne_of_gt (blk_lt (g := gb286) (o := .cells #[.int .i64 t283, .int .i64 t284] 25 (0, 0)) (by (with_reducible repeat (first | refine blk_drewN ?_ _ | refine blk_drew ?_ | refine blk_alloc ?_ _)); exact BK286.out)) : gb298 ≠ gb286))
              have n11_ := Aside0.mk ((by rw [hg]; exact Nat.ne_of_lt (blk_lt (g := gb292) (o := .cells #[.int .i64 t289, .int .i64 t290] 25 (0, 0)) (by (with_reducible repeat (first | refine blk_drewN ?_ _ | refine blk_drew ?_ | refine blk_alloc ?_ _)); exact BK292.out)) : gb292 ≠ gb298))
              have n12_ := Aside0.mk ((by rw [hg]; exact Nat.ne_of_gt (blk_lt (g := gb292) (o := .cells #[.int .i64 t289, .int .i64 t290] 25 (0, 0)) (by (with_reducible repeat (first | refine blk_drewN ?_ _ | refine blk_drew ?_ | refine blk_alloc ?_ _)); exact BK292.out)) : gb298 ≠ gb292))
              clear BK280
              clear BK286
              clear BK292
              clear HB
              have BK280 := n0_
              have BK286 := n1_
              have BK292 := n2_
              have HB := n3_
              have BK298 := n4_
              have GW298 := n5_
              have GE298 := n6_
              have NB280_298 := n7_
              have NB298_280 := n8_
              have NB286_298 := n9_
              have NB298_286 := n10_
              have NB292_298 := n11_
              have NB298_292 := n12_
              clear n0_ n1_ n2_ n3_ n4_ n5_ n6_ n7_ n8_ n9_ n10_ n11_ n12_
              clear hb hbox hg
              refine hK.out _ _ ⟨(blk_cell BK280.out 0).trans rfl, (blk_cell BK280.out 1).trans rfl, (blk_cell BK280.out 2).trans rfl, (blk_cell BK280.out 3).trans rfl, (blk_cell BK280.out 4).trans rfl⟩ (fun hHeld => ?_)
              clear hK K
              refine norm_ (a' := ?_) ?_ ?_
              rotate_left
              ·show Act.put _ (some 21) _ = _
               simp only [Act.put, List.setIfInBounds_toArray, List.set_cons_zero, List.set_cons_succ, i64_w, i32_w]
               rfl
              exact norm_ (by simp only [putAll, Act.put, List.setIfInBounds_toArray, List.set_cons_zero, List.set_cons_succ]) (hCont (gb298) _ ⟨hHeld, (by (with_reducible repeat (first | refine blk_drewN ?_ _ | refine blk_drew ?_ | refine blk_alloc ?_ _)); exact BK280.out), (by (with_reducible repeat (first | refine blk_drewN ?_ _ | refine blk_drew ?_ | refine blk_alloc ?_ _)); exact BK286.out), (by (with_reducible repeat (first | refine blk_drewN ?_ _ | refine blk_drew ?_ | refine blk_alloc ?_ _)); exact BK292.out), (by (with_reducible repeat (first | refine blk_drewN ?_ _ | refine blk_drew ?_ | refine blk_alloc ?_ _)); exact BK298.out), GW298.out, GE298.out, NB280_298.out, NB298_280.out, NB286_298.out, NB298_286.out, NB292_298.out, NB298_292.out, (by repeat (first | (with_reducible first | exact HB.out | apply below_alloc | apply pw_below_drewN | apply below_drew1 | refine below_set ?_ GE280.out | refine below_set ?_ GE286.out | refine below_set ?_ GE292.out | refine below_set ?_ GE298.out) | exact HB.out))⟩)
             ·skip
              refine box_step ?hg (N := 21) ?hd (cs := #[.int .i64 0, .int .i64 0]) (t := 25) ?hr ?_; (case hd => rfl); (case hg => rfl); (case hr => first | (go_simp; done) | (go_simp; rfl))
              intro gb298 hg w52 hbox hb
              have n0_ := Aside0.mk (blk_below (g := gb280) (o := .cells #[.int .i64 a0_0, .int .i64 a0_1, .int .i64 a0_2, .int .i64 a0_3, .int .i64 a0_4] 32 (0, 0)) (by (with_reducible repeat (first | refine blk_drewN ?_ _ | refine blk_drew ?_ | refine blk_alloc ?_ _)); exact BK280.out) hb)
              have n1_ := Aside0.mk (blk_below (g := gb286) (o := .cells #[.int .i64 t283, .int .i64 t284] 25 (0, 0)) (by (with_reducible repeat (first | refine blk_drewN ?_ _ | refine blk_drew ?_ | refine blk_alloc ?_ _)); exact BK286.out) hb)
              have n2_ := Aside0.mk (blk_below (g := gb292) (o := .cells #[.int .i64 t289, .int .i64 t290] 25 (0, 0)) (by (with_reducible repeat (first | refine blk_drewN ?_ _ | refine blk_drew ?_ | refine blk_alloc ?_ _)); exact BK292.out) hb)
              have n3_ := Aside0.mk (below_step (by repeat (first | (with_reducible first | exact HB.out | apply below_alloc | apply pw_below_drewN | apply below_drew1 | refine below_set ?_ GE280.out | refine below_set ?_ GE286.out | refine below_set ?_ GE292.out) | exact HB.out)) hb)
              have n4_ := Aside0.mk (hbox)
              have n5_ := Aside0.mk ((by rw [hg]; exact (below_size (by repeat (first | (with_reducible first | exact HB.out | apply below_alloc | apply pw_below_drewN | apply below_drew1 | refine below_set ?_ GE280.out | refine below_set ?_ GE286.out | refine below_set ?_ GE292.out) | exact HB.out))) : w.heap.size ≤ gb298))
              have n6_ := Aside0.mk ((by rw [hg]; exact (below_size (by repeat (first | (with_reducible first | exact HB.out | apply below_alloc | apply pw_below_drewN | apply below_drew1 | refine below_set ?_ GE280.out | refine below_set ?_ GE286.out | refine below_set ?_ GE292.out) | exact HB.out))) : w.heap.size ≤ gb298))
              have n7_ := Aside0.mk ((by rw [hg]; exact Nat.ne_of_lt (blk_lt (g := gb280) (o := .cells #[.int .i64 a0_0, .int .i64 a0_1, .int .i64 a0_2, .int .i64 a0_3, .int .i64 a0_4] 32 (0, 0)) (by (with_reducible repeat (first | refine blk_drewN ?_ _ | refine blk_drew ?_ | refine blk_alloc ?_ _)); exact BK280.out)) : gb280 ≠ gb298))
              have n8_ := Aside0.mk ((by rw [hg]; exact Nat.ne_of_gt (blk_lt (g := gb280) (o := .cells #[.int .i64 a0_0, .int .i64 a0_1, .int .i64 a0_2, .int .i64 a0_3, .int .i64 a0_4] 32 (0, 0)) (by (with_reducible repeat (first | refine blk_drewN ?_ _ | refine blk_drew ?_ | refine blk_alloc ?_ _)); exact BK280.out)) : gb298 ≠ gb280))
              have n9_ := Aside0.mk ((by rw [hg]; exact Nat.ne_of_lt (blk_lt (g := gb286) (o := .cells #[.int .i64 t283, .int .i64 t284] 25 (0, 0)) (by (with_reducible repeat (first | refine blk_drewN ?_ _ | refine blk_drew ?_ | refine blk_alloc ?_ _)); exact BK286.out)) : gb286 ≠ gb298))
              have n10_ := Aside0.mk ((by rw [hg]; exact Nat.ne_of_gt (blk_lt (g := gb286) (o := .cells #[.int .i64 t283, .int .i64 t284] 25 (0, 0)) (by (with_reducible repeat (first | refine blk_drewN ?_ _ | refine blk_drew ?_ | refine blk_alloc ?_ _)); exact BK286.out)) : gb298 ≠ gb286))
              have n11_ := Aside0.mk ((by rw [hg]; exact Nat.ne_of_lt (blk_lt (g := gb292) (o := .cells #[.int .i64 t289, .int .i64 t290] 25 (0, 0)) (by (with_reducible repeat (first | refine blk_drewN ?_ _ | refine blk_drew ?_ | refine blk_alloc ?_ _)); exact BK292.out)) : gb292 ≠ gb298))
              have n12_ := Aside0.mk ((by rw [hg]; exact Nat.ne_of_gt (blk_lt (g := gb292) (o := .cells #[.int .i64 t289, .int .i64 t290] 25 (0, 0)) (by (with_reducible repeat (first | refine blk_drewN ?_ _ | refine blk_drew ?_ | refine blk_alloc ?_ _)); exact BK292.out)) : gb298 ≠ gb292))
              clear BK280
              clear BK286
              clear BK292
              clear HB
              have BK280 := n0_
              have BK286 := n1_
              have BK292 := n2_
              have HB := n3_
              have BK298 := n4_
              have GW298 := n5_
              have GE298 := n6_
              have NB280_298 := n7_
              have NB298_280 := n8_
              have NB286_298 := n9_
              have NB298_286 := n10_
              have NB292_298 := n11_
              have NB298_292 := n12_
              clear n0_ n1_ n2_ n3_ n4_ n5_ n6_ n7_ n8_ n9_ n10_ n11_ n12_
              clear hb hbox hg
              refine hK.out _ _ ⟨(blk_cell BK280.out 0).trans rfl, (blk_cell BK280.out 1).trans rfl, (blk_cell BK280.out 2).trans rfl, (blk_cell BK280.out 3).trans rfl, (blk_cell BK280.out 4).trans rfl⟩ (fun hHeld => ?_)
              clear hK K
              refine norm_ (a' := ?_) ?_ ?_
              rotate_left
              ·show Act.put _ (some 21) _ = _
               simp only [Act.put, List.setIfInBounds_toArray, List.set_cons_zero, List.set_cons_succ, i64_w, i32_w]
               rfl
              refine one_ (i := 10) (N := some 88) #[true, true, true, true, true, true, true, true, true, true, true, false, false, false, false, true, false, false, false] rfl rfl (one_of HT_.out (by kernel_rfl)) (by decide) (fun K hK => ?_)
              refine goes_ Try.func23 (by kernel_rfl) rfl #[.agg #[.int .i64 a0_0, .int .i64 a0_1, .int .i64 a0_2, .int .i64 a0_3, .int .i64 a0_4], .int .i64 a1, .int .u16 t288, .int .u64 (IntKind.u64.wrap (a3 + (IntKind.u64.wrap (ji23)))), .slice A51 (l4.drop ((ji23) : Int).toNat).length (c4 - (ji23).toNat)] (by rfl) rfl rfl (by (try simp only [List.map_toArray, List.map_cons, List.map_nil]); first | done | (rw [show (l4.drop ((ji23) : Int).toNat).length = (l4.length - (ji23).toNat) from List.length_drop] <;> rfl) | (simp only [hji23]; rfl) | rfl | (simp only [List.length_drop, List.length_take]; rfl)) ?_
              with_reducible refine (member_Round.calls k a0_0 a0_1 a0_2 a0_3 a0_4 a1 t288 (IntKind.u64.wrap (a3 + (IntKind.u64.wrap (ji23)))) _ _ (l4.drop ((ji23) : Int).toNat) t294 t295 t296 t297 _ ?side1 ?side2 A29.out).mono ?_
              (case side1 => repeat (first | exact (Kd.C_below HR293.out HB.out) | (with_reducible refine Kd.C_alloc ?_ _) | (with_reducible refine Kd.C_drewN ?_ _) | (with_reducible refine Kd.C_drew ?_)))
              (case side2 => exact HC293.out)
              rintro e w53 ⟨rfl, hb⟩
              refine ⟨_, rfl, ?_⟩
              have n0_ := Aside0.mk (blk_below (g := gb280) (o := .cells #[.int .i64 a0_0, .int .i64 a0_1, .int .i64 a0_2, .int .i64 a0_3, .int .i64 a0_4] 32 (0, 0)) (by (with_reducible repeat (first | refine blk_drewN ?_ _ | refine blk_drew ?_ | refine blk_alloc ?_ _)); exact BK280.out) hb)
              have n1_ := Aside0.mk (blk_below (g := gb286) (o := .cells #[.int .i64 t283, .int .i64 t284] 25 (0, 0)) (by (with_reducible repeat (first | refine blk_drewN ?_ _ | refine blk_drew ?_ | refine blk_alloc ?_ _)); exact BK286.out) hb)
              have n2_ := Aside0.mk (blk_below (g := gb292) (o := .cells #[.int .i64 t289, .int .i64 t290] 25 (0, 0)) (by (with_reducible repeat (first | refine blk_drewN ?_ _ | refine blk_drew ?_ | refine blk_alloc ?_ _)); exact BK292.out) hb)
              have n3_ := Aside0.mk (blk_below (g := gb298) (o := .cells #[.int .i64 0, .int .i64 0] 25 (0, 0)) (by (with_reducible repeat (first | refine blk_drewN ?_ _ | refine blk_drew ?_ | refine blk_alloc ?_ _)); exact BK298.out) hb)
              have n4_ := Aside0.mk (below_step (by repeat (first | (with_reducible first | exact HB.out | apply below_alloc | apply pw_below_drewN | apply below_drew1 | refine below_set ?_ GE280.out | refine below_set ?_ GE286.out | refine below_set ?_ GE292.out | refine below_set ?_ GE298.out) | exact HB.out)) hb)
              clear BK280
              clear BK286
              clear BK292
              clear BK298
              clear HB
              have BK280 := n0_
              have BK286 := n1_
              have BK292 := n2_
              have BK298 := n3_
              have HB := n4_
              clear n0_ n1_ n2_ n3_ n4_
              (try clear hb)
              (try clear hb2)
              (try clear hk)
              (try clear hi)
              refine hK.out _ _ ⟨(blk_cell BK280.out 0).trans rfl, (blk_cell BK280.out 1).trans rfl, (blk_cell BK280.out 2).trans rfl, (blk_cell BK280.out 3).trans rfl, (blk_cell BK280.out 4).trans rfl⟩ (fun hHeld => ?_)
              clear hK K
              refine norm_ (a' := ?_) ?_ ?_
              rotate_left
              ·show Act.put _ (some 88) _ = _
               simp only [Act.put, List.setIfInBounds_toArray, List.set_cons_zero, List.set_cons_succ, i64_w, i32_w]
               rfl
              refine pure_ (i := 11) (N := some 77) (v := ?_) (a' := ?_) #[true, true, true, true, true, true, true, true, true, true, true, true, false, false, false, true, false, false, false] rfl rfl (any_of HT_.out (by kernel_rfl)) (fun _ _ _ h => h) (Or.inl ⟨by rfl, ?_⟩) ?_ ?_
              rotate_left
              ·intro w'
               go_simp
               with_reducible rfl
              rotate_left
              ·simp only [Act.put, List.setIfInBounds_toArray, List.set_cons_zero, List.set_cons_succ, i64_w, i32_w]
               rfl
              refine pure_ (i := 12) (N := some 89) (v := ?_) (a' := ?_) #[true, true, true, true, true, true, true, true, true, true, true, true, true, false, false, true, false, false, false] rfl rfl (any_of HT_.out (by kernel_rfl)) (fun _ _ _ h => h) (Or.inl ⟨by rfl, ?_⟩) ?_ ?_
              rotate_left
              ·intro w'
               go_simp
               with_reducible rfl
              rotate_left
              ·simp only [Act.put, List.setIfInBounds_toArray, List.set_cons_zero, List.set_cons_succ, i64_w, i32_w]
               rfl
              refine pure_ (i := 13) (N := some 90) (v := ?_) (a' := ?_) #[true, true, true, true, true, true, true, true, true, true, true, true, true, true, false, true, false, false, false] rfl rfl (any_of HT_.out (by kernel_rfl)) (fun _ _ _ h => h) (Or.inl ⟨by rfl, ?_⟩) ?_ ?_
              rotate_left
              ·intro w'
               go_simp
               with_reducible rfl
              rotate_left
              ·simp only [Act.put, List.setIfInBounds_toArray, List.set_cons_zero, List.set_cons_succ, i64_w, i32_w]
               rfl
              refine pure_ (i := 14) (N := some 91) (v := ?_) (a' := ?_) #[true, true, true, true, true, true, true, true, true, true, true, true, true, true, true, true, false, false, false] rfl rfl (any_of HT_.out (by kernel_rfl)) (fun _ _ _ h => h) (Or.inl ⟨by rfl, ?_⟩) ?_ ?_
              rotate_left
              ·intro w'
               go_simp
               with_reducible rfl
              rotate_left
              ·simp only [Act.put, List.setIfInBounds_toArray, List.set_cons_zero, List.set_cons_succ, i64_w, i32_w]
               rfl
              exact norm_ (by simp only [putAll, Act.put, List.setIfInBounds_toArray, List.set_cons_zero, List.set_cons_succ]) (hCont (gb298) _ ⟨hHeld, (by (with_reducible repeat (first | refine blk_drewN ?_ _ | refine blk_drew ?_ | refine blk_alloc ?_ _)); exact BK280.out), (by (with_reducible repeat (first | refine blk_drewN ?_ _ | refine blk_drew ?_ | refine blk_alloc ?_ _)); exact BK286.out), (by (with_reducible repeat (first | refine blk_drewN ?_ _ | refine blk_drew ?_ | refine blk_alloc ?_ _)); exact BK292.out), (by (with_reducible repeat (first | refine blk_drewN ?_ _ | refine blk_drew ?_ | refine blk_alloc ?_ _)); exact BK298.out), GW298.out, GE298.out, NB280_298.out, NB298_280.out, NB286_298.out, NB298_286.out, NB292_298.out, NB298_292.out, (by repeat (first | (with_reducible first | exact HB.out | apply below_alloc | apply pw_below_drewN | apply below_drew1 | refine below_set ?_ GE280.out | refine below_set ?_ GE286.out | refine below_set ?_ GE292.out | refine below_set ?_ GE298.out) | exact HB.out))⟩)
            rintro gb298 w54 ⟨hS_, h0_, h1_, h2_, h3_, h4_, h5_, h6_, h7_, h8_, h9_, h10_, h11_, h12_⟩
            have n0_ : Aside0 (w54.heap[gb280]? = some (.cells #[.int .i64 a0_0, .int .i64 a0_1, .int .i64 a0_2, .int .i64 a0_3, .int .i64 a0_4] 32 (0, 0))) := ⟨h0_⟩
            have n1_ : Aside0 (w54.heap[gb286]? = some (.cells #[.int .i64 t283, .int .i64 t284] 25 (0, 0))) := ⟨h1_⟩
            have n2_ : Aside0 (w54.heap[gb292]? = some (.cells #[.int .i64 t289, .int .i64 t290] 25 (0, 0))) := ⟨h2_⟩
            have n3_ : Aside0 (w54.heap[gb298]? = some (.cells #[.int .i64 0, .int .i64 0] 25 (0, 0))) := ⟨h3_⟩
            have n4_ : Aside0 (w.heap.size ≤ gb298) := ⟨h4_⟩
            have n5_ : Aside0 (w.heap.size ≤ gb298) := ⟨h5_⟩
            have n6_ : Aside0 (gb280 ≠ gb298) := ⟨h6_⟩
            have n7_ : Aside0 (gb298 ≠ gb280) := ⟨h7_⟩
            have n8_ : Aside0 (gb286 ≠ gb298) := ⟨h8_⟩
            have n9_ : Aside0 (gb298 ≠ gb286) := ⟨h9_⟩
            have n10_ : Aside0 (gb292 ≠ gb298) := ⟨h10_⟩
            have n11_ : Aside0 (gb298 ≠ gb292) := ⟨h11_⟩
            have n12_ : Aside0 (Below w.heap.size w w54) := ⟨h12_⟩
            clear BK280
            clear BK286
            clear BK292
            clear HB
            clear h0_ h1_ h2_ h3_ h4_ h5_ h6_ h7_ h8_ h9_ h10_ h11_ h12_
            have BK280 := n0_
            have BK286 := n1_
            have BK292 := n2_
            have BK298 := n3_
            have GW298 := n4_
            have GE298 := n5_
            have NB280_298 := n6_
            have NB298_280 := n7_
            have NB286_298 := n8_
            have NB298_286 := n9_
            have NB292_298 := n10_
            have NB298_292 := n11_
            have HB := n12_
            clear n0_ n1_ n2_ n3_ n4_ n5_ n6_ n7_ n8_ n9_ n10_ n11_ n12_
            have hHeld : w54.cell? ⟨gb280, 0, none⟩ = some (.int .i64 a0_0) ∧ w54.cell? ⟨gb280, 1, none⟩ = some (.int .i64 a0_1) ∧ w54.cell? ⟨gb280, 2, none⟩ = some (.int .i64 a0_2) ∧ w54.cell? ⟨gb280, 3, none⟩ = some (.int .i64 a0_3) ∧ w54.cell? ⟨gb280, 4, none⟩ = some (.int .i64 a0_4) := hS_
            refine norm_ (a' := ?_) ?_ ?_
            rotate_left
            ·simp only [putAll, Act.put, List.setIfInBounds_toArray, List.set_cons_zero, List.set_cons_succ]
             rfl
            refine pure_ (i := 16) (N := some 20) (v := ?_) (a' := ?_) #[true, true, true, true, true, true, true, true, true, true, true, true, true, true, true, true, true, false, false] rfl rfl (any_of HT_.out (by kernel_rfl)) (fun _ _ _ h => h) (Or.inl ⟨by rfl, ?_⟩) ?_ ?_
            rotate_left
            ·intro w'
             go_simp
             with_reducible rfl
            rotate_left
            ·simp only [Act.put, List.setIfInBounds_toArray, List.set_cons_zero, List.set_cons_succ, i64_w, i32_w]
             rfl
            refine one_ (i := 17) (N := none) #[true, true, true, true, true, true, true, true, true, true, true, true, true, true, true, true, true, true, false] rfl rfl (one_of HT_.out (by kernel_rfl)) (by decide) (fun K hK => ?_)
            have hs55 : w54.cell? ⟨gb298, 0, none⟩ = some (.int .i64 0) := (blk_cell BK298.out 0).trans rfl
            have hfs55 := blk_frozen BK298.out 0
            have hns55_0 := NB280_298.out
            have hns55_1 := NB286_298.out
            have hns55_2 := NB292_298.out
            have hms55_0 := NB298_280.out
            have hms55_1 := NB298_286.out
            have hms55_2 := NB298_292.out
            have hs56 : w54.cell? ⟨gb298, 1, none⟩ = some (.int .i64 0) := (blk_cell BK298.out 1).trans rfl
            have hfs56 := blk_frozen BK298.out 1
            have hns56_0 := NB280_298.out
            have hns56_1 := NB286_298.out
            have hns56_2 := NB292_298.out
            have hms56_0 := NB298_280.out
            have hms56_1 := NB298_286.out
            have hms56_2 := NB298_292.out
            refine skip_ (w1 := ?_) (by rfl) rfl ?_ ?_
            rotate_left
            ·go_simp
             rfl
            refine hK.out _ _ ⟨((cell_far (p := ⟨gb298, _, none⟩) NB280_298.out _).trans (((cell_far (p := ⟨gb298, _, none⟩) NB280_298.out _).trans (hHeld.1)))), ((cell_far (p := ⟨gb298, _, none⟩) NB280_298.out _).trans (((cell_far (p := ⟨gb298, _, none⟩) NB280_298.out _).trans (hHeld.2.1)))), ((cell_far (p := ⟨gb298, _, none⟩) NB280_298.out _).trans (((cell_far (p := ⟨gb298, _, none⟩) NB280_298.out _).trans (hHeld.2.2.1)))), ((cell_far (p := ⟨gb298, _, none⟩) NB280_298.out _).trans (((cell_far (p := ⟨gb298, _, none⟩) NB280_298.out _).trans (hHeld.2.2.2.1)))), ((cell_far (p := ⟨gb298, _, none⟩) NB280_298.out _).trans (((cell_far (p := ⟨gb298, _, none⟩) NB280_298.out _).trans (hHeld.2.2.2.2))))⟩ (fun hHeld => ?_)
            clear hK K
            refine pure_ (i := 18) (N := some 22) (v := ?_) (a' := ?_) #[true, true, true, true, true, true, true, true, true, true, true, true, true, true, true, true, true, true, true] rfl rfl (any_of HT_.out (by kernel_rfl)) (fun _ _ _ h => h) (Or.inl ⟨by rfl, ?_⟩) ?_ ?_
            rotate_left
            ·intro w'
             go_simp
             with_reducible rfl
            rotate_left
            ·simp only [Act.put, List.setIfInBounds_toArray, List.set_cons_zero, List.set_cons_succ, i64_w, i32_w]
             rfl
            refine done_ (done_of HT_.out (by kernel_rfl)) ?_
            have hnb57 := NB292_280.out
            have hnc57 := NB280_292.out
            have hnb58 := NB292_286.out
            have hnc58 := NB286_292.out
            have hnb59 := NB292_298.out
            have hnc59 := NB298_292.out
            have hcz60_0 : w54.cell? ⟨gb292, 0, none⟩ = some (.int .i64 t289) := (blk_cell BK292.out 0).trans rfl
            have hcz60_1 : w54.cell? ⟨gb292, 1, none⟩ = some (.int .i64 t290) := (blk_cell BK292.out 1).trans rfl
            have hfz60_0 := blk_frozen BK292.out 0
            have hfz60_1 := blk_frozen BK292.out 1
            have hnb61 := NB298_280.out
            have hnc61 := NB280_298.out
            have hnb62 := NB298_286.out
            have hnc62 := NB286_298.out
            have hcz63_0 : w54.cell? ⟨gb298, 0, none⟩ = some (.int .i64 0) := (blk_cell BK298.out 0).trans rfl
            have hcz63_1 : w54.cell? ⟨gb298, 1, none⟩ = some (.int .i64 0) := (blk_cell BK298.out 1).trans rfl
            have hfz63_0 := blk_frozen BK298.out 0
            have hfz63_1 := blk_frozen BK298.out 1
            have hcz64_0 : w54.cell? ⟨gb286, 0, none⟩ = some (.int .i64 t283) := (blk_cell BK286.out 0).trans rfl
            have hcz64_1 : w54.cell? ⟨gb286, 1, none⟩ = some (.int .i64 t284) := (blk_cell BK286.out 1).trans rfl
            have hfz64_0 := blk_frozen BK286.out 0
            have hfz64_1 := blk_frozen BK286.out 1
            try go_wp2
            go_ret
            exact ⟨by first | rfl | (simp [errW_none, errW_some] <;> rfl) | (simp only [← hji23]; first | rfl | (simp [errW_none, errW_some] <;> rfl)) | (simp [*, errW_none, errW_some] <;> rfl), by repeat (first | (with_reducible first | exact HB.out | apply below_alloc | apply pw_below_drewN | apply below_drew1 | refine below_set ?_ GE280.out | refine below_set ?_ GE286.out | refine below_set ?_ GE292.out | refine below_set ?_ GE298.out) | exact HB.out)⟩
           ·rw [if_neg c33] at H
            have c33b0 : ((wrap64 (t289 + t295)) == t283) = false := beq_eq_false_iff_ne.mpr c33
            have c33b1 : ((wrap64 (t289 + t295)) != t283) = true := bne_iff_ne.mpr c33
            obtain rfl := Option.some.inj H
            exact absurd hr_.out (by decide)
          ·rw [if_neg c32] at H
           have c32b0 : (t294 == t282) = false := beq_eq_false_iff_ne.mpr c32
           have c32b1 : (t294 != t282) = true := bne_iff_ne.mpr c32
           obtain rfl := Option.some.inj H
           exact absurd hr_.out (by decide)
         ·rw [if_neg c31] at H
          have c31b0 : (t297 == 0) = false := beq_eq_false_iff_ne.mpr c31
          have c31b1 : (t297 != 0) = true := bne_iff_ne.mpr c31
          obtain rfl := Option.some.inj H
          exact absurd hr_.out (by decide)
        ·rw [if_neg c30] at H
         have c30b0 : (t291 == 0) = false := beq_eq_false_iff_ne.mpr c30
         have c30b1 : (t291 != 0) = true := bne_iff_ne.mpr c30
         obtain rfl := Option.some.inj H
         exact absurd hr_.out (by decide)
       ·rw [if_neg c25] at H
        exact absurd H (by simp)
      ·rw [if_neg c24] at H
       exact absurd H (by simp)
    ·rw [if_neg c14] at H
     have c14b0 : (t285 == 0) = false := beq_eq_false_iff_ne.mpr c14
     have c14b1 : (t285 != 0) = true := bne_iff_ne.mpr c14
     obtain rfl := Option.some.inj H
     go_enter Try.func8, Try.ntmps8
     go_wp2_with (first | ((with_reducible refine gate_dst (N := 6) rfl ?_); refine box_event ?hg (N := 6) ?hd (cs := #[.int .i64 a0_0, .int .i64 a0_1, .int .i64 a0_2, .int .i64 a0_3, .int .i64 a0_4]) (t := 32) ?hr ?_; (case hd => rfl); (case hg => rfl); (case hr => first | (go_simp; done) | (go_simp; rfl)); intro gb280 hg w65 hbox hb; have n0_ := Aside0.mk (below_step (by repeat (first | (with_reducible first | exact HB.out | apply below_alloc | apply pw_below_drewN | apply below_drew1) | exact HB.out)) hb); have n1_ := Aside0.mk (hbox); have n2_ := Aside0.mk ((by rw [hg]; exact (below_size (by repeat (first | (with_reducible first | exact HB.out | apply below_alloc | apply pw_below_drewN | apply below_drew1) | exact HB.out))) : w.heap.size ≤ gb280)); have n3_ := Aside0.mk ((by rw [hg]; exact (below_size (by repeat (first | (with_reducible first | exact HB.out | apply below_alloc | apply pw_below_drewN | apply below_drew1) | exact HB.out))) : w.heap.size ≤ gb280)); clear HB; have HB := n0_; have BK280 := n1_; have GW280 := n2_; have GE280 := n3_; clear n0_ n1_ n2_ n3_; clear hb hbox hg) | ((with_reducible refine gate_callee (f := 10) rfl ?_); refine goesL_ (some 23) rfl rfl Try.func10 (by kernel_rfl) rfl #[] rfl (by (try simp only [List.map_toArray, List.map_cons, List.map_nil]); first | done | rfl | (simp only [List.length_drop, List.length_take]; rfl)) ?_; (with_reducible refine (palletlaw10_live.calls k  true _ A7.out).mono ?_); rintro e w66 ⟨rfl, hb⟩; refine ⟨_, rfl, ?_⟩; have n0_ := Aside0.mk (blk_below (g := gb280) (o := .cells #[.int .i64 a0_0, .int .i64 a0_1, .int .i64 a0_2, .int .i64 a0_3, .int .i64 a0_4] 32 (0, 0)) (by (with_reducible repeat (first | refine blk_drewN ?_ _ | refine blk_drew ?_ | refine blk_alloc ?_ _)); exact BK280.out) hb); have n1_ := Aside0.mk (below_step (by repeat (first | (with_reducible first | exact HB.out | apply below_alloc | apply pw_below_drewN | apply below_drew1 | refine below_set ?_ GE280.out) | exact HB.out)) hb); clear BK280; clear HB; have BK280 := n0_; have HB := n1_; clear n0_ n1_; (try clear hb); (try clear hb2); (try clear hk); (try clear hi); have hcz67_0 : w66.cell? ⟨gb280, 0, none⟩ = some (.int .i64 a0_0) := (blk_cell BK280.out 0).trans rfl; have hcz67_1 : w66.cell? ⟨gb280, 1, none⟩ = some (.int .i64 a0_1) := (blk_cell BK280.out 1).trans rfl; have hcz67_2 : w66.cell? ⟨gb280, 2, none⟩ = some (.int .i64 a0_2) := (blk_cell BK280.out 2).trans rfl; have hcz67_3 : w66.cell? ⟨gb280, 3, none⟩ = some (.int .i64 a0_3) := (blk_cell BK280.out 3).trans rfl; have hcz67_4 : w66.cell? ⟨gb280, 4, none⟩ = some (.int .i64 a0_4) := (blk_cell BK280.out 4).trans rfl; have hfz67_0 := blk_frozen BK280.out 0; have hfz67_1 := blk_frozen BK280.out 1; have hfz67_2 := blk_frozen BK280.out 2; have hfz67_3 := blk_frozen BK280.out 3; have hfz67_4 := blk_frozen BK280.out 4) | ((with_reducible refine gate_callee (f := 23) rfl ?_); refine goesL_ (some 49) rfl rfl Try.func23 (by kernel_rfl) rfl #[.agg #[.int .i64 a0_0, .int .i64 a0_1, .int .i64 a0_2, .int .i64 a0_3, .int .i64 a0_4], .int .i64 a1, .int .u16 a2, .int .u64 a3, .slice A4 l4.length c4] rfl (by (try simp only [List.map_toArray, List.map_cons, List.map_nil]); first | done | rfl | (simp only [List.length_drop, List.length_take]; rfl)) ?_; (with_reducible refine (member_Round.calls k a0_0 a0_1 a0_2 a0_3 a0_4 a1 a2 a3 _ _ l4 t282 t283 t284 t285 _ ?side1 ?side2 A13.out).mono ?_); (case side1 => repeat (first | exact (Kd.C_below HR4.out HB.out) | (with_reducible refine Kd.C_alloc ?_ _) | (with_reducible refine Kd.C_drewN ?_ _) | (with_reducible refine Kd.C_drew ?_))); (case side2 => exact HC4.out); rintro e w68 ⟨rfl, hb⟩; refine ⟨_, rfl, ?_⟩; have n0_ := Aside0.mk (blk_below (g := gb280) (o := .cells #[.int .i64 a0_0, .int .i64 a0_1, .int .i64 a0_2, .int .i64 a0_3, .int .i64 a0_4] 32 (0, 0)) (by (with_reducible repeat (first | refine blk_drewN ?_ _ | refine blk_drew ?_ | refine blk_alloc ?_ _)); exact BK280.out) hb); have n1_ := Aside0.mk (below_step (by repeat (first | (with_reducible first | exact HB.out | apply below_alloc | apply pw_below_drewN | apply below_drew1 | refine below_set ?_ GE280.out) | exact HB.out)) hb); clear BK280; clear HB; have BK280 := n0_; have HB := n1_; clear n0_ n1_; (try clear hb); (try clear hb2); (try clear hk); (try clear hi)) | ((with_reducible refine gate_dst (N := 15) rfl ?_); refine box_event ?hg (N := 15) ?hd (cs := #[.int .i64 0, .int .i64 0]) (t := 25) ?hr ?_; (case hd => rfl); (case hg => rfl); (case hr => first | (go_simp; done) | (go_simp; rfl)); intro gb286 hg w69 hbox hb; have n0_ := Aside0.mk (blk_below (g := gb280) (o := .cells #[.int .i64 a0_0, .int .i64 a0_1, .int .i64 a0_2, .int .i64 a0_3, .int .i64 a0_4] 32 (0, 0)) (by (with_reducible repeat (first | refine blk_drewN ?_ _ | refine blk_drew ?_ | refine blk_alloc ?_ _)); exact BK280.out) hb); have n1_ := Aside0.mk (below_step (by repeat (first | (with_reducible first | exact HB.out | apply below_alloc | apply pw_below_drewN | apply below_drew1 | refine below_set ?_ GE280.out) | exact HB.out)) hb); have n2_ := Aside0.mk (hbox); have n3_ := Aside0.mk ((by rw [hg]; exact (below_size (by repeat (first | (with_reducible first | exact HB.out | apply below_alloc | apply pw_below_drewN | apply below_drew1 | refine below_set ?_ GE280.out) | exact HB.out))) : w.heap.size ≤ gb286)); have n4_ := Aside0.mk ((by rw [hg]; exact (below_size (by repeat (first | (with_reducible first | exact HB.out | apply below_alloc | apply pw_below_drewN | apply below_drew1 | refine below_set ?_ GE280.out) | exact HB.out))) : w.heap.size ≤ gb286)); have n5_ := Aside0.mk ((by rw [hg]; exact Nat.ne_of_lt (blk_lt (g := gb280) (o := .cells #[.int .i64 a0_0, .int .i64 a0_1, .int .i64 a0_2, .int .i64 a0_3, .int .i64 a0_4] 32 (0, 0)) (by (with_reducible repeat (first | refine blk_drewN ?_ _ | refine blk_drew ?_ | refine blk_alloc ?_ _)); exact BK280.out)) : gb280 ≠ gb286)); have n6_ := Aside0.mk ((by rw [hg]; exact Nat.ne_of_gt (blk_lt (g := gb280) (o := .cells #[.int .i64 a0_0, .int .i64 a0_1, .int .i64 a0_2, .int .i64 a0_3, .int .i64 a0_4] 32 (0, 0)) (by (with_reducible repeat (first | refine blk_drewN ?_ _ | refine blk_drew ?_ | refine blk_alloc ?_ _)); exact BK280.out)) : gb286 ≠ gb280)); clear BK280; clear HB; have BK280 := n0_; have HB := n1_; have BK286 := n2_; have GW286 := n3_; have GE286 := n4_; have NB280_286 := n5_; have NB286_280 := n6_; clear n0_ n1_ n2_ n3_ n4_ n5_ n6_; clear hb hbox hg; have hnb70 := NB286_280.out; have hnc70 := NB280_286.out; have hcz71_0 : w69.cell? ⟨gb286, 0, none⟩ = some (.int .i64 0) := (blk_cell BK286.out 0).trans rfl; have hcz71_1 : w69.cell? ⟨gb286, 1, none⟩ = some (.int .i64 0) := (blk_cell BK286.out 1).trans rfl; have hfz71_0 := blk_frozen BK286.out 0; have hfz71_1 := blk_frozen BK286.out 1))
     go_ret
     exact ⟨by first | rfl | (simp [errW_none, errW_some] <;> rfl) | (simp [*, errW_none, errW_some] <;> rfl), by repeat (first | (with_reducible first | exact HB.out | apply below_alloc | apply pw_below_drewN | apply below_drew1 | refine below_set ?_ GE280.out | refine below_set ?_ GE286.out) | exact HB.out)⟩
 ·replace c8 := Bool.eq_false_iff.mpr c8
  subst c8
  have H1 : (some false) = some r := by rw [if_neg (show ¬ (false = true) by decide)] at H; exact H
  clear H
  have H := H1
  clear H1
  obtain rfl := Option.some.inj H
  exact absurd hr_.out (by decide)

end Go.Proofs.Ytcanccdhedmdmaa.Print
