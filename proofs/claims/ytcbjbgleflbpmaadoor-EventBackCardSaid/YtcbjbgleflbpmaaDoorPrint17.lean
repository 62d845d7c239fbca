-- PRINTED by print.py (a twelfth state) out of the translation. Not trusted: Lean checks it.
import Derived.Test.YtcbjbgleflbpmaaDoorPrint0
import Derived.Test.YtcbjbgleflbpmaaDoorPrint12
import Derived.Test.YtcbjbgleflbpmaaDoorPrint15
import Derived.Test.YtcbjbgleflbpmaaDoorPrint16
namespace Go.Proofs.YtcbjbgleflbpmaaDoor.Print
open Go.RowKit Go.Proofs.YtcbjbgleflbpmaaDoorW.PrintWords Go.Proofs.YtcbjbgleflbpmaaDoorW.PrintLast Go.Proofs.YtcbjbgleflbpmaaDoorW.PrintMore Go.Proofs.YtcbjbgleflbpmaaDoorX
attribute [local go_sem] str_lss str_geq max2_int min2_int max_two min_two max_three min_three max_four min_four   -- for this text's walks alone
set_option linter.unusedVariables false
set_option linter.unusedSimpArgs false

/-! ### palletref19_Write: function 16 -/
def palletref19_Write.f (k : Nat) (a0_0 : Int) (a0_1 : Int) (a0_2 : Int) (a0_3 : Int) (a0_4 : Int) : Option (List Int × Int) := (palletref19_One.f k a0_0 a0_1 a0_2 a0_3 a0_4).bind fun t335 => (if t335 = true then ((palletref02_Vary.f k ([] : List Int) (([IntKind.u64.wrap (a0_0), IntKind.u64.wrap (a0_2)] : List Int))).bind fun t339 => ((palletref02_Sign.f k t339 (([a0_3, a0_4] : List Int))).bind fun t345 => ((palletref02_Record.f k ([] : List Int) ((a0_1) % 256) t345).bind fun bt348 => (some (bt348.1, bt348.2))))) else (some (([] : List Int), 1)))
theorem palletref19_Write.mono : ∀ a0 a1 a2 a3 a4 k, LeO (palletref19_Write.f k a0 a1 a2 a3 a4) (palletref19_Write.f (k + 1) a0 a1 a2 a3 a4) := by
 intro a0 a1 a2 a3 a4 k
 unfold palletref19_Write.f
 repeat' first
   | (with_reducible exact palletref02_Record.mono _ _ _ _)
   | (with_reducible exact palletref02_Sign.mono _ _ _)
   | (with_reducible exact palletref02_Vary.mono _ _ _)
   | (with_reducible exact palletref19_One.mono _ _ _ _ _ _)
   | (with_reducible exact LeO.refl _)
   | (with_reducible exact LeO.none _)
   | (with_reducible refine LeO.ite ?_ ?_)
   | (with_reducible refine LeO.bind ?_ (fun _ => ?_))
   | exact palletref02_Record.mono _ _ _ _
   | exact palletref02_Sign.mono _ _ _
   | exact palletref02_Vary.mono _ _ _
   | exact palletref19_One.mono _ _ _ _ _ _
   | exact LeO.none _
   | refine LeO.ite ?_ ?_
   | refine LeO.bind ?_ (fun _ => ?_)
def palletref19_Write.T3 : Bool × List (List Nat × List Nat) := (true, [([], []), ([0], [0]), ([1], [1]), ([], []), ([3], [3]), ([4], [4]), ([2, 5], [2, 5]), ([6], [6]), ([], []), ([8], [8]), ([], []), ([10], [10]), ([9, 11], [9, 11]), ([7, 12, 7], [7, 12]), ([13, 13, 0, 1, 2, 3, 4, 5, 6, 7, 8, 9, 10, 11, 12, 13], [13])])
def palletref19_Write.B3 : List Nat := [0, 1, 3, 0, 8, 24, 63, 127, 0, 256, 0, 1024, 3840, 8191, 16383]
theorem palletref19_Write.tab3 : rtab .any (opsOf Tryd.f16 3) = palletref19_Write.T3 := by kernel_rfl
theorem palletref19_Write.bits3 : waitsOk palletref19_Write.T3.2 palletref19_Write.B3 = true := by kernel_rfl
set_option maxHeartbeats 8000000 in
set_option maxRecDepth 100000 in
theorem palletref19_Write.calls (k : Nat) (a0_0 : Int) (a0_1 : Int) (a0_2 : Int) (a0_3 : Int) (a0_4 : Int) (r1 : List Int) (r2 : Int) (w : World) (h : palletref19_Write.f k a0_0 a0_1 a0_2 a0_3 a0_4 = some (r1, r2)) :
  Calls Tryd.prog 16 #[.agg #[.int .i64 a0_0, .int .i64 a0_1, .int .i64 a0_2, .int .i64 a0_3, .int .i64 a0_4]] w fun e w' => ∃ v0_ : Value, e = .returned (.tuple #[v0_, .int .i64 r2]) ∧ Kd.R (Kd.int .u8) 5 w' w.heap.size (fun _ => True) v0_ r1 ∧ Below w.heap.size w w' := by
 have hu30 := Tryd.underlying30
 have HB := Aside0.mk (Below.refl w.heap.size w)
 have H : ((palletref19_One.f k a0_0 a0_1 a0_2 a0_3 a0_4).bind fun t335 => (if t335 = true then ((palletref02_Vary.f k ([] : List Int) (([IntKind.u64.wrap (a0_0), IntKind.u64.wrap (a0_2)] : List Int))).bind fun t339 => ((palletref02_Sign.f k t339 (([a0_3, a0_4] : List Int))).bind fun t345 => ((palletref02_Record.f k ([] : List Int) ((a0_1) % 256) t345).bind fun bt348 => (some (bt348.1, bt348.2))))) else (some (([] : List Int), 1)))) = some (r1, r2) := h
 clear h
 replace H := Option.bind_eq_some_iff.mp H
 obtain ⟨t335, A20, H⟩ := H
 replace H : (if t335 = true then ((palletref02_Vary.f k ([] : List Int) (([IntKind.u64.wrap (a0_0), IntKind.u64.wrap (a0_2)] : List Int))).bind fun t339 => ((palletref02_Sign.f k t339 (([a0_3, a0_4] : List Int))).bind fun t345 => ((palletref02_Record.f k ([] : List Int) ((a0_1) % 256) t345).bind fun bt348 => (some (bt348.1, bt348.2))))) else (some (([] : List Int), 1))) = some (r1, r2) := H
 have A2 := Aside0.mk A20
 clear A20
 by_cases c3 : t335 = true
 ·subst c3
  have H1 : ((palletref02_Vary.f k ([] : List Int) (([IntKind.u64.wrap (a0_0), IntKind.u64.wrap (a0_2)] : List Int))).bind fun t339 => ((palletref02_Sign.f k t339 (([a0_3, a0_4] : List Int))).bind fun t345 => ((palletref02_Record.f k ([] : List Int) ((a0_1) % 256) t345).bind fun bt348 => (some (bt348.1, bt348.2))))) = some (r1, r2) := by rw [if_pos rfl] at H; exact H
  clear H
  have H := H1
  clear H1
  obtain ⟨y336, hy336⟩ : ∃ y_ : List Int, y_ = (([IntKind.u64.wrap (a0_0), IntKind.u64.wrap (a0_2)] : List Int)) := ⟨_, rfl⟩
  replace H : ((palletref02_Vary.f k ([] : List Int) y336).bind fun t339 => ((palletref02_Sign.f k t339 (([a0_3, a0_4] : List Int))).bind fun t345 => ((palletref02_Record.f k ([] : List Int) ((a0_1) % 256) t345).bind fun bt348 => (some (bt348.1, bt348.2))))) = some (r1, r2) := by first | (rw [hy336]; with_reducible exact H) | (have H2_ := (Option.bind_some _ _).symm.trans H; rw [hy336]; with_reducible exact H2_) | (have H2_ := (Option.bind_some _ _).symm.trans H; with_reducible exact H2_) | with_reducible exact H | (rw [hy336]; exact H) | exact H
  have Ny336 := Aside0.mk hy336
  clear hy336
  replace H := Option.bind_eq_some_iff.mp H
  obtain ⟨t339, A40, H⟩ := H
  replace H : ((palletref02_Sign.f k t339 (([a0_3, a0_4] : List Int))).bind fun t345 => ((palletref02_Record.f k ([] : List Int) ((a0_1) % 256) t345).bind fun bt348 => (some (bt348.1, bt348.2)))) = some (r1, r2) := H
  have A4 := Aside0.mk A40
  clear A40
  obtain ⟨y342, hy342⟩ : ∃ y_ : List Int, y_ = (([a0_3, a0_4] : List Int)) := ⟨_, rfl⟩
  replace H : ((palletref02_Sign.f k t339 y342).bind fun t345 => ((palletref02_Record.f k ([] : List Int) ((a0_1) % 256) t345).bind fun bt348 => (some (bt348.1, bt348.2)))) = some (r1, r2) := by first | (rw [hy342]; with_reducible exact H) | (have H2_ := (Option.bind_some _ _).symm.trans H; rw [hy342]; with_reducible exact H2_) | (have H2_ := (Option.bind_some _ _).symm.trans H; with_reducible exact H2_) | with_reducible exact H | (rw [hy342]; exact H) | exact H
  have Ny342 := Aside0.mk hy342
  clear hy342
  replace H := Option.bind_eq_some_iff.mp H
  obtain ⟨t345, A50, H⟩ := H
  replace H : ((palletref02_Record.f k ([] : List Int) ((a0_1) % 256) t345).bind fun bt348 => (some (bt348.1, bt348.2))) = some (r1, r2) := H
  have A5 := Aside0.mk A50
  clear A50
  replace H := Option.bind_eq_some_iff.mp H
  obtain ⟨⟨t348, t349⟩, A60, H⟩ := H
  replace H : (some (t348, t349)) = some (r1, r2) := H
  have A6 := Aside0.mk A60
  clear A60
  simp only [Option.some.injEq, Prod.mk.injEq] at H
  obtain ⟨rfl, rfl⟩ := H
  go_enter Tryd.func16, Tryd.ntmps16
  try go_wp2_with (first | ((with_reducible refine gate_dst (N := 1) rfl ?_); refine box_event ?hg (N := 1) ?hd (cs := #[.int .i64 a0_0, .int .i64 a0_1, .int .i64 a0_2, .int .i64 a0_3, .int .i64 a0_4]) (t := 30) ?hr ?_; (case hd => rfl); (case hg => rfl); (case hr => first | (go_simp; done) | (go_simp; rfl)); intro gb334 hg w7 hbox hb; have n0_ := Aside0.mk (below_step (by repeat (first | (with_reducible first | exact HB.out | apply below_alloc | apply pw_below_drewN | apply below_drew1) | exact HB.out)) hb); have n1_ := Aside0.mk (hbox); have n2_ := Aside0.mk ((by rw [hg]; exact (below_size (by repeat (first | (with_reducible first | exact HB.out | apply below_alloc | apply pw_below_drewN | apply below_drew1) | exact HB.out))) : w.heap.size ≤ gb334)); have n3_ := Aside0.mk ((by rw [hg]; exact (below_size (by repeat (first | (with_reducible first | exact HB.out | apply below_alloc | apply pw_below_drewN | apply below_drew1) | exact HB.out))) : w.heap.size ≤ gb334)); clear HB; have HB := n0_; have BK334 := n1_; have GW334 := n2_; have GE334 := n3_; clear n0_ n1_ n2_ n3_; clear hb hbox hg; have hcz8_0 : w7.cell? ⟨gb334, 0, none⟩ = some (.int .i64 a0_0) := (blk_cell BK334.out 0).trans rfl; have hcz8_1 : w7.cell? ⟨gb334, 1, none⟩ = some (.int .i64 a0_1) := (blk_cell BK334.out 1).trans rfl; have hcz8_2 : w7.cell? ⟨gb334, 2, none⟩ = some (.int .i64 a0_2) := (blk_cell BK334.out 2).trans rfl; have hcz8_3 : w7.cell? ⟨gb334, 3, none⟩ = some (.int .i64 a0_3) := (blk_cell BK334.out 3).trans rfl; have hcz8_4 : w7.cell? ⟨gb334, 4, none⟩ = some (.int .i64 a0_4) := (blk_cell BK334.out 4).trans rfl; have hfz8_0 := blk_frozen BK334.out 0; have hfz8_1 := blk_frozen BK334.out 1; have hfz8_2 := blk_frozen BK334.out 2; have hfz8_3 := blk_frozen BK334.out 3; have hfz8_4 := blk_frozen BK334.out 4) | ((with_reducible refine gate_callee (f := 38) rfl ?_); refine goesL_ (some 6) rfl rfl Tryd.func38 (by kernel_rfl) rfl #[.agg #[.int .i64 a0_0, .int .i64 a0_1, .int .i64 a0_2, .int .i64 a0_3, .int .i64 a0_4]] rfl (by (try simp only [List.map_toArray, List.map_cons, List.map_nil]); first | done | rfl | (simp only [List.length_drop, List.length_take]; first | rfl | (rw [Nat.min_eq_left (Int.toNat_le.2 (of_decide_eq_true (by assumption)))]; rfl))) ?_; (with_reducible refine (palletref19_One.calls k a0_0 a0_1 a0_2 a0_3 a0_4 true _ A2.out).mono ?_); rintro e w9 ⟨rfl, hb⟩; refine ⟨_, rfl, ?_⟩; have n0_ := Aside0.mk (blk_below (g := gb334) (o := .cells #[.int .i64 a0_0, .int .i64 a0_1, .int .i64 a0_2, .int .i64 a0_3, .int .i64 a0_4] 30 (0, 0)) (by (with_reducible repeat (first | refine blk_drewN ?_ _ | refine blk_drew ?_ | refine blk_alloc ?_ _)); exact BK334.out) hb); have n1_ := Aside0.mk (below_step (by repeat (first | (with_reducible first | exact HB.out | apply below_alloc | apply pw_below_drewN | apply below_drew1 | refine below_set ?_ GE334.out) | exact HB.out)) hb); clear BK334; clear HB; have BK334 := n0_; have HB := n1_; clear n0_ n1_; (try clear hb); (try clear hb2); (try clear hk); (try clear hi)))
  have n0_ := Aside0.mk (blk_drew BK334.out)
  have n1_ := Aside0.mk (below_drew1 HB.out)
  clear BK334
  clear HB
  have BK334 := n0_
  have HB := n1_
  clear n0_ n1_
  refine start_ (n := 15) (S := fun w' => True) (ds := []) #[false, false, false, false, false, false, false, false, false, false, false, false, false, false, false] (by kernel_rfl) rfl rfl trivial (fun hHeld => ?_); refine with_tabW palletref19_Write.tab3 palletref19_Write.bits3 (fun HT_ HW_ => ?_)
  generalize w9.drew = w10 at BK334 HB hHeld ⊢
  refine pure_ (i := 0) (N := some 8) (v := ?_) (a' := ?_) #[true, false, false, false, false, false, false, false, false, false, false, false, false, false, false] rfl rfl (any_of HT_.out (by kernel_rfl)) (fun _ _ _ h => h) (Or.inl ⟨by rfl, ?_⟩) ?_ ?_
  rotate_left
  ·intro w'
   go_simp
   with_reducible rfl
  rotate_left
  ·simp only [Act.put, List.setIfInBounds_toArray, List.set_cons_zero, List.set_cons_succ, i64_w, i32_w]
   rfl
  refine pure_ (i := 3) (N := some 11) (v := ?_) (a' := ?_) #[true, false, false, true, false, false, false, false, false, false, false, false, false, false, false] rfl rfl (any_of HT_.out (by kernel_rfl)) (fun _ _ _ h => h) (Or.inl ⟨by rfl, ?_⟩) ?_ ?_
  rotate_left
  ·intro w'
   go_simp
   with_reducible rfl
  rotate_left
  ·simp only [Act.put, List.setIfInBounds_toArray, List.set_cons_zero, List.set_cons_succ, i64_w, i32_w]
   rfl
  refine pure_ (i := 8) (N := some 16) (v := ?_) (a' := ?_) #[true, false, false, true, false, false, false, false, true, false, false, false, false, false, false] rfl rfl (any_of HT_.out (by kernel_rfl)) (fun _ _ _ h => h) (Or.inl ⟨by rfl, ?_⟩) ?_ ?_
  rotate_left
  ·intro w'
   go_simp
   with_reducible rfl
  rotate_left
  ·simp only [Act.put, List.setIfInBounds_toArray, List.set_cons_zero, List.set_cons_succ, i64_w, i32_w]
   rfl
  refine pure_ (i := 10) (N := some 18) (v := ?_) (a' := ?_) #[true, false, false, true, false, false, false, false, true, false, true, false, false, false, false] rfl rfl (any_of HT_.out (by kernel_rfl)) (fun _ _ _ h => h) (Or.inl ⟨by rfl, ?_⟩) ?_ ?_
  rotate_left
  ·intro w'
   go_simp
   with_reducible rfl
  rotate_left
  ·simp only [Act.put, List.setIfInBounds_toArray, List.set_cons_zero, List.set_cons_succ, i64_w, i32_w]
   rfl
  refine inv_at [1, 2, 4, 5, 6, 7, 9, 11, 12, 13, 14] (fun a0_ b a w' => ∃ (v337 : Value) (v340 : Value) (v343 : Value) (v346 : Value) (m14_ : Value), a = putSel a0_ b [(1, 9, .int .i64 a0_0), (2, 10, .int .u64 (IntKind.u64.wrap (a0_0))), (4, 12, .int .i64 a0_2), (5, 13, .int .u64 (IntKind.u64.wrap (a0_2))), (6, 14, v337), (7, 15, v340), (9, 17, .int .i64 a0_3), (11, 19, .int .i64 a0_4), (12, 20, v343), (13, 21, v346), (14, 4, m14_)] ∧ (w'.heap[gb334]? = some (.cells #[.int .i64 a0_0, .int .i64 a0_1, .int .i64 a0_2, .int .i64 a0_3, .int .i64 a0_4] 30 (0, 0))) ∧ (Below w.heap.size w w') ∧ (b 6 = true → Kd.R (Kd.int .u64) 33 w' w.heap.size (fun _ => True) v337 y336) ∧ (b 7 = true → Kd.R (Kd.int .u8) 5 w' w.heap.size (fun _ => True) v340 t339) ∧ (b 12 = true → Kd.R (Kd.int .i64) 2 w' w.heap.size (fun _ => True) v343 y342) ∧ (b 13 = true → Kd.R (Kd.int .u8) 5 w' w.heap.size (fun _ => True) v346 t345) ∧ (b 14 = true → (m14_ : Value) = v346)) HT_.out HW_.out (by kernel_rfl) (by kernel_rfl) ?_ ?_ ?_
  ·exact ⟨.bool false, .bool false, .bool false, .bool false, .bool false, by simp only [putSel, Bool.false_eq_true, if_false], BK334.out, HB.out, fun h_ => absurd h_ (by decide), fun h_ => absurd h_ (by decide), fun h_ => absurd h_ (by decide), fun h_ => absurd h_ (by decide), fun h_ => absurd h_ (by decide)⟩
  ·skip
   clear BK334 HB
   refine steps_cons ?_ ?_
   ·rintro b a w' ⟨v337, v340, v343, v346, m14_, ha, Q_BK334, Q_HB, Q_HO338, Q_HO341, Q_HO344, Q_HO347, Q_X14_⟩ hb_ hon hoff
    refine ⟨_, rfl, fun K hK => ?_⟩
    have e8 : a.tmps[8]? = some (.pointer (some ⟨gb334, 0, none⟩)) := by rw [ha]; exact (putSel_off rfl).trans rfl
    replace ha := Aside0.mk ha
    have BK334 := Aside0.mk Q_BK334
    have HB := Aside0.mk Q_HB
    have hc0_ : w'.cell? ⟨gb334, 0, none⟩ = some (.int .i64 a0_0) := (blk_cell BK334.out 0).trans rfl
    have hc1_ : w'.cell? ⟨gb334, 1, none⟩ = some (.int .i64 a0_1) := (blk_cell BK334.out 1).trans rfl
    have hc2_ : w'.cell? ⟨gb334, 2, none⟩ = some (.int .i64 a0_2) := (blk_cell BK334.out 2).trans rfl
    have hc3_ : w'.cell? ⟨gb334, 3, none⟩ = some (.int .i64 a0_3) := (blk_cell BK334.out 3).trans rfl
    have hc4_ : w'.cell? ⟨gb334, 4, none⟩ = some (.int .i64 a0_4) := (blk_cell BK334.out 4).trans rfl
    refine value_ (w1 := w') (v := .int .i64 a0_0) (by rfl) rfl ?_ ?_
    ·go_simp
     (try simp only [i64_w])
     try rfl
    refine hK.out _ _ ⟨v337, v340, v343, v346, m14_, (by rw [ha.out]; exact putSel_upk 0 hb_ rfl rfl rfl), Q_BK334, Q_HB, fun h0_ => absurd ((hoff 6 (by kernel_rfl)).symm.trans h0_) (by decide), fun h0_ => absurd ((hoff 7 (by kernel_rfl)).symm.trans h0_) (by decide), Q_HO344, fun h0_ => absurd ((hoff 13 (by kernel_rfl)).symm.trans h0_) (by decide), fun h0_ => absurd ((hoff 14 (by kernel_rfl)).symm.trans h0_) (by decide)⟩
   refine steps_cons ?_ ?_
   ·rintro b a w' ⟨v337, v340, v343, v346, m14_, ha, Q_BK334, Q_HB, Q_HO338, Q_HO341, Q_HO344, Q_HO347, Q_X14_⟩ hb_ hon hoff
    refine ⟨_, rfl, fun K hK => ?_⟩
    have e9 : a.tmps[9]? = some (.int .i64 a0_0) := by rw [ha]; exact putSel_on (e := (1, 9, .int .i64 a0_0)) 0 rfl rfl (hon 1 (by kernel_rfl)) rfl
    replace ha := Aside0.mk ha
    have BK334 := Aside0.mk Q_BK334
    have HB := Aside0.mk Q_HB
    refine value_ (w1 := w') (v := .int .u64 (IntKind.u64.wrap (a0_0))) (by rfl) rfl ?_ ?_
    ·go_simp
     (try simp only [i64_w])
     try rfl
    refine hK.out _ _ ⟨v337, v340, v343, v346, m14_, (by rw [ha.out]; exact putSel_upk 1 hb_ rfl rfl rfl), Q_BK334, Q_HB, fun h0_ => absurd ((hoff 6 (by kernel_rfl)).symm.trans h0_) (by decide), fun h0_ => absurd ((hoff 7 (by kernel_rfl)).symm.trans h0_) (by decide), Q_HO344, fun h0_ => absurd ((hoff 13 (by kernel_rfl)).symm.trans h0_) (by decide), fun h0_ => absurd ((hoff 14 (by kernel_rfl)).symm.trans h0_) (by decide)⟩
   refine steps_cons ?_ ?_
   ·rintro b a w' ⟨v337, v340, v343, v346, m14_, ha, Q_BK334, Q_HB, Q_HO338, Q_HO341, Q_HO344, Q_HO347, Q_X14_⟩ hb_ hon hoff
    refine ⟨_, rfl, fun K hK => ?_⟩
    have e11 : a.tmps[11]? = some (.pointer (some ⟨gb334, 2, none⟩)) := by rw [ha]; exact (putSel_off rfl).trans rfl
    replace ha := Aside0.mk ha
    have BK334 := Aside0.mk Q_BK334
    have HB := Aside0.mk Q_HB
    have hc0_ : w'.cell? ⟨gb334, 0, none⟩ = some (.int .i64 a0_0) := (blk_cell BK334.out 0).trans rfl
    have hc1_ : w'.cell? ⟨gb334, 1, none⟩ = some (.int .i64 a0_1) := (blk_cell BK334.out 1).trans rfl
    have hc2_ : w'.cell? ⟨gb334, 2, none⟩ = some (.int .i64 a0_2) := (blk_cell BK334.out 2).trans rfl
    have hc3_ : w'.cell? ⟨gb334, 3, none⟩ = some (.int .i64 a0_3) := (blk_cell BK334.out 3).trans rfl
    have hc4_ : w'.cell? ⟨gb334, 4, none⟩ = some (.int .i64 a0_4) := (blk_cell BK334.out 4).trans rfl
    refine value_ (w1 := w') (v := .int .i64 a0_2) (by rfl) rfl ?_ ?_
    ·go_simp
     (try simp only [i64_w])
     try rfl
    refine hK.out _ _ ⟨v337, v340, v343, v346, m14_, (by rw [ha.out]; exact putSel_upk 2 hb_ rfl rfl rfl), Q_BK334, Q_HB, fun h0_ => absurd ((hoff 6 (by kernel_rfl)).symm.trans h0_) (by decide), fun h0_ => absurd ((hoff 7 (by kernel_rfl)).symm.trans h0_) (by decide), Q_HO344, fun h0_ => absurd ((hoff 13 (by kernel_rfl)).symm.trans h0_) (by decide), fun h0_ => absurd ((hoff 14 (by kernel_rfl)).symm.trans h0_) (by decide)⟩
   refine steps_cons ?_ ?_
   ·rintro b a w' ⟨v337, v340, v343, v346, m14_, ha, Q_BK334, Q_HB, Q_HO338, Q_HO341, Q_HO344, Q_HO347, Q_X14_⟩ hb_ hon hoff
    refine ⟨_, rfl, fun K hK => ?_⟩
    have e12 : a.tmps[12]? = some (.int .i64 a0_2) := by rw [ha]; exact putSel_on (e := (4, 12, .int .i64 a0_2)) 2 rfl rfl (hon 4 (by kernel_rfl)) rfl
    replace ha := Aside0.mk ha
    have BK334 := Aside0.mk Q_BK334
    have HB := Aside0.mk Q_HB
    refine value_ (w1 := w') (v := .int .u64 (IntKind.u64.wrap (a0_2))) (by rfl) rfl ?_ ?_
    ·go_simp
     (try simp only [i64_w])
     try rfl
    refine hK.out _ _ ⟨v337, v340, v343, v346, m14_, (by rw [ha.out]; exact putSel_upk 3 hb_ rfl rfl rfl), Q_BK334, Q_HB, fun h0_ => absurd ((hoff 6 (by kernel_rfl)).symm.trans h0_) (by decide), fun h0_ => absurd ((hoff 7 (by kernel_rfl)).symm.trans h0_) (by decide), Q_HO344, fun h0_ => absurd ((hoff 13 (by kernel_rfl)).symm.trans h0_) (by decide), fun h0_ => absurd ((hoff 14 (by kernel_rfl)).symm.trans h0_) (by decide)⟩
   refine steps_cons ?_ ?_
   ·rintro b a w' ⟨v337, v340, v343, v346, m14_, ha, Q_BK334, Q_HB, Q_HO338, Q_HO341, Q_HO344, Q_HO347, Q_X14_⟩ hb_ hon hoff
    refine ⟨_, rfl, fun K hK => ?_⟩
    have e10 : a.tmps[10]? = some (.int .u64 (IntKind.u64.wrap (a0_0))) := by rw [ha]; exact putSel_on (e := (2, 10, .int .u64 (IntKind.u64.wrap (a0_0)))) 1 rfl rfl (hon 2 (by kernel_rfl)) rfl
    have e13 : a.tmps[13]? = some (.int .u64 (IntKind.u64.wrap (a0_2))) := by rw [ha]; exact putSel_on (e := (5, 13, .int .u64 (IntKind.u64.wrap (a0_2)))) 3 rfl rfl (hon 5 (by kernel_rfl)) rfl
    replace ha := Aside0.mk ha
    have BK334 := Aside0.mk Q_BK334
    have HB := Aside0.mk Q_HB
    refine Kd.R_lit_step (Kd.int .u64) _ 33 ?hg (N := 14) ?hd (xs := ([IntKind.u64.wrap (a0_0), IntKind.u64.wrap (a0_2)] : List Int)) (inner := [.int .u64 (IntKind.u64.wrap (a0_0)), .int .u64 (IntKind.u64.wrap (a0_2))]) (ok := fun _ => True) (okp := fun _ => True) ?hr ?hp (fun _ hk => hk) trivial (Below.refl _ _) (Nat.le_refl _) (by simp) ?_; (case hd => rfl); (case hg => rfl); (case hr => first | (go_simp; done) | (go_simp; rfl)); (case hp => exact (Reps.one (show Kd.M (Kd.int .u64) _ _ _ (IntKind.u64.wrap (a0_0)) [.int .u64 (IntKind.u64.wrap (a0_0))] from rfl) (Reps.one (show Kd.M (Kd.int .u64) _ _ _ (IntKind.u64.wrap (a0_2)) [.int .u64 (IntKind.u64.wrap (a0_2))] from rfl) (Reps.none _ _))))
    intro v337 w11 ho12 hb hg_ hnew_
    clear hg_ hnew_
    (first | rw [← Ny336.out] at ho12 | (simp only [Int.reduceToNat] at ho12; rw [← Ny336.out] at ho12))
    have n0_ := Aside0.mk (Kd.R_lower ho12 (below_size (by repeat (first | (with_reducible first | exact HB.out | apply below_alloc | apply pw_below_drewN | apply below_drew1 | refine below_set ?_ GE334.out) | exact HB.out))))
    have n1_ := Aside0.mk (blk_below (g := gb334) (o := .cells #[.int .i64 a0_0, .int .i64 a0_1, .int .i64 a0_2, .int .i64 a0_3, .int .i64 a0_4] 30 (0, 0)) (by (with_reducible repeat (first | refine blk_drewN ?_ _ | refine blk_drew ?_ | refine blk_alloc ?_ _)); exact BK334.out) hb)
    have n2_ := Aside0.mk (below_step (by repeat (first | (with_reducible first | exact HB.out | apply below_alloc | apply pw_below_drewN | apply below_drew1 | refine below_set ?_ GE334.out) | exact HB.out)) hb)
    have z_HO344 := fun (h0_ : b 12 = true) => (show Kd.R (Kd.int .i64) 2 w11 w.heap.size (fun _ => True) v343 y342 from by first | exact (Kd.R_below (by (with_reducible repeat (first | apply Kd.R_alloc | apply Kd.R_drewN | apply Kd.R_drew)); exact (Q_HO344 h0_)) hb) | exact Kd.R_mono (Kd.R_below (by (with_reducible repeat (first | apply Kd.R_alloc | apply Kd.R_drewN | apply Kd.R_drew)); exact (Q_HO344 h0_)) hb) (fun _ h_ => by first | trivial | exact h_ | exact h_.1))
    clear BK334
    clear HB
    have HO338 := n0_
    have BK334 := n1_
    have HB := n2_
    clear n0_ n1_ n2_
    clear hb ho12
    refine hK.out _ _ ⟨v337, v340, v343, v346, m14_, (by rw [ha.out]; exact putSel_upk 4 hb_ rfl rfl rfl), (by (with_reducible repeat (first | refine blk_drewN ?_ _ | refine blk_drew ?_ | refine blk_alloc ?_ _)); exact BK334.out), (by repeat (first | (with_reducible first | exact HB.out | apply below_alloc | apply pw_below_drewN | apply below_drew1 | refine below_set ?_ GE334.out) | exact HB.out)), fun _ => (by (with_reducible repeat (first | apply Kd.R_alloc | apply Kd.R_drewN | apply Kd.R_drew)); first | exact HO338.out | exact Kd.R_mono HO338.out (fun _ _ => trivial)), fun h0_ => absurd ((hoff 7 (by kernel_rfl)).symm.trans h0_) (by decide), z_HO344, fun h0_ => absurd ((hoff 13 (by kernel_rfl)).symm.trans h0_) (by decide), fun h0_ => absurd ((hoff 14 (by kernel_rfl)).symm.trans h0_) (by decide)⟩
   refine steps_cons ?_ ?_
   ·rintro b a w' ⟨v337, v340, v343, v346, m14_, ha, Q_BK334, Q_HB, Q_HO338, Q_HO341, Q_HO344, Q_HO347, Q_X14_⟩ hb_ hon hoff
    refine ⟨_, rfl, fun K hK => ?_⟩
    have e14 : a.tmps[14]? = some (v337) := by rw [ha]; exact putSel_on (e := (6, 14, v337)) 4 rfl rfl (hon 6 (by kernel_rfl)) rfl
    replace ha := Aside0.mk ha
    have BK334 := Aside0.mk Q_BK334
    have HB := Aside0.mk Q_HB
    have HO338 := Aside0.mk (Q_HO338 (hon 6 (by kernel_rfl)))
    obtain ⟨Ao14, co14, eo14⟩ := Kd.R_slice HO338.out
    (first | subst eo14 | (injection eo14 with f1_ f2_ f3_; have f4_ := f1_.symm; have f5_ := f3_.symm; clear f1_ f2_ f3_; subst f4_; subst f5_))
    refine goes_ Tryd.func14 (by kernel_rfl) rfl #[.slice none 0 0, .slice Ao14 y336.length co14] (by rfl) rfl rfl (by first | (simp only [List.map_toArray, List.map_cons, List.map_nil, Act.eval, Array.getD_eq_getD_getElem?, Option.getD_some, e14]; done) | (simp only [List.map_toArray, List.map_cons, List.map_nil, Act.eval, Array.getD_eq_getD_getElem?, Option.getD_some, e14]; rfl)) ?_
    refine (palletref02_Vary.calls k _ _ ([] : List Int) _ _ y336 t339 _ ?side1 ?side2 ?side3 ?side4 A4.out).mono ?_
    (case side1 => exact Kd.C_nil _ _)
    (case side2 => exact Nat.le_refl _)
    (case side3 => repeat (first | exact (Kd.R_reads' HO338.out).2.2 | (with_reducible refine Kd.C_alloc ?_ _) | (with_reducible refine Kd.C_drewN ?_ _) | (with_reducible refine Kd.C_drew ?_)))
    (case side4 => exact (Kd.R_reads' HO338.out).2.1)
    rintro e w15 ⟨v340, rfl, ho0, hb⟩
    refine ⟨_, rfl, ?_⟩
    have n0_ := Aside0.mk (Kd.R_below (by (with_reducible repeat (first | apply Kd.R_alloc | apply Kd.R_drewN | apply Kd.R_drew)); first | exact HO338.out | exact Kd.R_mono HO338.out (fun _ _ => trivial)) hb)
    have n1_ := Aside0.mk (Kd.R_lower ho0 (below_size (by repeat (first | (with_reducible first | exact HB.out | apply below_alloc | apply pw_below_drewN | apply below_drew1 | refine below_set ?_ GE334.out) | exact HB.out))))
    have n2_ := Aside0.mk (blk_below (g := gb334) (o := .cells #[.int .i64 a0_0, .int .i64 a0_1, .int .i64 a0_2, .int .i64 a0_3, .int .i64 a0_4] 30 (0, 0)) (by (with_reducible repeat (first | refine blk_drewN ?_ _ | refine blk_drew ?_ | refine blk_alloc ?_ _)); exact BK334.out) hb)
    have n3_ := Aside0.mk (below_step (by repeat (first | (with_reducible first | exact HB.out | apply below_alloc | apply pw_below_drewN | apply below_drew1 | refine below_set ?_ GE334.out) | exact HB.out)) hb)
    have z_HO344 := fun (h0_ : b 12 = true) => (show Kd.R (Kd.int .i64) 2 w15 w.heap.size (fun _ => True) v343 y342 from by first | exact (Kd.R_below (by (with_reducible repeat (first | apply Kd.R_alloc | apply Kd.R_drewN | apply Kd.R_drew)); exact (Q_HO344 h0_)) hb) | exact Kd.R_mono (Kd.R_below (by (with_reducible repeat (first | apply Kd.R_alloc | apply Kd.R_drewN | apply Kd.R_drew)); exact (Q_HO344 h0_)) hb) (fun _ h_ => by first | trivial | exact h_ | exact h_.1))
    clear HO338
    clear BK334
    clear HB
    have HO338 := n0_
    have HO341 := n1_
    have BK334 := n2_
    have HB := n3_
    clear n0_ n1_ n2_ n3_
    (try clear hb)
    (try clear hb2)
    (try clear hk)
    (try clear hi)
    (try clear ho0)
    refine hK.out _ _ ⟨.slice Ao14 y336.length co14, v340, v343, v346, m14_, (by rw [ha.out]; exact putSel_upk 5 hb_ rfl rfl rfl), (by (with_reducible repeat (first | refine blk_drewN ?_ _ | refine blk_drew ?_ | refine blk_alloc ?_ _)); exact BK334.out), (by repeat (first | (with_reducible first | exact HB.out | apply below_alloc | apply pw_below_drewN | apply below_drew1 | refine below_set ?_ GE334.out) | exact HB.out)), fun _ => (by (with_reducible repeat (first | apply Kd.R_alloc | apply Kd.R_drewN | apply Kd.R_drew)); first | exact HO338.out | exact Kd.R_mono HO338.out (fun _ _ => trivial)), fun _ => (by (with_reducible repeat (first | apply Kd.R_alloc | apply Kd.R_drewN | apply Kd.R_drew)); first | exact HO341.out | exact Kd.R_mono HO341.out (fun _ _ => trivial)), z_HO344, fun h0_ => absurd ((hoff 13 (by kernel_rfl)).symm.trans h0_) (by decide), fun h0_ => absurd ((hoff 14 (by kernel_rfl)).symm.trans h0_) (by decide)⟩
   refine steps_cons ?_ ?_
   ·rintro b a w' ⟨v337, v340, v343, v346, m14_, ha, Q_BK334, Q_HB, Q_HO338, Q_HO341, Q_HO344, Q_HO347, Q_X14_⟩ hb_ hon hoff
    refine ⟨_, rfl, fun K hK => ?_⟩
    have e16 : a.tmps[16]? = some (.pointer (some ⟨gb334, 3, none⟩)) := by rw [ha]; exact (putSel_off rfl).trans rfl
    replace ha := Aside0.mk ha
    have BK334 := Aside0.mk Q_BK334
    have HB := Aside0.mk Q_HB
    have hc0_ : w'.cell? ⟨gb334, 0, none⟩ = some (.int .i64 a0_0) := (blk_cell BK334.out 0).trans rfl
    have hc1_ : w'.cell? ⟨gb334, 1, none⟩ = some (.int .i64 a0_1) := (blk_cell BK334.out 1).trans rfl
    have hc2_ : w'.cell? ⟨gb334, 2, none⟩ = some (.int .i64 a0_2) := (blk_cell BK334.out 2).trans rfl
    have hc3_ : w'.cell? ⟨gb334, 3, none⟩ = some (.int .i64 a0_3) := (blk_cell BK334.out 3).trans rfl
    have hc4_ : w'.cell? ⟨gb334, 4, none⟩ = some (.int .i64 a0_4) := (blk_cell BK334.out 4).trans rfl
    refine value_ (w1 := w') (v := .int .i64 a0_3) (by rfl) rfl ?_ ?_
    ·go_simp
     (try simp only [i64_w])
     try rfl
    refine hK.out _ _ ⟨v337, v340, v343, v346, m14_, (by rw [ha.out]; exact putSel_upk 6 hb_ rfl rfl rfl), Q_BK334, Q_HB, Q_HO338, Q_HO341, fun h0_ => absurd ((hoff 12 (by kernel_rfl)).symm.trans h0_) (by decide), fun h0_ => absurd ((hoff 13 (by kernel_rfl)).symm.trans h0_) (by decide), fun h0_ => absurd ((hoff 14 (by kernel_rfl)).symm.trans h0_) (by decide)⟩
   refine steps_cons ?_ ?_
   ·rintro b a w' ⟨v337, v340, v343, v346, m14_, ha, Q_BK334, Q_HB, Q_HO338, Q_HO341, Q_HO344, Q_HO347, Q_X14_⟩ hb_ hon hoff
    refine ⟨_, rfl, fun K hK => ?_⟩
    have e18 : a.tmps[18]? = some (.pointer (some ⟨gb334, 4, none⟩)) := by rw [ha]; exact (putSel_off rfl).trans rfl
    replace ha := Aside0.mk ha
    have BK334 := Aside0.mk Q_BK334
    have HB := Aside0.mk Q_HB
    have hc0_ : w'.cell? ⟨gb334, 0, none⟩ = some (.int .i64 a0_0) := (blk_cell BK334.out 0).trans rfl
    have hc1_ : w'.cell? ⟨gb334, 1, none⟩ = some (.int .i64 a0_1) := (blk_cell BK334.out 1).trans rfl
    have hc2_ : w'.cell? ⟨gb334, 2, none⟩ = some (.int .i64 a0_2) := (blk_cell BK334.out 2).trans rfl
    have hc3_ : w'.cell? ⟨gb334, 3, none⟩ = some (.int .i64 a0_3) := (blk_cell BK334.out 3).trans rfl
    have hc4_ : w'.cell? ⟨gb334, 4, none⟩ = some (.int .i64 a0_4) := (blk_cell BK334.out 4).trans rfl
    refine value_ (w1 := w') (v := .int .i64 a0_4) (by rfl) rfl ?_ ?_
    ·go_simp
     (try simp only [i64_w])
     try rfl
    refine hK.out _ _ ⟨v337, v340, v343, v346, m14_, (by rw [ha.out]; exact putSel_upk 7 hb_ rfl rfl rfl), Q_BK334, Q_HB, Q_HO338, Q_HO341, fun h0_ => absurd ((hoff 12 (by kernel_rfl)).symm.trans h0_) (by decide), fun h0_ => absurd ((hoff 13 (by kernel_rfl)).symm.trans h0_) (by decide), fun h0_ => absurd ((hoff 14 (by kernel_rfl)).symm.trans h0_) (by decide)⟩
   refine steps_cons ?_ ?_
   ·rintro b a w' ⟨v337, v340, v343, v346, m14_, ha, Q_BK334, Q_HB, Q_HO338, Q_HO341, Q_HO344, Q_HO347, Q_X14_⟩ hb_ hon hoff
    refine ⟨_, rfl, fun K hK => ?_⟩
    have e17 : a.tmps[17]? = some (.int .i64 a0_3) := by rw [ha]; exact putSel_on (e := (9, 17, .int .i64 a0_3)) 6 rfl rfl (hon 9 (by kernel_rfl)) rfl
    have e19 : a.tmps[19]? = some (.int .i64 a0_4) := by rw [ha]; exact putSel_on (e := (11, 19, .int .i64 a0_4)) 7 rfl rfl (hon 11 (by kernel_rfl)) rfl
    replace ha := Aside0.mk ha
    have BK334 := Aside0.mk Q_BK334
    have HB := Aside0.mk Q_HB
    refine Kd.R_lit_step (Kd.int .i64) _ 2 ?hg (N := 20) ?hd (xs := ([a0_3, a0_4] : List Int)) (inner := [.int .i64 a0_3, .int .i64 a0_4]) (ok := fun _ => True) (okp := fun _ => True) ?hr ?hp (fun _ hk => hk) trivial (Below.refl _ _) (Nat.le_refl _) (by simp) ?_; (case hd => rfl); (case hg => rfl); (case hr => first | (go_simp; done) | (go_simp; rfl)); (case hp => exact (Reps.one (show Kd.M (Kd.int .i64) _ _ _ a0_3 [.int .i64 a0_3] from rfl) (Reps.one (show Kd.M (Kd.int .i64) _ _ _ a0_4 [.int .i64 a0_4] from rfl) (Reps.none _ _))))
    intro v343 w11 ho12 hb hg_ hnew_
    clear hg_ hnew_
    (first | rw [← Ny342.out] at ho12 | (simp only [Int.reduceToNat] at ho12; rw [← Ny342.out] at ho12))
    have n0_ := Aside0.mk (Kd.R_lower ho12 (below_size (by repeat (first | (with_reducible first | exact HB.out | apply below_alloc | apply pw_below_drewN | apply below_drew1 | refine below_set ?_ GE334.out) | exact HB.out))))
    have n1_ := Aside0.mk (blk_below (g := gb334) (o := .cells #[.int .i64 a0_0, .int .i64 a0_1, .int .i64 a0_2, .int .i64 a0_3, .int .i64 a0_4] 30 (0, 0)) (by (with_reducible repeat (first | refine blk_drewN ?_ _ | refine blk_drew ?_ | refine blk_alloc ?_ _)); exact BK334.out) hb)
    have n2_ := Aside0.mk (below_step (by repeat (first | (with_reducible first | exact HB.out | apply below_alloc | apply pw_below_drewN | apply below_drew1 | refine below_set ?_ GE334.out) | exact HB.out)) hb)
    have z_HO338 := fun (h0_ : b 6 = true) => (show Kd.R (Kd.int .u64) 33 w11 w.heap.size (fun _ => True) v337 y336 from by first | exact (Kd.R_below (by (with_reducible repeat (first | apply Kd.R_alloc | apply Kd.R_drewN | apply Kd.R_drew)); exact (Q_HO338 h0_)) hb) | exact Kd.R_mono (Kd.R_below (by (with_reducible repeat (first | apply Kd.R_alloc | apply Kd.R_drewN | apply Kd.R_drew)); exact (Q_HO338 h0_)) hb) (fun _ h_ => by first | trivial | exact h_ | exact h_.1))
    have z_HO341 := fun (h0_ : b 7 = true) => (show Kd.R (Kd.int .u8) 5 w11 w.heap.size (fun _ => True) v340 t339 from by first | exact (Kd.R_below (by (with_reducible repeat (first | apply Kd.R_alloc | apply Kd.R_drewN | apply Kd.R_drew)); exact (Q_HO341 h0_)) hb) | exact Kd.R_mono (Kd.R_below (by (with_reducible repeat (first | apply Kd.R_alloc | apply Kd.R_drewN | apply Kd.R_drew)); exact (Q_HO341 h0_)) hb) (fun _ h_ => by first | trivial | exact h_ | exact h_.1))
    clear BK334
    clear HB
    have HO344 := n0_
    have BK334 := n1_
    have HB := n2_
    clear n0_ n1_ n2_
    clear hb ho12
    refine hK.out _ _ ⟨v337, v340, v343, v346, m14_, (by rw [ha.out]; exact putSel_upk 8 hb_ rfl rfl rfl), (by (with_reducible repeat (first | refine blk_drewN ?_ _ | refine blk_drew ?_ | refine blk_alloc ?_ _)); exact BK334.out), (by repeat (first | (with_reducible first | exact HB.out | apply below_alloc | apply pw_below_drewN | apply below_drew1 | refine below_set ?_ GE334.out) | exact HB.out)), z_HO338, z_HO341, fun _ => (by (with_reducible repeat (first | apply Kd.R_alloc | apply Kd.R_drewN | apply Kd.R_drew)); first | exact HO344.out | exact Kd.R_mono HO344.out (fun _ _ => trivial)), fun h0_ => absurd ((hoff 13 (by kernel_rfl)).symm.trans h0_) (by decide), fun h0_ => absurd ((hoff 14 (by kernel_rfl)).symm.trans h0_) (by decide)⟩
   refine steps_cons ?_ ?_
   ·rintro b a w' ⟨v337, v340, v343, v346, m14_, ha, Q_BK334, Q_HB, Q_HO338, Q_HO341, Q_HO344, Q_HO347, Q_X14_⟩ hb_ hon hoff
    refine ⟨_, rfl, fun K hK => ?_⟩
    have e15 : a.tmps[15]? = some (v340) := by rw [ha]; exact putSel_on (e := (7, 15, v340)) 5 rfl rfl (hon 7 (by kernel_rfl)) rfl
    have e20 : a.tmps[20]? = some (v343) := by rw [ha]; exact putSel_on (e := (12, 20, v343)) 8 rfl rfl (hon 12 (by kernel_rfl)) rfl
    replace ha := Aside0.mk ha
    have BK334 := Aside0.mk Q_BK334
    have HB := Aside0.mk Q_HB
    have HO338 := Aside0.mk (Q_HO338 (hon 6 (by kernel_rfl)))
    have HO341 := Aside0.mk (Q_HO341 (hon 7 (by kernel_rfl)))
    have HO344 := Aside0.mk (Q_HO344 (hon 12 (by kernel_rfl)))
    obtain ⟨Ao18, co18, eo18⟩ := Kd.R_slice HO341.out
    (first | subst eo18 | (injection eo18 with f1_ f2_ f3_; have f4_ := f1_.symm; have f5_ := f3_.symm; clear f1_ f2_ f3_; subst f4_; subst f5_))
    obtain ⟨Ao19, co19, eo19⟩ := Kd.R_slice HO344.out
    (first | subst eo19 | (injection eo19 with f1_ f2_ f3_; have f4_ := f1_.symm; have f5_ := f3_.symm; clear f1_ f2_ f3_; subst f4_; subst f5_))
    refine goes_ Tryd.func39 (by kernel_rfl) rfl #[.slice Ao18 t339.length co18, .slice Ao19 y342.length co19] (by rfl) rfl rfl (by first | (simp only [List.map_toArray, List.map_cons, List.map_nil, Act.eval, Array.getD_eq_getD_getElem?, Option.getD_some, e15, e20]; done) | (simp only [List.map_toArray, List.map_cons, List.map_nil, Act.eval, Array.getD_eq_getD_getElem?, Option.getD_some, e15, e20]; rfl)) ?_
    with_reducible refine (palletref02_Sign.calls k _ _ t339 _ _ y342 t345 _ ?side1 ?side2 ?side3 ?side4 A5.out).mono ?_
    (case side1 => repeat (first | exact (Kd.R_reads' HO341.out).2.2 | (with_reducible refine Kd.C_alloc ?_ _) | (with_reducible refine Kd.C_drewN ?_ _) | (with_reducible refine Kd.C_drew ?_)))
    (case side2 => exact (Kd.R_reads' HO341.out).2.1)
    (case side3 => repeat (first | exact (Kd.R_reads' HO344.out).2.2 | (with_reducible refine Kd.C_alloc ?_ _) | (with_reducible refine Kd.C_drewN ?_ _) | (with_reducible refine Kd.C_drew ?_)))
    (case side4 => exact (Kd.R_reads' HO344.out).2.1)
    rintro e w20 ⟨v346, rfl, ho0, hb⟩
    refine ⟨_, rfl, ?_⟩
    have n0_ := Aside0.mk (Kd.R_below (by (with_reducible repeat (first | apply Kd.R_alloc | apply Kd.R_drewN | apply Kd.R_drew)); first | exact HO338.out | exact Kd.R_mono HO338.out (fun _ _ => trivial)) hb)
    have n1_ := Aside0.mk (Kd.R_elder' (by (with_reducible repeat (first | apply Kd.R_alloc | apply Kd.R_drewN | apply Kd.R_drew)); first | exact HO341.out | exact Kd.R_mono HO341.out (fun _ _ => trivial)) (Kd.R_base ho0) hb)
    have n2_ := Aside0.mk (Kd.R_below (by (with_reducible repeat (first | apply Kd.R_alloc | apply Kd.R_drewN | apply Kd.R_drew)); first | exact HO344.out | exact Kd.R_mono HO344.out (fun _ _ => trivial)) hb)
    have n3_ := Aside0.mk (Kd.R_lower (Kd.R_new' ho0 (Kd.R_lt (by (with_reducible repeat (first | apply Kd.R_alloc | apply Kd.R_drewN | apply Kd.R_drew)); first | exact HO341.out | exact Kd.R_mono HO341.out (fun _ _ => trivial)))) (below_size (by repeat (first | (with_reducible first | exact HB.out | apply below_alloc | apply pw_below_drewN | apply below_drew1 | refine below_set ?_ GE334.out) | exact HB.out))))
    have n4_ := Aside0.mk (blk_below (g := gb334) (o := .cells #[.int .i64 a0_0, .int .i64 a0_1, .int .i64 a0_2, .int .i64 a0_3, .int .i64 a0_4] 30 (0, 0)) (by (with_reducible repeat (first | refine blk_drewN ?_ _ | refine blk_drew ?_ | refine blk_alloc ?_ _)); exact BK334.out) hb)
    have n5_ := Aside0.mk (below_step (by repeat (first | (with_reducible first | exact HB.out | apply below_alloc | apply pw_below_drewN | apply below_drew1 | refine below_set ?_ GE334.out) | exact HB.out)) hb)
    clear HO338
    clear HO341
    clear HO344
    clear BK334
    clear HB
    have HO338 := n0_
    have HO341 := n1_
    have HO344 := n2_
    have HO347 := n3_
    have BK334 := n4_
    have HB := n5_
    clear n0_ n1_ n2_ n3_ n4_ n5_
    (try clear hb)
    (try clear hb2)
    (try clear hk)
    (try clear hi)
    (try clear ho0)
    refine hK.out _ _ ⟨v337, .slice Ao18 t339.length co18, .slice Ao19 y342.length co19, v346, m14_, (by rw [ha.out]; exact putSel_upk 9 hb_ rfl rfl rfl), (by (with_reducible repeat (first | refine blk_drewN ?_ _ | refine blk_drew ?_ | refine blk_alloc ?_ _)); exact BK334.out), (by repeat (first | (with_reducible first | exact HB.out | apply below_alloc | apply pw_below_drewN | apply below_drew1 | refine below_set ?_ GE334.out) | exact HB.out)), fun _ => (by (with_reducible repeat (first | apply Kd.R_alloc | apply Kd.R_drewN | apply Kd.R_drew)); first | exact HO338.out | exact Kd.R_mono HO338.out (fun _ _ => trivial)), fun _ => (by (with_reducible repeat (first | apply Kd.R_alloc | apply Kd.R_drewN | apply Kd.R_drew)); exact Kd.R_mono HO341.out (fun _ hk => by first | exact hk.2 | trivial)), fun _ => (by (with_reducible repeat (first | apply Kd.R_alloc | apply Kd.R_drewN | apply Kd.R_drew)); first | exact HO344.out | exact Kd.R_mono HO344.out (fun _ _ => trivial)), fun _ => (by (with_reducible repeat (first | apply Kd.R_alloc | apply Kd.R_drewN | apply Kd.R_drew)); exact Kd.R_mono HO347.out (fun _ hk => by first | exact hk.2 | trivial)), fun h0_ => absurd ((hoff 14 (by kernel_rfl)).symm.trans h0_) (by decide)⟩
   refine steps_cons ?_ ?_
   ·rintro b a w' ⟨v337, v340, v343, v346, m14_, ha, Q_BK334, Q_HB, Q_HO338, Q_HO341, Q_HO344, Q_HO347, Q_X14_⟩ hb_ hon hoff
    refine ⟨_, rfl, fun K hK => ?_⟩
    have e21 : a.tmps[21]? = some (v346) := by rw [ha]; exact putSel_on (e := (13, 21, v346)) 9 rfl rfl (hon 13 (by kernel_rfl)) rfl
    replace ha := Aside0.mk ha
    have BK334 := Aside0.mk Q_BK334
    have HB := Aside0.mk Q_HB
    have HO338 := Aside0.mk (Q_HO338 (hon 6 (by kernel_rfl)))
    have HO341 := Aside0.mk (Q_HO341 (hon 7 (by kernel_rfl)))
    have HO344 := Aside0.mk (Q_HO344 (hon 12 (by kernel_rfl)))
    have HO347 := Aside0.mk (Q_HO347 (hon 13 (by kernel_rfl)))
    refine value_ (w1 := w') (v := v346) (by rfl) rfl ?_ ?_
    ·go_simp
     (try simp only [i64_w])
     try rfl
    refine hK.out _ _ ⟨v337, v340, v343, v346, (v346), (by rw [ha.out]; exact putSel_upk 10 hb_ rfl rfl rfl), Q_BK334, Q_HB, Q_HO338, Q_HO341, Q_HO344, Q_HO347, fun _ => rfl⟩
   exact steps_nil
  rintro b a w20 hall ⟨v337, v340, v343, v346, m14_, ha, Q_BK334, Q_HB, Q_HO338, Q_HO341, Q_HO344, Q_HO347, Q_X14_⟩
  clear BK334 HB
  have hb1_ := hall 1 (by kernel_rfl)
  have hb2_ := hall 2 (by kernel_rfl)
  have hb4_ := hall 4 (by kernel_rfl)
  have hb5_ := hall 5 (by kernel_rfl)
  have hb6_ := hall 6 (by kernel_rfl)
  have hb7_ := hall 7 (by kernel_rfl)
  have hb9_ := hall 9 (by kernel_rfl)
  have hb11_ := hall 11 (by kernel_rfl)
  have hb12_ := hall 12 (by kernel_rfl)
  have hb13_ := hall 13 (by kernel_rfl)
  have hb14_ := hall 14 (by kernel_rfl)
  subst ha
  obtain rfl := Q_X14_ hb14_
  simp only [putSel, hb1_, hb2_, hb4_, hb5_, hb6_, hb7_, hb9_, hb11_, hb12_, hb13_, hb14_, if_true, Act.put, List.setIfInBounds_toArray, List.set_cons_zero, List.set_cons_succ]
  have BK334 := Aside0.mk Q_BK334
  clear Q_BK334
  have HB := Aside0.mk Q_HB
  clear Q_HB
  have HO338 := Aside0.mk (Q_HO338 hb6_)
  clear Q_HO338
  have HO341 := Aside0.mk (Q_HO341 hb7_)
  clear Q_HO341
  have HO344 := Aside0.mk (Q_HO344 hb12_)
  clear Q_HO344
  have HO347 := Aside0.mk (Q_HO347 hb13_)
  clear Q_HO347
  clear hall hb1_ hb2_ hb4_ hb5_ hb6_ hb7_ hb9_ hb11_ hb12_ hb13_ hb14_
  have hcz21_0 : w20.cell? ⟨gb334, 0, none⟩ = some (.int .i64 a0_0) := (blk_cell BK334.out 0).trans rfl
  have hcz21_1 : w20.cell? ⟨gb334, 1, none⟩ = some (.int .i64 a0_1) := (blk_cell BK334.out 1).trans rfl
  have hcz21_2 : w20.cell? ⟨gb334, 2, none⟩ = some (.int .i64 a0_2) := (blk_cell BK334.out 2).trans rfl
  have hcz21_3 : w20.cell? ⟨gb334, 3, none⟩ = some (.int .i64 a0_3) := (blk_cell BK334.out 3).trans rfl
  have hcz21_4 : w20.cell? ⟨gb334, 4, none⟩ = some (.int .i64 a0_4) := (blk_cell BK334.out 4).trans rfl
  have hfz21_0 := blk_frozen BK334.out 0
  have hfz21_1 := blk_frozen BK334.out 1
  have hfz21_2 := blk_frozen BK334.out 2
  have hfz21_3 := blk_frozen BK334.out 3
  have hfz21_4 := blk_frozen BK334.out 4
  obtain ⟨Ao22, co22, eo22⟩ := Kd.R_slice HO347.out
  subst eo22
  try go_wp2_with (first | ((with_reducible refine gate_callee (f := 40) rfl ?_); refine goesL_ (some 26) rfl rfl Tryd.func40 (by kernel_rfl) rfl #[.slice none 0 0, .int .u8 ((a0_1) % 256), .slice Ao22 t345.length co22] rfl (by (try simp only [List.map_toArray, List.map_cons, List.map_nil]); first | done | rfl | (simp only [List.length_drop, List.length_take]; first | rfl | (rw [Nat.min_eq_left (Int.toNat_le.2 (of_decide_eq_true (by assumption)))]; rfl))) ?_; (refine (palletref02_Record.calls k _ _ ([] : List Int) ((a0_1) % 256) _ _ t345 t348 t349 _ ?side1 ?side2 ?side3 ?side4 A6.out).mono ?_); (case side1 => exact Kd.C_nil _ _); (case side2 => exact Nat.le_refl _); (case side3 => repeat (first | exact (Kd.R_reads' HO347.out).2.2 | (with_reducible refine Kd.C_alloc ?_ _) | (with_reducible refine Kd.C_drewN ?_ _) | (with_reducible refine Kd.C_drew ?_))); (case side4 => exact (Kd.R_reads' HO347.out).2.1); rintro e w23 ⟨v350, rfl, ho0, hb⟩; refine ⟨_, rfl, ?_⟩; have n0_ := Aside0.mk (Kd.R_below (by (with_reducible repeat (first | apply Kd.R_alloc | apply Kd.R_drewN | apply Kd.R_drew)); first | exact HO338.out | exact Kd.R_mono HO338.out (fun _ _ => trivial)) hb); have n1_ := Aside0.mk (Kd.R_elder' (by (with_reducible repeat (first | apply Kd.R_alloc | apply Kd.R_drewN | apply Kd.R_drew)); first | exact HO341.out | exact Kd.R_mono HO341.out (fun _ _ => trivial)) (Kd.R_base ho0) hb); have n2_ := Aside0.mk (Kd.R_below (by (with_reducible repeat (first | apply Kd.R_alloc | apply Kd.R_drewN | apply Kd.R_drew)); first | exact HO344.out | exact Kd.R_mono HO344.out (fun _ _ => trivial)) hb); have n3_ := Aside0.mk (Kd.R_elder' (by (with_reducible repeat (first | apply Kd.R_alloc | apply Kd.R_drewN | apply Kd.R_drew)); first | exact HO347.out | exact Kd.R_mono HO347.out (fun _ _ => trivial)) (Kd.R_base ho0) hb); have n4_ := Aside0.mk (Kd.R_lower (Kd.R_new' (Kd.R_new' ho0 (Kd.R_lt (by (with_reducible repeat (first | apply Kd.R_alloc | apply Kd.R_drewN | apply Kd.R_drew)); first | exact HO341.out | exact Kd.R_mono HO341.out (fun _ _ => trivial)))) (Kd.R_lt (by (with_reducible repeat (first | apply Kd.R_alloc | apply Kd.R_drewN | apply Kd.R_drew)); first | exact HO347.out | exact Kd.R_mono HO347.out (fun _ _ => trivial)))) (below_size (by repeat (first | (with_reducible first | exact HB.out | apply below_alloc | apply pw_below_drewN | apply below_drew1 | refine below_set ?_ GE334.out) | exact HB.out)))); have n5_ := Aside0.mk (blk_below (g := gb334) (o := .cells #[.int .i64 a0_0, .int .i64 a0_1, .int .i64 a0_2, .int .i64 a0_3, .int .i64 a0_4] 30 (0, 0)) (by (with_reducible repeat (first | refine blk_drewN ?_ _ | refine blk_drew ?_ | refine blk_alloc ?_ _)); exact BK334.out) hb); have n6_ := Aside0.mk (below_step (by repeat (first | (with_reducible first | exact HB.out | apply below_alloc | apply pw_below_drewN | apply below_drew1 | refine below_set ?_ GE334.out) | exact HB.out)) hb); clear HO338; clear HO341; clear HO344; clear HO347; clear BK334; clear HB; have HO338 := n0_; have HO341 := n1_; have HO344 := n2_; have HO347 := n3_; have HO351 := n4_; have BK334 := n5_; have HB := n6_; clear n0_ n1_ n2_ n3_ n4_ n5_ n6_; (try clear hb); (try clear hb2); (try clear hk); (try clear hi); (try clear ho0)))
  go_ret2
  exact ⟨_, by first | rfl | (simp [errW_none, errW_some] <;> rfl) | (simp [*, errW_none, errW_some] <;> rfl), by (with_reducible repeat (first | apply Kd.R_alloc | apply Kd.R_drewN | apply Kd.R_drew)); exact Kd.R_mono HO351.out (fun _ hk => trivial), by repeat (first | (with_reducible first | exact HB.out | apply below_alloc | apply pw_below_drewN | apply below_drew1 | refine below_set ?_ GE334.out) | exact HB.out)⟩
 ·replace c3 := Bool.eq_false_iff.mpr c3
  subst c3
  have H1 : (some (([] : List Int), 1)) = some (r1, r2) := by rw [if_neg (show ¬ (false = true) by decide)] at H; exact H
  clear H
  have H := H1
  clear H1
  simp only [Option.some.injEq, Prod.mk.injEq] at H
  obtain ⟨rfl, rfl⟩ := H
  go_enter Tryd.func16, Tryd.ntmps16
  go_wp2_with (first | ((with_reducible refine gate_dst (N := 1) rfl ?_); refine box_event ?hg (N := 1) ?hd (cs := #[.int .i64 a0_0, .int .i64 a0_1, .int .i64 a0_2, .int .i64 a0_3, .int .i64 a0_4]) (t := 30) ?hr ?_; (case hd => rfl); (case hg => rfl); (case hr => first | (go_simp; done) | (go_simp; rfl)); intro gb334 hg w24 hbox hb; have n0_ := Aside0.mk (below_step (by repeat (first | (with_reducible first | exact HB.out | apply below_alloc | apply pw_below_drewN | apply below_drew1) | exact HB.out)) hb); have n1_ := Aside0.mk (hbox); have n2_ := Aside0.mk ((by rw [hg]; exact (below_size (by repeat (first | (with_reducible first | exact HB.out | apply below_alloc | apply pw_below_drewN | apply below_drew1) | exact HB.out))) : w.heap.size ≤ gb334)); have n3_ := Aside0.mk ((by rw [hg]; exact (below_size (by repeat (first | (with_reducible first | exact HB.out | apply below_alloc | apply pw_below_drewN | apply below_drew1) | exact HB.out))) : w.heap.size ≤ gb334)); clear HB; have HB := n0_; have BK334 := n1_; have GW334 := n2_; have GE334 := n3_; clear n0_ n1_ n2_ n3_; clear hb hbox hg; have hcz25_0 : w24.cell? ⟨gb334, 0, none⟩ = some (.int .i64 a0_0) := (blk_cell BK334.out 0).trans rfl; have hcz25_1 : w24.cell? ⟨gb334, 1, none⟩ = some (.int .i64 a0_1) := (blk_cell BK334.out 1).trans rfl; have hcz25_2 : w24.cell? ⟨gb334, 2, none⟩ = some (.int .i64 a0_2) := (blk_cell BK334.out 2).trans rfl; have hcz25_3 : w24.cell? ⟨gb334, 3, none⟩ = some (.int .i64 a0_3) := (blk_cell BK334.out 3).trans rfl; have hcz25_4 : w24.cell? ⟨gb334, 4, none⟩ = some (.int .i64 a0_4) := (blk_cell BK334.out 4).trans rfl; have hfz25_0 := blk_frozen BK334.out 0; have hfz25_1 := blk_frozen BK334.out 1; have hfz25_2 := blk_frozen BK334.out 2; have hfz25_3 := blk_frozen BK334.out 3; have hfz25_4 := blk_frozen BK334.out 4) | ((with_reducible refine gate_callee (f := 38) rfl ?_); refine goesL_ (some 6) rfl rfl Tryd.func38 (by kernel_rfl) rfl #[.agg #[.int .i64 a0_0, .int .i64 a0_1, .int .i64 a0_2, .int .i64 a0_3, .int .i64 a0_4]] rfl (by (try simp only [List.map_toArray, List.map_cons, List.map_nil]); first | done | rfl | (simp only [List.length_drop, List.length_take]; first | rfl | (rw [Nat.min_eq_left (Int.toNat_le.2 (of_decide_eq_true (by assumption)))]; rfl))) ?_; (with_reducible refine (palletref19_One.calls k a0_0 a0_1 a0_2 a0_3 a0_4 false _ A2.out).mono ?_); rintro e w26 ⟨rfl, hb⟩; refine ⟨_, rfl, ?_⟩; have n0_ := Aside0.mk (blk_below (g := gb334) (o := .cells #[.int .i64 a0_0, .int .i64 a0_1, .int .i64 a0_2, .int .i64 a0_3, .int .i64 a0_4] 30 (0, 0)) (by (with_reducible repeat (first | refine blk_drewN ?_ _ | refine blk_drew ?_ | refine blk_alloc ?_ _)); exact BK334.out) hb); have n1_ := Aside0.mk (below_step (by repeat (first | (with_reducible first | exact HB.out | apply below_alloc | apply pw_below_drewN | apply below_drew1 | refine below_set ?_ GE334.out) | exact HB.out)) hb); clear BK334; clear HB; have BK334 := n0_; have HB := n1_; clear n0_ n1_; (try clear hb); (try clear hb2); (try clear hk); (try clear hi)))
  go_ret2
  exact ⟨_, by first | rfl | (simp [errW_none, errW_some] <;> rfl) | (simp [*, errW_none, errW_some] <;> rfl), by first | exact Kd.R_nil _ _ _ _ _ | exact Kd.N_nil _ _ _ _ _ | exact Kd.V_nil _ _ _ _ _ | exact Kd.Q_nil _ _ _ _ _ | exact Kd.S_nil _ _ _ _ _, by repeat (first | (with_reducible first | exact HB.out | apply below_alloc | apply pw_below_drewN | apply below_drew1 | refine below_set ?_ GE334.out) | exact HB.out)⟩

end Go.Proofs.YtcbjbgleflbpmaaDoor.Print
