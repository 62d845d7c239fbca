-- PRINTED by print.py (a twelfth state) out of the translation. Not trusted: Lean checks it.
import Derived.Test.YtogdelhofdelgaaPrint0
import Derived.Test.YtogdelhofdelgaaPrint2
import Derived.Test.YtogdelhofdelgaaPrint3
import Derived.Test.YtogdelhofdelgaaPrint5
import Derived.Test.YtogdelhofdelgaaPrint6
namespace Go.Proofs.Ytogdelhofdelgaa.Print
open Go.RowKit Go.Proofs.YtogdelhofdelgaaW.PrintWords Go.Proofs.YtogdelhofdelgaaW.PrintLast Go.Proofs.YtogdelhofdelgaaW.PrintMore Go.Proofs.YtogdelhofdelgaaX
attribute [local go_sem] str_lss str_geq max2_int min2_int max_two min_two max_three min_three max_four min_four   -- for this text's walks alone
set_option linter.unusedVariables false
set_option linter.unusedSimpArgs false

/-! ### frame_Write: function 9 -/
def frame_Write.f (k : Nat) (a0_0 : Int) (a0_1 : Int) (a0_2 : Int) (a0_3 : Int) : Option (List Int × Int) := (frame_Check.f k a0_0 a0_1 a0_2 a0_3).bind fun t145 => (if t145 = 0 then ((wire_Vary.f k (([161, (a0_0) % 256, (a0_1) % 256] : List Int)) (([a0_2] : List Int))).bind fun t152 => ((wire_Fixed.f k t152 2 (IntKind.u64.wrap (a0_3))).bind fun bt155 => (if bt155.2 = 0 then ((crc_Seal24.f bt155.1).bind fun bt159 => (some (bt159.1, bt159.2))) else (some (([] : List Int), bt155.2))))) else (some (([] : List Int), t145)))
theorem frame_Write.mono : ∀ a0 a1 a2 a3 k, LeO (frame_Write.f k a0 a1 a2 a3) (frame_Write.f (k + 1) a0 a1 a2 a3) := by
 intro a0 a1 a2 a3 k
 unfold frame_Write.f
 repeat' first
   | (with_reducible exact frame_Check.mono _ _ _ _ _)
   | (with_reducible exact wire_Fixed.mono _ _ _ _)
   | (with_reducible exact wire_Vary.mono _ _ _)
   | (with_reducible exact LeO.refl _)
   | (with_reducible exact LeO.none _)
   | (with_reducible refine LeO.ite ?_ ?_)
   | (with_reducible refine LeO.bind ?_ (fun _ => ?_))
   | exact frame_Check.mono _ _ _ _ _
   | exact wire_Fixed.mono _ _ _ _
   | exact wire_Vary.mono _ _ _
   | exact LeO.none _
   | refine LeO.ite ?_ ?_
   | refine LeO.bind ?_ (fun _ => ?_)
def frame_Write.T4 : Bool × List (List Nat × List Nat) := (true, [([], []), ([0], [0]), ([1], [1]), ([], []), ([3], [3]), ([4], [4]), ([2, 5], [2, 5]), ([], []), ([7], [7]), ([8], [8]), ([6, 9], [6, 9]), ([], []), ([11], [11]), ([12], [12]), ([10, 13, 10], [10, 13]), ([14], [14]), ([15], [15]), ([15], [15]), ([16, 14, 0, 1, 2, 3, 4, 5, 6, 7, 8, 9, 10, 11, 12, 13, 14, 15, 16], [16]), ([17, 18, 0, 1, 2, 3, 4, 5, 6, 7, 8, 9, 10, 11, 12, 13, 14, 15, 16, 17, 18], [17])])
def frame_Write.B4 : List Nat := [0, 1, 3, 0, 8, 24, 63, 0, 128, 384, 1023, 0, 2048, 6144, 16383, 32767, 65535, 65535, 131071, 524287]
theorem frame_Write.tab4 : rtab .any (opsOf Try.f9 4) = frame_Write.T4 := by kernel_rfl
theorem frame_Write.bits4 : waitsOk frame_Write.T4.2 frame_Write.B4 = true := by kernel_rfl
set_option maxHeartbeats 8000000 in
set_option maxRecDepth 100000 in
theorem frame_Write.calls (k : Nat) (a0_0 : Int) (a0_1 : Int) (a0_2 : Int) (a0_3 : Int) (r1 : List Int) (r2 : Int) (w : World) (h : frame_Write.f k a0_0 a0_1 a0_2 a0_3 = some (r1, r2)) :
  Calls Try.prog 9 #[.agg #[.int .i64 a0_0, .int .i64 a0_1, .int .u64 a0_2, .int .u16 a0_3]] w fun e w' => ∃ v0_ : Value, e = .returned (.tuple #[v0_, .int .i64 r2]) ∧ Kd.R (Kd.int .u8) 5 w' w.heap.size (fun _ => True) v0_ r1 ∧ Below w.heap.size w w' := by
 have hu25 := Try.underlying25
 have HB := Aside0.mk (Below.refl w.heap.size w)
 have H : ((frame_Check.f k a0_0 a0_1 a0_2 a0_3).bind fun t145 => (if t145 = 0 then ((wire_Vary.f k (([161, (a0_0) % 256, (a0_1) % 256] : List Int)) (([a0_2] : List Int))).bind fun t152 => ((wire_Fixed.f k t152 2 (IntKind.u64.wrap (a0_3))).bind fun bt155 => (if bt155.2 = 0 then ((crc_Seal24.f bt155.1).bind fun bt159 => (some (bt159.1, bt159.2))) else (some (([] : List Int), bt155.2))))) else (some (([] : List Int), t145)))) = some (r1, r2) := h
 clear h
 replace H := Option.bind_eq_some_iff.mp H
 obtain ⟨t145, A20, H⟩ := H
 replace H : (if t145 = 0 then ((wire_Vary.f k (([161, (a0_0) % 256, (a0_1) % 256] : List Int)) (([a0_2] : List Int))).bind fun t152 => ((wire_Fixed.f k t152 2 (IntKind.u64.wrap (a0_3))).bind fun bt155 => (if bt155.2 = 0 then ((crc_Seal24.f bt155.1).bind fun bt159 => (some (bt159.1, bt159.2))) else (some (([] : List Int), bt155.2))))) else (some (([] : List Int), t145))) = some (r1, r2) := H
 have A2 := Aside0.mk A20
 clear A20
 by_cases c3 : t145 = 0
 ·rw [if_pos c3] at H
  have c3b0 : (t145 == 0) = true := beq_iff_eq.mpr c3
  have c3b1 : (t145 != 0) = false := bne_eq_false_iff_eq.mpr c3
  clear c3
  obtain ⟨y146, hy146⟩ : ∃ y_ : List Int, y_ = (([161, (a0_0) % 256, (a0_1) % 256] : List Int)) := ⟨_, rfl⟩
  replace H : ((wire_Vary.f k y146 (([a0_2] : List Int))).bind fun t152 => ((wire_Fixed.f k t152 2 (IntKind.u64.wrap (a0_3))).bind fun bt155 => (if bt155.2 = 0 then ((crc_Seal24.f bt155.1).bind fun bt159 => (some (bt159.1, bt159.2))) else (some (([] : List Int), bt155.2))))) = some (r1, r2) := by first | (rw [hy146]; with_reducible exact H) | (have H2_ := (Option.bind_some _ _).symm.trans H; rw [hy146]; with_reducible exact H2_) | (have H2_ := (Option.bind_some _ _).symm.trans H; with_reducible exact H2_) | with_reducible exact H | (rw [hy146]; exact H) | exact H
  have Ny146 := Aside0.mk hy146
  clear hy146
  obtain ⟨y149, hy149⟩ : ∃ y_ : List Int, y_ = (([a0_2] : List Int)) := ⟨_, rfl⟩
  replace H : ((wire_Vary.f k y146 y149).bind fun t152 => ((wire_Fixed.f k t152 2 (IntKind.u64.wrap (a0_3))).bind fun bt155 => (if bt155.2 = 0 then ((crc_Seal24.f bt155.1).bind fun bt159 => (some (bt159.1, bt159.2))) else (some (([] : List Int), bt155.2))))) = some (r1, r2) := by first | (rw [hy149]; with_reducible exact H) | (have H2_ := (Option.bind_some _ _).symm.trans H; rw [hy149]; with_reducible exact H2_) | (have H2_ := (Option.bind_some _ _).symm.trans H; with_reducible exact H2_) | with_reducible exact H | (rw [hy149]; exact H) | exact H
  have Ny149 := Aside0.mk hy149
  clear hy149
  replace H := Option.bind_eq_some_iff.mp H
  obtain ⟨t152, A40, H⟩ := H
  replace H : ((wire_Fixed.f k t152 2 (IntKind.u64.wrap (a0_3))).bind fun bt155 => (if bt155.2 = 0 then ((crc_Seal24.f bt155.1).bind fun bt159 => (some (bt159.1, bt159.2))) else (some (([] : List Int), bt155.2)))) = some (r1, r2) := H
  have A4 := Aside0.mk A40
  clear A40
  replace H := Option.bind_eq_some_iff.mp H
  obtain ⟨⟨t155, t156⟩, A50, H⟩ := H
  replace H : (if t156 = 0 then ((crc_Seal24.f t155).bind fun bt159 => (some (bt159.1, bt159.2))) else (some (([] : List Int), t156))) = some (r1, r2) := H
  have A5 := Aside0.mk A50
  clear A50
  by_cases c6 : t156 = 0
  ·rw [if_pos c6] at H
   have c6b0 : (t156 == 0) = true := beq_iff_eq.mpr c6
   have c6b1 : (t156 != 0) = false := bne_eq_false_iff_eq.mpr c6
   clear c6
   replace H := Option.bind_eq_some_iff.mp H
   obtain ⟨⟨t159, t160⟩, A70, H⟩ := H
   replace H : (some (t159, t160)) = some (r1, r2) := H
   have A7 := Aside0.mk A70
   clear A70
   simp only [Option.some.injEq, Prod.mk.injEq] at H
   obtain ⟨rfl, rfl⟩ := H
   go_enter Try.func9, Try.ntmps9
   try go_wp2_with (first | ((with_reducible refine gate_dst (N := 1) rfl ?_); refine box_event ?hg (N := 1) ?hd (cs := #[.int .i64 a0_0, .int .i64 a0_1, .int .u64 a0_2, .int .u16 a0_3]) (t := 25) ?hr ?_; (case hd => rfl); (case hg => rfl); (case hr => first | (go_simp; done) | (go_simp; rfl)); intro gb144 hg w8 hbox hb; have n0_ := Aside0.mk (below_step (by repeat (first | (with_reducible first | exact HB.out | apply below_alloc | apply pw_below_drewN | apply below_drew1) | exact HB.out)) hb); have n1_ := Aside0.mk (hbox); have n2_ := Aside0.mk ((by rw [hg]; exact (below_size (by repeat (first | (with_reducible first | exact HB.out | apply below_alloc | apply pw_below_drewN | apply below_drew1) | exact HB.out))) : w.heap.size ≤ gb144)); have n3_ := Aside0.mk ((by rw [hg]; exact (below_size (by repeat (first | (with_reducible first | exact HB.out | apply below_alloc | apply pw_below_drewN | apply below_drew1) | exact HB.out))) : w.heap.size ≤ gb144)); clear HB; have HB := n0_; have BK144 := n1_; have GW144 := n2_; have GE144 := n3_; clear n0_ n1_ n2_ n3_; clear hb hbox hg; have hcz9_0 : w8.cell? ⟨gb144, 0, none⟩ = some (.int .i64 a0_0) := (blk_cell BK144.out 0).trans rfl; have hcz9_1 : w8.cell? ⟨gb144, 1, none⟩ = some (.int .i64 a0_1) := (blk_cell BK144.out 1).trans rfl; have hcz9_2 : w8.cell? ⟨gb144, 2, none⟩ = some (.int .u64 a0_2) := (blk_cell BK144.out 2).trans rfl; have hcz9_3 : w8.cell? ⟨gb144, 3, none⟩ = some (.int .u16 a0_3) := (blk_cell BK144.out 3).trans rfl; have hfz9_0 := blk_frozen BK144.out 0; have hfz9_1 := blk_frozen BK144.out 1; have hfz9_2 := blk_frozen BK144.out 2; have hfz9_3 := blk_frozen BK144.out 3) | ((with_reducible refine gate_callee (f := 24) rfl ?_); refine goesL_ (some 8) rfl rfl Try.func24 (by kernel_rfl) rfl #[.agg #[.int .i64 a0_0, .int .i64 a0_1, .int .u64 a0_2, .int .u16 a0_3]] rfl (by (try simp only [List.map_toArray, List.map_cons, List.map_nil]); first | done | rfl | (simp only [List.length_drop, List.length_take]; first | rfl | (rw [Nat.min_eq_left (Int.toNat_le.2 (of_decide_eq_true (by assumption)))]; rfl))) ?_; (with_reducible refine (frame_Check.calls k a0_0 a0_1 a0_2 a0_3 t145 _ A2.out).mono ?_); rintro e w10 ⟨rfl, hb⟩; refine ⟨_, rfl, ?_⟩; have n0_ := Aside0.mk (blk_below (g := gb144) (o := .cells #[.int .i64 a0_0, .int .i64 a0_1, .int .u64 a0_2, .int .u16 a0_3] 25 (0, 0)) (by (with_reducible repeat (first | refine blk_drewN ?_ _ | refine blk_drew ?_ | refine blk_alloc ?_ _)); exact BK144.out) hb); have n1_ := Aside0.mk (below_step (by repeat (first | (with_reducible first | exact HB.out | apply below_alloc | apply pw_below_drewN | apply below_drew1 | refine below_set ?_ GE144.out) | exact HB.out)) hb); clear BK144; clear HB; have BK144 := n0_; have HB := n1_; clear n0_ n1_; (try clear hb); (try clear hb2); (try clear hk); (try clear hi)))
   have n0_ := Aside0.mk (blk_drew BK144.out)
   have n1_ := Aside0.mk (below_drew1 HB.out)
   clear BK144
   clear HB
   have BK144 := n0_
   have HB := n1_
   clear n0_ n1_
   refine start_ (n := 20) (S := fun w' => True) (ds := []) #[false, false, false, false, false, false, false, false, false, false, false, false, false, false, false, false, false, false, false, false] (by kernel_rfl) rfl rfl trivial (fun hHeld => ?_); refine with_tabW frame_Write.tab4 frame_Write.bits4 (fun HT_ HW_ => ?_)
   generalize w10.drew = w11 at BK144 HB hHeld ⊢
   refine pure_ (i := 0) (N := some 13) (v := ?_) (a' := ?_) #[true, false, false, false, false, false, false, false, false, false, false, false, false, false, false, false, false, false, false, false] rfl rfl (any_of HT_.out (by kernel_rfl)) (fun _ _ _ h => h) (Or.inl ⟨by rfl, ?_⟩) ?_ ?_
   rotate_left
   ·intro w'
    go_simp
    with_reducible rfl
   rotate_left
   ·simp only [Act.put, List.setIfInBounds_toArray, List.set_cons_zero, List.set_cons_succ, i64_w, i32_w]
    rfl
   refine pure_ (i := 3) (N := some 16) (v := ?_) (a' := ?_) #[true, false, false, true, false, false, false, false, false, false, false, false, false, false, false, false, false, false, false, false] rfl rfl (any_of HT_.out (by kernel_rfl)) (fun _ _ _ h => h) (Or.inl ⟨by rfl, ?_⟩) ?_ ?_
   rotate_left
   ·intro w'
    go_simp
    with_reducible rfl
   rotate_left
   ·simp only [Act.put, List.setIfInBounds_toArray, List.set_cons_zero, List.set_cons_succ, i64_w, i32_w]
    rfl
   refine pure_ (i := 7) (N := some 20) (v := ?_) (a' := ?_) #[true, false, false, true, false, false, false, true, false, false, false, false, false, false, false, false, false, false, false, false] rfl rfl (any_of HT_.out (by kernel_rfl)) (fun _ _ _ h => h) (Or.inl ⟨by rfl, ?_⟩) ?_ ?_
   rotate_left
   ·intro w'
    go_simp
    with_reducible rfl
   rotate_left
   ·simp only [Act.put, List.setIfInBounds_toArray, List.set_cons_zero, List.set_cons_succ, i64_w, i32_w]
    rfl
   refine pure_ (i := 11) (N := some 24) (v := ?_) (a' := ?_) #[true, false, false, true, false, false, false, true, false, false, false, true, false, false, false, false, false, false, false, false] rfl rfl (any_of HT_.out (by kernel_rfl)) (fun _ _ _ h => h) (Or.inl ⟨by rfl, ?_⟩) ?_ ?_
   rotate_left
   ·intro w'
    go_simp
    with_reducible rfl
   rotate_left
   ·simp only [Act.put, List.setIfInBounds_toArray, List.set_cons_zero, List.set_cons_succ, i64_w, i32_w]
    rfl
   refine inv_at [1, 2, 4, 5, 6, 8, 9, 10, 12, 13, 14, 15, 16, 17, 18, 19] (fun a0_ b a w' => ∃ (v147 : Value) (v150 : Value) (v153 : Value) (v157 : Value) (m14_ : Value) (m15_ : Value) (m16_ : Value) (m18_ : Value), a = putSel a0_ b [(1, 14, .int .i64 a0_0), (2, 15, .int .u8 ((a0_0) % 256)), (4, 17, .int .i64 a0_1), (5, 18, .int .u8 ((a0_1) % 256)), (6, 19, v147), (8, 21, .int .u64 a0_2), (9, 22, v150), (10, 23, v153), (12, 25, .int .u16 a0_3), (13, 26, .int .u64 (IntKind.u64.wrap (a0_3))), (14, 27, m14_), (15, 12, m15_), (16, 28, m16_), (17, 29, .int .i64 t156), (18, 5, m18_), (19, 6, .int .i64 t156)] ∧ (w'.heap[gb144]? = some (.cells #[.int .i64 a0_0, .int .i64 a0_1, .int .u64 a0_2, .int .u16 a0_3] 25 (0, 0))) ∧ (Below w.heap.size w w') ∧ (b 6 = true → Kd.R (Kd.int .u8) 5 w' w.heap.size (fun _ => True) v147 y146) ∧ (b 9 = true → Kd.R (Kd.int .u64) 22 w' w.heap.size (fun _ => True) v150 y149) ∧ (b 10 = true → Kd.R (Kd.int .u8) 5 w' w.heap.size (fun _ => True) v153 t152) ∧ (b 14 = true → Kd.R (Kd.int .u8) 5 w' w.heap.size (fun _ => True) v157 t155) ∧ (b 14 = true → (m14_ : Value) = .tuple #[v157, .int .i64 t156]) ∧ (b 15 = true → (m15_ : Value) = .tuple #[v157, .int .i64 t156]) ∧ (b 16 = true → (m16_ : Value) = v157) ∧ (b 18 = true → (m18_ : Value) = v157)) HT_.out HW_.out (by kernel_rfl) (by kernel_rfl) ?_ ?_ ?_
   ·exact ⟨.bool false, .bool false, .bool false, .bool false, .bool false, .bool false, .bool false, .bool false, by simp only [putSel, Bool.false_eq_true, if_false], BK144.out, HB.out, fun h_ => absurd h_ (by decide), fun h_ => absurd h_ (by decide), fun h_ => absurd h_ (by decide), fun h_ => absurd h_ (by decide), fun h_ => absurd h_ (by decide), fun h_ => absurd h_ (by decide), fun h_ => absurd h_ (by decide), fun h_ => absurd h_ (by decide)⟩
   ·skip
    clear BK144 HB
    refine steps_cons ?_ ?_
    ·rintro b a w' ⟨v147, v150, v153, v157, m14_, m15_, m16_, m18_, ha, Q_BK144, Q_HB, Q_HO148, Q_HO151, Q_HO154, Q_HO158, Q_X14_, Q_X15_, Q_X16_, Q_X18_⟩ hb_ hon hoff
     refine ⟨_, rfl, fun K hK => ?_⟩
     have e13 : a.tmps[13]? = some (.pointer (some ⟨gb144, 0, none⟩)) := by rw [ha]; exact (putSel_off rfl).trans rfl
     replace ha := Aside0.mk ha
     have BK144 := Aside0.mk Q_BK144
     have HB := Aside0.mk Q_HB
     have hc0_ : w'.cell? ⟨gb144, 0, none⟩ = some (.int .i64 a0_0) := (blk_cell BK144.out 0).trans rfl
     have hc1_ : w'.cell? ⟨gb144, 1, none⟩ = some (.int .i64 a0_1) := (blk_cell BK144.out 1).trans rfl
     have hc2_ : w'.cell? ⟨gb144, 2, none⟩ = some (.int .u64 a0_2) := (blk_cell BK144.out 2).trans rfl
     have hc3_ : w'.cell? ⟨gb144, 3, none⟩ = some (.int .u16 a0_3) := (blk_cell BK144.out 3).trans rfl
     refine value_ (w1 := w') (v := .int .i64 a0_0) (by rfl) rfl ?_ ?_
     ·go_simp
      (try simp only [i64_w])
      try rfl
     refine hK.out _ _ ⟨v147, v150, v153, v157, m14_, m15_, m16_, m18_, (by rw [ha.out]; exact putSel_upk 0 hb_ rfl rfl rfl), Q_BK144, Q_HB, fun h0_ => absurd ((hoff 6 (by kernel_rfl)).symm.trans h0_) (by decide), Q_HO151, fun h0_ => absurd ((hoff 10 (by kernel_rfl)).symm.trans h0_) (by decide), fun h0_ => absurd ((hoff 14 (by kernel_rfl)).symm.trans h0_) (by decide), fun h0_ => absurd ((hoff 14 (by kernel_rfl)).symm.trans h0_) (by decide), fun h0_ => absurd ((hoff 15 (by kernel_rfl)).symm.trans h0_) (by decide), fun h0_ => absurd ((hoff 16 (by kernel_rfl)).symm.trans h0_) (by decide), fun h0_ => absurd ((hoff 18 (by kernel_rfl)).symm.trans h0_) (by decide)⟩
    refine steps_cons ?_ ?_
    ·rintro b a w' ⟨v147, v150, v153, v157, m14_, m15_, m16_, m18_, ha, Q_BK144, Q_HB, Q_HO148, Q_HO151, Q_HO154, Q_HO158, Q_X14_, Q_X15_, Q_X16_, Q_X18_⟩ hb_ hon hoff
     refine ⟨_, rfl, fun K hK => ?_⟩
     have e14 : a.tmps[14]? = some (.int .i64 a0_0) := by rw [ha]; exact putSel_on (e := (1, 14, .int .i64 a0_0)) 0 rfl rfl (hon 1 (by kernel_rfl)) rfl
     replace ha := Aside0.mk ha
     have BK144 := Aside0.mk Q_BK144
     have HB := Aside0.mk Q_HB
     refine value_ (w1 := w') (v := .int .u8 ((a0_0) % 256)) (by rfl) rfl ?_ ?_
     ·go_simp
      (try simp only [i64_w])
      try rfl
     refine hK.out _ _ ⟨v147, v150, v153, v157, m14_, m15_, m16_, m18_, (by rw [ha.out]; exact putSel_upk 1 hb_ rfl rfl rfl), Q_BK144, Q_HB, fun h0_ => absurd ((hoff 6 (by kernel_rfl)).symm.trans h0_) (by decide), Q_HO151, fun h0_ => absurd ((hoff 10 (by kernel_rfl)).symm.trans h0_) (by decide), fun h0_ => absurd ((hoff 14 (by kernel_rfl)).symm.trans h0_) (by decide), fun h0_ => absurd ((hoff 14 (by kernel_rfl)).symm.trans h0_) (by decide), fun h0_ => absurd ((hoff 15 (by kernel_rfl)).symm.trans h0_) (by decide), fun h0_ => absurd ((hoff 16 (by kernel_rfl)).symm.trans h0_) (by decide), fun h0_ => absurd ((hoff 18 (by kernel_rfl)).symm.trans h0_) (by decide)⟩
    refine steps_cons ?_ ?_
    ·rintro b a w' ⟨v147, v150, v153, v157, m14_, m15_, m16_, m18_, ha, Q_BK144, Q_HB, Q_HO148, Q_HO151, Q_HO154, Q_HO158, Q_X14_, Q_X15_, Q_X16_, Q_X18_⟩ hb_ hon hoff
     refine ⟨_, rfl, fun K hK => ?_⟩
     have e16 : a.tmps[16]? = some (.pointer (some ⟨gb144, 1, none⟩)) := by rw [ha]; exact (putSel_off rfl).trans rfl
     replace ha := Aside0.mk ha
     have BK144 := Aside0.mk Q_BK144
     have HB := Aside0.mk Q_HB
     have hc0_ : w'.cell? ⟨gb144, 0, none⟩ = some (.int .i64 a0_0) := (blk_cell BK144.out 0).trans rfl
     have hc1_ : w'.cell? ⟨gb144, 1, none⟩ = some (.int .i64 a0_1) := (blk_cell BK144.out 1).trans rfl
     have hc2_ : w'.cell? ⟨gb144, 2, none⟩ = some (.int .u64 a0_2) := (blk_cell BK144.out 2).trans rfl
     have hc3_ : w'.cell? ⟨gb144, 3, none⟩ = some (.int .u16 a0_3) := (blk_cell BK144.out 3).trans rfl
     refine value_ (w1 := w') (v := .int .i64 a0_1) (by rfl) rfl ?_ ?_
     ·go_simp
      (try simp only [i64_w])
      try rfl
     refine hK.out _ _ ⟨v147, v150, v153, v157, m14_, m15_, m16_, m18_, (by rw [ha.out]; exact putSel_upk 2 hb_ rfl rfl rfl), Q_BK144, Q_HB, fun h0_ => absurd ((hoff 6 (by kernel_rfl)).symm.trans h0_) (by decide), Q_HO151, fun h0_ => absurd ((hoff 10 (by kernel_rfl)).symm.trans h0_) (by decide), fun h0_ => absurd ((hoff 14 (by kernel_rfl)).symm.trans h0_) (by decide), fun h0_ => absurd ((hoff 14 (by kernel_rfl)).symm.trans h0_) (by decide), fun h0_ => absurd ((hoff 15 (by kernel_rfl)).symm.trans h0_) (by decide), fun h0_ => absurd ((hoff 16 (by kernel_rfl)).symm.trans h0_) (by decide), fun h0_ => absurd ((hoff 18 (by kernel_rfl)).symm.trans h0_) (by decide)⟩
    refine steps_cons ?_ ?_
    ·rintro b a w' ⟨v147, v150, v153, v157, m14_, m15_, m16_, m18_, ha, Q_BK144, Q_HB, Q_HO148, Q_HO151, Q_HO154, Q_HO158, Q_X14_, Q_X15_, Q_X16_, Q_X18_⟩ hb_ hon hoff
     refine ⟨_, rfl, fun K hK => ?_⟩
     have e17 : a.tmps[17]? = some (.int .i64 a0_1) := by rw [ha]; exact putSel_on (e := (4, 17, .int .i64 a0_1)) 2 rfl rfl (hon 4 (by kernel_rfl)) rfl
     replace ha := Aside0.mk ha
     have BK144 := Aside0.mk Q_BK144
     have HB := Aside0.mk Q_HB
     refine value_ (w1 := w') (v := .int .u8 ((a0_1) % 256)) (by rfl) rfl ?_ ?_
     ·go_simp
      (try simp only [i64_w])
      try rfl
     refine hK.out _ _ ⟨v147, v150, v153, v157, m14_, m15_, m16_, m18_, (by rw [ha.out]; exact putSel_upk 3 hb_ rfl rfl rfl), Q_BK144, Q_HB, fun h0_ => absurd ((hoff 6 (by kernel_rfl)).symm.trans h0_) (by decide), Q_HO151, fun h0_ => absurd ((hoff 10 (by kernel_rfl)).symm.trans h0_) (by decide), fun h0_ => absurd ((hoff 14 (by kernel_rfl)).symm.trans h0_) (by decide), fun h0_ => absurd ((hoff 14 (by kernel_rfl)).symm.trans h0_) (by decide), fun h0_ => absurd ((hoff 15 (by kernel_rfl)).symm.trans h0_) (by decide), fun h0_ => absurd ((hoff 16 (by kernel_rfl)).symm.trans h0_) (by decide), fun h0_ => absurd ((hoff 18 (by kernel_rfl)).symm.trans h0_) (by decide)⟩
    refine steps_cons ?_ ?_
    ·rintro b a w' ⟨v147, v150, v153, v157, m14_, m15_, m16_, m18_, ha, Q_BK144, Q_HB, Q_HO148, Q_HO151, Q_HO154, Q_HO158, Q_X14_, Q_X15_, Q_X16_, Q_X18_⟩ hb_ hon hoff
     refine ⟨_, rfl, fun K hK => ?_⟩
     have e15 : a.tmps[15]? = some (.int .u8 ((a0_0) % 256)) := by rw [ha]; exact putSel_on (e := (2, 15, .int .u8 ((a0_0) % 256))) 1 rfl rfl (hon 2 (by kernel_rfl)) rfl
     have e18 : a.tmps[18]? = some (.int .u8 ((a0_1) % 256)) := by rw [ha]; exact putSel_on (e := (5, 18, .int .u8 ((a0_1) % 256))) 3 rfl rfl (hon 5 (by kernel_rfl)) rfl
     replace ha := Aside0.mk ha
     have BK144 := Aside0.mk Q_BK144
     have HB := Aside0.mk Q_HB
     refine Kd.R_lit_step (Kd.int .u8) _ 5 ?hg (N := 19) ?hd (xs := ([161, (a0_0) % 256, (a0_1) % 256] : List Int)) (inner := [.int .u8 161, .int .u8 ((a0_0) % 256), .int .u8 ((a0_1) % 256)]) (ok := fun _ => True) (okp := fun _ => True) ?hr ?hp (fun _ hk => hk) trivial (Below.refl _ _) (Nat.le_refl _) (by simp) ?_; (case hd => rfl); (case hg => rfl); (case hr => first | (go_simp; done) | (go_simp; rfl)); (case hp => exact (Reps.one (show Kd.M (Kd.int .u8) _ _ _ 161 [.int .u8 161] from rfl) (Reps.one (show Kd.M (Kd.int .u8) _ _ _ ((a0_0) % 256) [.int .u8 ((a0_0) % 256)] from rfl) (Reps.one (show Kd.M (Kd.int .u8) _ _ _ ((a0_1) % 256) [.int .u8 ((a0_1) % 256)] from rfl) (Reps.none _ _)))))
     intro v147 w12 ho13 hb hg_ hnew_
     clear hg_ hnew_
     (first | rw [← Ny146.out] at ho13 | (simp only [Int.reduceToNat] at ho13; rw [← Ny146.out] at ho13))
     have n0_ := Aside0.mk (Kd.R_lower ho13 (below_size (by repeat (first | (with_reducible first | exact HB.out | apply below_alloc | apply pw_below_drewN | apply below_drew1 | refine below_set ?_ GE144.out) | exact HB.out))))
     have n1_ := Aside0.mk (blk_below (g := gb144) (o := .cells #[.int .i64 a0_0, .int .i64 a0_1, .int .u64 a0_2, .int .u16 a0_3] 25 (0, 0)) (by (with_reducible repeat (first | refine blk_drewN ?_ _ | refine blk_drew ?_ | refine blk_alloc ?_ _)); exact BK144.out) hb)
     have n2_ := Aside0.mk (below_step (by repeat (first | (with_reducible first | exact HB.out | apply below_alloc | apply pw_below_drewN | apply below_drew1 | refine below_set ?_ GE144.out) | exact HB.out)) hb)
     have z_HO151 := fun (h0_ : b 9 = true) => (show Kd.R (Kd.int .u64) 22 w12 w.heap.size (fun _ => True) v150 y149 from by first | exact (Kd.R_below (by (with_reducible repeat (first | apply Kd.R_alloc | apply Kd.R_drewN | apply Kd.R_drew)); exact (Q_HO151 h0_)) hb) | exact Kd.R_mono (Kd.R_below (by (with_reducible repeat (first | apply Kd.R_alloc | apply Kd.R_drewN | apply Kd.R_drew)); exact (Q_HO151 h0_)) hb) (fun _ h_ => by first | trivial | exact h_ | exact h_.1))
     clear BK144
     clear HB
     have HO148 := n0_
     have BK144 := n1_
     have HB := n2_
     clear n0_ n1_ n2_
     clear hb ho13
     refine hK.out _ _ ⟨v147, v150, v153, v157, m14_, m15_, m16_, m18_, (by rw [ha.out]; exact putSel_upk 4 hb_ rfl rfl rfl), (by (with_reducible repeat (first | refine blk_drewN ?_ _ | refine blk_drew ?_ | refine blk_alloc ?_ _)); exact BK144.out), (by repeat (first | (with_reducible first | exact HB.out | apply below_alloc | apply pw_below_drewN | apply below_drew1 | refine below_set ?_ GE144.out) | exact HB.out)), fun _ => (by (with_reducible repeat (first | apply Kd.R_alloc | apply Kd.R_drewN | apply Kd.R_drew)); first | exact HO148.out | exact Kd.R_mono HO148.out (fun _ _ => trivial)), z_HO151, fun h0_ => absurd ((hoff 10 (by kernel_rfl)).symm.trans h0_) (by decide), fun h0_ => absurd ((hoff 14 (by kernel_rfl)).symm.trans h0_) (by decide), fun h0_ => absurd ((hoff 14 (by kernel_rfl)).symm.trans h0_) (by decide), fun h0_ => absurd ((hoff 15 (by kernel_rfl)).symm.trans h0_) (by decide), fun h0_ => absurd ((hoff 16 (by kernel_rfl)).symm.trans h0_) (by decide), fun h0_ => absurd ((hoff 18 (by kernel_rfl)).symm.trans h0_) (by decide)⟩
    refine steps_cons ?_ ?_
    ·rintro b a w' ⟨v147, v150, v153, v157, m14_, m15_, m16_, m18_, ha, Q_BK144, Q_HB, Q_HO148, Q_HO151, Q_HO154, Q_HO158, Q_X14_, Q_X15_, Q_X16_, Q_X18_⟩ hb_ hon hoff
     refine ⟨_, rfl, fun K hK => ?_⟩
     have e20 : a.tmps[20]? = some (.pointer (some ⟨gb144, 2, none⟩)) := by rw [ha]; exact (putSel_off rfl).trans rfl
     replace ha := Aside0.mk ha
     have BK144 := Aside0.mk Q_BK144
     have HB := Aside0.mk Q_HB
     have hc0_ : w'.cell? ⟨gb144, 0, none⟩ = some (.int .i64 a0_0) := (blk_cell BK144.out 0).trans rfl
     have hc1_ : w'.cell? ⟨gb144, 1, none⟩ = some (.int .i64 a0_1) := (blk_cell BK144.out 1).trans rfl
     have hc2_ : w'.cell? ⟨gb144, 2, none⟩ = some (.int .u64 a0_2) := (blk_cell BK144.out 2).trans rfl
     have hc3_ : w'.cell? ⟨gb144, 3, none⟩ = some (.int .u16 a0_3) := (blk_cell BK144.out 3).trans rfl
     refine value_ (w1 := w') (v := .int .u64 a0_2) (by rfl) rfl ?_ ?_
     ·go_simp
      (try simp only [i64_w])
      try rfl
     refine hK.out _ _ ⟨v147, v150, v153, v157, m14_, m15_, m16_, m18_, (by rw [ha.out]; exact putSel_upk 5 hb_ rfl rfl rfl), Q_BK144, Q_HB, Q_HO148, fun h0_ => absurd ((hoff 9 (by kernel_rfl)).symm.trans h0_) (by decide), fun h0_ => absurd ((hoff 10 (by kernel_rfl)).symm.trans h0_) (by decide), fun h0_ => absurd ((hoff 14 (by kernel_rfl)).symm.trans h0_) (by decide), fun h0_ => absurd ((hoff 14 (by kernel_rfl)).symm.trans h0_) (by decide), fun h0_ => absurd ((hoff 15 (by kernel_rfl)).symm.trans h0_) (by decide), fun h0_ => absurd ((hoff 16 (by kernel_rfl)).symm.trans h0_) (by decide), fun h0_ => absurd ((hoff 18 (by kernel_rfl)).symm.trans h0_) (by decide)⟩
    refine steps_cons ?_ ?_
    ·rintro b a w' ⟨v147, v150, v153, v157, m14_, m15_, m16_, m18_, ha, Q_BK144, Q_HB, Q_HO148, Q_HO151, Q_HO154, Q_HO158, Q_X14_, Q_X15_, Q_X16_, Q_X18_⟩ hb_ hon hoff
     refine ⟨_, rfl, fun K hK => ?_⟩
     have e21 : a.tmps[21]? = some (.int .u64 a0_2) := by rw [ha]; exact putSel_on (e := (8, 21, .int .u64 a0_2)) 5 rfl rfl (hon 8 (by kernel_rfl)) rfl
     replace ha := Aside0.mk ha
     have BK144 := Aside0.mk Q_BK144
     have HB := Aside0.mk Q_HB
     refine Kd.R_lit_step (Kd.int .u64) _ 22 ?hg (N := 22) ?hd (xs := ([a0_2] : List Int)) (inner := [.int .u64 a0_2]) (ok := fun _ => True) (okp := fun _ => True) ?hr ?hp (fun _ hk => hk) trivial (Below.refl _ _) (Nat.le_refl _) (by simp) ?_; (case hd => rfl); (case hg => rfl); (case hr => first | (go_simp; done) | (go_simp; rfl)); (case hp => exact (Reps.one (show Kd.M (Kd.int .u64) _ _ _ a0_2 [.int .u64 a0_2] from rfl) (Reps.none _ _)))
     intro v150 w12 ho13 hb hg_ hnew_
     clear hg_ hnew_
     (first | rw [← Ny149.out] at ho13 | (simp only [Int.reduceToNat] at ho13; rw [← Ny149.out] at ho13))
     have n0_ := Aside0.mk (Kd.R_lower ho13 (below_size (by repeat (first | (with_reducible first | exact HB.out | apply below_alloc | apply pw_below_drewN | apply below_drew1 | refine below_set ?_ GE144.out) | exact HB.out))))
     have n1_ := Aside0.mk (blk_below (g := gb144) (o := .cells #[.int .i64 a0_0, .int .i64 a0_1, .int .u64 a0_2, .int .u16 a0_3] 25 (0, 0)) (by (with_reducible repeat (first | refine blk_drewN ?_ _ | refine blk_drew ?_ | refine blk_alloc ?_ _)); exact BK144.out) hb)
     have n2_ := Aside0.mk (below_step (by repeat (first | (with_reducible first | exact HB.out | apply below_alloc | apply pw_below_drewN | apply below_drew1 | refine below_set ?_ GE144.out) | exact HB.out)) hb)
     have z_HO148 := fun (h0_ : b 6 = true) => (show Kd.R (Kd.int .u8) 5 w12 w.heap.size (fun _ => True) v147 y146 from by first | exact (Kd.R_below (by (with_reducible repeat (first | apply Kd.R_alloc | apply Kd.R_drewN | apply Kd.R_drew)); exact (Q_HO148 h0_)) hb) | exact Kd.R_mono (Kd.R_below (by (with_reducible repeat (first | apply Kd.R_alloc | apply Kd.R_drewN | apply Kd.R_drew)); exact (Q_HO148 h0_)) hb) (fun _ h_ => by first | trivial | exact h_ | exact h_.1))
     clear BK144
     clear HB
     have HO151 := n0_
     have BK144 := n1_
     have HB := n2_
     clear n0_ n1_ n2_
     clear hb ho13
     refine hK.out _ _ ⟨v147, v150, v153, v157, m14_, m15_, m16_, m18_, (by rw [ha.out]; exact putSel_upk 6 hb_ rfl rfl rfl), (by (with_reducible repeat (first | refine blk_drewN ?_ _ | refine blk_drew ?_ | refine blk_alloc ?_ _)); exact BK144.out), (by repeat (first | (with_reducible first | exact HB.out | apply below_alloc | apply pw_below_drewN | apply below_drew1 | refine below_set ?_ GE144.out) | exact HB.out)), z_HO148, fun _ => (by (with_reducible repeat (first | apply Kd.R_alloc | apply Kd.R_drewN | apply Kd.R_drew)); first | exact HO151.out | exact Kd.R_mono HO151.out (fun _ _ => trivial)), fun h0_ => absurd ((hoff 10 (by kernel_rfl)).symm.trans h0_) (by decide), fun h0_ => absurd ((hoff 14 (by kernel_rfl)).symm.trans h0_) (by decide), fun h0_ => absurd ((hoff 14 (by kernel_rfl)).symm.trans h0_) (by decide), fun h0_ => absurd ((hoff 15 (by kernel_rfl)).symm.trans h0_) (by decide), fun h0_ => absurd ((hoff 16 (by kernel_rfl)).symm.trans h0_) (by decide), fun h0_ => absurd ((hoff 18 (by kernel_rfl)).symm.trans h0_) (by decide)⟩
    refine steps_cons ?_ ?_
    ·rintro b a w' ⟨v147, v150, v153, v157, m14_, m15_, m16_, m18_, ha, Q_BK144, Q_HB, Q_HO148, Q_HO151, Q_HO154, Q_HO158, Q_X14_, Q_X15_, Q_X16_, Q_X18_⟩ hb_ hon hoff
     refine ⟨_, rfl, fun K hK => ?_⟩
     have e19 : a.tmps[19]? = some (v147) := by rw [ha]; exact putSel_on (e := (6, 19, v147)) 4 rfl rfl (hon 6 (by kernel_rfl)) rfl
     have e22 : a.tmps[22]? = some (v150) := by rw [ha]; exact putSel_on (e := (9, 22, v150)) 6 rfl rfl (hon 9 (by kernel_rfl)) rfl
     replace ha := Aside0.mk ha
     have BK144 := Aside0.mk Q_BK144
     have HB := Aside0.mk Q_HB
     have HO148 := Aside0.mk (Q_HO148 (hon 6 (by kernel_rfl)))
     have HO151 := Aside0.mk (Q_HO151 (hon 9 (by kernel_rfl)))
     obtain ⟨Ao17, co17, eo17⟩ := Kd.R_slice HO148.out
     (first | subst eo17 | (injection eo17 with f1_ f2_ f3_; have f4_ := f1_.symm; have f5_ := f3_.symm; clear f1_ f2_ f3_; subst f4_; subst f5_))
     obtain ⟨Ao18, co18, eo18⟩ := Kd.R_slice HO151.out
     (first | subst eo18 | (injection eo18 with f1_ f2_ f3_; have f4_ := f1_.symm; have f5_ := f3_.symm; clear f1_ f2_ f3_; subst f4_; subst f5_))
     refine goes_ Try.func28 (by kernel_rfl) rfl #[.slice Ao17 y146.length co17, .slice Ao18 y149.length co18] (by rfl) rfl rfl (by first | (simp only [List.map_toArray, List.map_cons, List.map_nil, Act.eval, Array.getD_eq_getD_getElem?, Option.getD_some, e19, e22]; done) | (simp only [List.map_toArray, List.map_cons, List.map_nil, Act.eval, Array.getD_eq_getD_getElem?, Option.getD_some, e19, e22]; rfl)) ?_
     with_reducible refine (wire_Vary.calls k _ _ y146 _ _ y149 t152 _ ?side1 ?side2 ?side3 ?side4 A4.out).mono ?_
     (case side1 => repeat (first | exact (Kd.R_reads' HO148.out).2.2 | (with_reducible refine Kd.C_alloc ?_ _) | (with_reducible refine Kd.C_drewN ?_ _) | (with_reducible refine Kd.C_drew ?_)))
     (case side2 => exact (Kd.R_reads' HO148.out).2.1)
     (case side3 => repeat (first | exact (Kd.R_reads' HO151.out).2.2 | (with_reducible refine Kd.C_alloc ?_ _) | (with_reducible refine Kd.C_drewN ?_ _) | (with_reducible refine Kd.C_drew ?_)))
     (case side4 => exact (Kd.R_reads' HO151.out).2.1)
     rintro e w19 ⟨v153, rfl, ho0, hb⟩
     refine ⟨_, rfl, ?_⟩
     have n0_ := Aside0.mk (Kd.R_elder' (by (with_reducible repeat (first | apply Kd.R_alloc | apply Kd.R_drewN | apply Kd.R_drew)); first | exact HO148.out | exact Kd.R_mono HO148.out (fun _ _ => trivial)) (Kd.R_base ho0) hb)
     have n1_ := Aside0.mk (Kd.R_below (by (with_reducible repeat (first | apply Kd.R_alloc | apply Kd.R_drewN | apply Kd.R_drew)); first | exact HO151.out | exact Kd.R_mono HO151.out (fun _ _ => trivial)) hb)
     have n2_ := Aside0.mk (Kd.R_lower (Kd.R_new' ho0 (Kd.R_lt (by (with_reducible repeat (first | apply Kd.R_alloc | apply Kd.R_drewN | apply Kd.R_drew)); first | exact HO148.out | exact Kd.R_mono HO148.out (fun _ _ => trivial)))) (below_size (by repeat (first | (with_reducible first | exact HB.out | apply below_alloc | apply pw_below_drewN | apply below_drew1 | refine below_set ?_ GE144.out) | exact HB.out))))
     have n3_ := Aside0.mk (blk_below (g := gb144) (o := .cells #[.int .i64 a0_0, .int .i64 a0_1, .int .u64 a0_2, .int .u16 a0_3] 25 (0, 0)) (by (with_reducible repeat (first | refine blk_drewN ?_ _ | refine blk_drew ?_ | refine blk_alloc ?_ _)); exact BK144.out) hb)
     have n4_ := Aside0.mk (below_step (by repeat (first | (with_reducible first | exact HB.out | apply below_alloc | apply pw_below_drewN | apply below_drew1 | refine below_set ?_ GE144.out) | exact HB.out)) hb)
     clear HO148
     clear HO151
     clear BK144
     clear HB
     have HO148 := n0_
     have HO151 := n1_
     have HO154 := n2_
     have BK144 := n3_
     have HB := n4_
     clear n0_ n1_ n2_ n3_ n4_
     (try clear hb)
     (try clear hb2)
     (try clear hk)
     (try clear hi)
     (try clear ho0)
     refine hK.out _ _ ⟨.slice Ao17 y146.length co17, .slice Ao18 y149.length co18, v153, v157, m14_, m15_, m16_, m18_, (by rw [ha.out]; exact putSel_upk 7 hb_ rfl rfl rfl), (by (with_reducible repeat (first | refine blk_drewN ?_ _ | refine blk_drew ?_ | refine blk_alloc ?_ _)); exact BK144.out), (by repeat (first | (with_reducible first | exact HB.out | apply below_alloc | apply pw_below_drewN | apply below_drew1 | refine below_set ?_ GE144.out) | exact HB.out)), fun _ => (by (with_reducible repeat (first | apply Kd.R_alloc | apply Kd.R_drewN | apply Kd.R_drew)); exact Kd.R_mono HO148.out (fun _ hk => by first | exact hk.2 | trivial)), fun _ => (by (with_reducible repeat (first | apply Kd.R_alloc | apply Kd.R_drewN | apply Kd.R_drew)); first | exact HO151.out | exact Kd.R_mono HO151.out (fun _ _ => trivial)), fun _ => (by (with_reducible repeat (first | apply Kd.R_alloc | apply Kd.R_drewN | apply Kd.R_drew)); exact Kd.R_mono HO154.out (fun _ hk => by first | exact hk.2 | trivial)), fun h0_ => absurd ((hoff 14 (by kernel_rfl)).symm.trans h0_) (by decide), fun h0_ => absurd ((hoff 14 (by kernel_rfl)).symm.trans h0_) (by decide), fun h0_ => absurd ((hoff 15 (by kernel_rfl)).symm.trans h0_) (by decide), fun h0_ => absurd ((hoff 16 (by kernel_rfl)).symm.trans h0_) (by decide), fun h0_ => absurd ((hoff 18 (by kernel_rfl)).symm.trans h0_) (by decide)⟩
    refine steps_cons ?_ ?_
    ·rintro b a w' ⟨v147, v150, v153, v157, m14_, m15_, m16_, m18_, ha, Q_BK144, Q_HB, Q_HO148, Q_HO151, Q_HO154, Q_HO158, Q_X14_, Q_X15_, Q_X16_, Q_X18_⟩ hb_ hon hoff
     refine ⟨_, rfl, fun K hK => ?_⟩
     have e24 : a.tmps[24]? = some (.pointer (some ⟨gb144, 3, none⟩)) := by rw [ha]; exact (putSel_off rfl).trans rfl
     replace ha := Aside0.mk ha
     have BK144 := Aside0.mk Q_BK144
     have HB := Aside0.mk Q_HB
     have hc0_ : w'.cell? ⟨gb144, 0, none⟩ = some (.int .i64 a0_0) := (blk_cell BK144.out 0).trans rfl
     have hc1_ : w'.cell? ⟨gb144, 1, none⟩ = some (.int .i64 a0_1) := (blk_cell BK144.out 1).trans rfl
     have hc2_ : w'.cell? ⟨gb144, 2, none⟩ = some (.int .u64 a0_2) := (blk_cell BK144.out 2).trans rfl
     have hc3_ : w'.cell? ⟨gb144, 3, none⟩ = some (.int .u16 a0_3) := (blk_cell BK144.out 3).trans rfl
     refine value_ (w1 := w') (v := .int .u16 a0_3) (by rfl) rfl ?_ ?_
     ·go_simp
      (try simp only [i64_w])
      try rfl
     refine hK.out _ _ ⟨v147, v150, v153, v157, m14_, m15_, m16_, m18_, (by rw [ha.out]; exact putSel_upk 8 hb_ rfl rfl rfl), Q_BK144, Q_HB, Q_HO148, Q_HO151, Q_HO154, fun h0_ => absurd ((hoff 14 (by kernel_rfl)).symm.trans h0_) (by decide), fun h0_ => absurd ((hoff 14 (by kernel_rfl)).symm.trans h0_) (by decide), fun h0_ => absurd ((hoff 15 (by kernel_rfl)).symm.trans h0_) (by decide), fun h0_ => absurd ((hoff 16 (by kernel_rfl)).symm.trans h0_) (by decide), fun h0_ => absurd ((hoff 18 (by kernel_rfl)).symm.trans h0_) (by decide)⟩
    refine steps_cons ?_ ?_
    ·rintro b a w' ⟨v147, v150, v153, v157, m14_, m15_, m16_, m18_, ha, Q_BK144, Q_HB, Q_HO148, Q_HO151, Q_HO154, Q_HO158, Q_X14_, Q_X15_, Q_X16_, Q_X18_⟩ hb_ hon hoff
     refine ⟨_, rfl, fun K hK => ?_⟩
     have e25 : a.tmps[25]? = some (.int .u16 a0_3) := by rw [ha]; exact putSel_on (e := (12, 25, .int .u16 a0_3)) 8 rfl rfl (hon 12 (by kernel_rfl)) rfl
     replace ha := Aside0.mk ha
     have BK144 := Aside0.mk Q_BK144
     have HB := Aside0.mk Q_HB
     refine value_ (w1 := w') (v := .int .u64 (IntKind.u64.wrap (a0_3))) (by rfl) rfl ?_ ?_
     ·go_simp
      (try simp only [i64_w])
      try rfl
     refine hK.out _ _ ⟨v147, v150, v153, v157, m14_, m15_, m16_, m18_, (by rw [ha.out]; exact putSel_upk 9 hb_ rfl rfl rfl), Q_BK144, Q_HB, Q_HO148, Q_HO151, Q_HO154, fun h0_ => absurd ((hoff 14 (by kernel_rfl)).symm.trans h0_) (by decide), fun h0_ => absurd ((hoff 14 (by kernel_rfl)).symm.trans h0_) (by decide), fun h0_ => absurd ((hoff 15 (by kernel_rfl)).symm.trans h0_) (by decide), fun h0_ => absurd ((hoff 16 (by kernel_rfl)).symm.trans h0_) (by decide), fun h0_ => absurd ((hoff 18 (by kernel_rfl)).symm.trans h0_) (by decide)⟩
    refine steps_cons ?_ ?_
    ·rintro b a w' ⟨v147, v150, v153, v157, m14_, m15_, m16_, m18_, ha, Q_BK144, Q_HB, Q_HO148, Q_HO151, Q_HO154, Q_HO158, Q_X14_, Q_X15_, Q_X16_, Q_X18_⟩ hb_ hon hoff
     refine ⟨_, rfl, fun K hK => ?_⟩
     have e23 : a.tmps[23]? = some (v153) := by rw [ha]; exact putSel_on (e := (10, 23, v153)) 7 rfl rfl (hon 10 (by kernel_rfl)) rfl
     have e26 : a.tmps[26]? = some (.int .u64 (IntKind.u64.wrap (a0_3))) := by rw [ha]; exact putSel_on (e := (13, 26, .int .u64 (IntKind.u64.wrap (a0_3)))) 9 rfl rfl (hon 13 (by kernel_rfl)) rfl
     replace ha := Aside0.mk ha
     have BK144 := Aside0.mk Q_BK144
     have HB := Aside0.mk Q_HB
     have HO148 := Aside0.mk (Q_HO148 (hon 6 (by kernel_rfl)))
     have HO151 := Aside0.mk (Q_HO151 (hon 9 (by kernel_rfl)))
     have HO154 := Aside0.mk (Q_HO154 (hon 10 (by kernel_rfl)))
     obtain ⟨Ao20, co20, eo20⟩ := Kd.R_slice HO154.out
     (first | subst eo20 | (injection eo20 with f1_ f2_ f3_; have f4_ := f1_.symm; have f5_ := f3_.symm; clear f1_ f2_ f3_; subst f4_; subst f5_))
     refine goes_ Try.func27 (by kernel_rfl) rfl #[.slice Ao20 t152.length co20, .int .i64 2, .int .u64 (IntKind.u64.wrap (a0_3))] (by rfl) rfl rfl (by first | (simp only [List.map_toArray, List.map_cons, List.map_nil, Act.eval, Array.getD_eq_getD_getElem?, Option.getD_some, e23, e26]; done) | (simp only [List.map_toArray, List.map_cons, List.map_nil, Act.eval, Array.getD_eq_getD_getElem?, Option.getD_some, e23, e26]; rfl)) ?_
     with_reducible refine (wire_Fixed.calls k _ _ t152 2 (IntKind.u64.wrap (a0_3)) t155 t156 _ ?side1 ?side2 A5.out).mono ?_
     (case side1 => repeat (first | exact (Kd.R_reads' HO154.out).2.2 | (with_reducible refine Kd.C_alloc ?_ _) | (with_reducible refine Kd.C_drewN ?_ _) | (with_reducible refine Kd.C_drew ?_)))
     (case side2 => exact (Kd.R_reads' HO154.out).2.1)
     rintro e w21 ⟨v157, rfl, ho0, hb⟩
     refine ⟨_, rfl, ?_⟩
     have n0_ := Aside0.mk (Kd.R_elder' (by (with_reducible repeat (first | apply Kd.R_alloc | apply Kd.R_drewN | apply Kd.R_drew)); first | exact HO148.out | exact Kd.R_mono HO148.out (fun _ _ => trivial)) (Kd.R_base ho0) hb)
     have n1_ := Aside0.mk (Kd.R_below (by (with_reducible repeat (first | apply Kd.R_alloc | apply Kd.R_drewN | apply Kd.R_drew)); first | exact HO151.out | exact Kd.R_mono HO151.out (fun _ _ => trivial)) hb)
     have n2_ := Aside0.mk (Kd.R_elder' (by (with_reducible repeat (first | apply Kd.R_alloc | apply Kd.R_drewN | apply Kd.R_drew)); first | exact HO154.out | exact Kd.R_mono HO154.out (fun _ _ => trivial)) (Kd.R_base ho0) hb)
     have n3_ := Aside0.mk (Kd.R_lower (Kd.R_new' (Kd.R_new' ho0 (Kd.R_lt (by (with_reducible repeat (first | apply Kd.R_alloc | apply Kd.R_drewN | apply Kd.R_drew)); first | exact HO148.out | exact Kd.R_mono HO148.out (fun _ _ => trivial)))) (Kd.R_lt (by (with_reducible repeat (first | apply Kd.R_alloc | apply Kd.R_drewN | apply Kd.R_drew)); first | exact HO154.out | exact Kd.R_mono HO154.out (fun _ _ => trivial)))) (below_size (by repeat (first | (with_reducible first | exact HB.out | apply below_alloc | apply pw_below_drewN | apply below_drew1 | refine below_set ?_ GE144.out) | exact HB.out))))
     have n4_ := Aside0.mk (blk_below (g := gb144) (o := .cells #[.int .i64 a0_0, .int .i64 a0_1, .int .u64 a0_2, .int .u16 a0_3] 25 (0, 0)) (by (with_reducible repeat (first | refine blk_drewN ?_ _ | refine blk_drew ?_ | refine blk_alloc ?_ _)); exact BK144.out) hb)
     have n5_ := Aside0.mk (below_step (by repeat (first | (with_reducible first | exact HB.out | apply below_alloc | apply pw_below_drewN | apply below_drew1 | refine below_set ?_ GE144.out) | exact HB.out)) hb)
     clear HO148
     clear HO151
     clear HO154
     clear BK144
     clear HB
     have HO148 := n0_
     have HO151 := n1_
     have HO154 := n2_
     have HO158 := n3_
     have BK144 := n4_
     have HB := n5_
     clear n0_ n1_ n2_ n3_ n4_ n5_
     (try clear hb)
     (try clear hb2)
     (try clear hk)
     (try clear hi)
     (try clear ho0)
     refine hK.out _ _ ⟨v147, v150, .slice Ao20 t152.length co20, v157, (.tuple #[v157, .int .i64 t156]), m15_, m16_, m18_, (by rw [ha.out]; exact putSel_upk 10 hb_ rfl rfl rfl), (by (with_reducible repeat (first | refine blk_drewN ?_ _ | refine blk_drew ?_ | refine blk_alloc ?_ _)); exact BK144.out), (by repeat (first | (with_reducible first | exact HB.out | apply below_alloc | apply pw_below_drewN | apply below_drew1 | refine below_set ?_ GE144.out) | exact HB.out)), fun _ => (by (with_reducible repeat (first | apply Kd.R_alloc | apply Kd.R_drewN | apply Kd.R_drew)); first | exact HO148.out | exact Kd.R_mono HO148.out (fun _ _ => trivial)), fun _ => (by (with_reducible repeat (first | apply Kd.R_alloc | apply Kd.R_drewN | apply Kd.R_drew)); first | exact HO151.out | exact Kd.R_mono HO151.out (fun _ _ => trivial)), fun _ => (by (with_reducible repeat (first | apply Kd.R_alloc | apply Kd.R_drewN | apply Kd.R_drew)); first | exact HO154.out | exact Kd.R_mono HO154.out (fun _ _ => trivial)), fun _ => (by (with_reducible repeat (first | apply Kd.R_alloc | apply Kd.R_drewN | apply Kd.R_drew)); exact Kd.R_mono HO158.out (fun _ hk => by first | exact ⟨hk.1.2, hk.2⟩ | exact ⟨trivial, hk.2⟩ | exact hk.2 | exact hk.1 | trivial)), fun _ => rfl, fun h0_ => absurd ((hoff 15 (by kernel_rfl)).symm.trans h0_) (by decide), fun h0_ => absurd ((hoff 16 (by kernel_rfl)).symm.trans h0_) (by decide), fun h0_ => absurd ((hoff 18 (by kernel_rfl)).symm.trans h0_) (by decide)⟩
    refine steps_cons ?_ ?_
    ·rintro b a w' ⟨v147, v150, v153, v157, m14_, m15_, m16_, m18_, ha, Q_BK144, Q_HB, Q_HO148, Q_HO151, Q_HO154, Q_HO158, Q_X14_, Q_X15_, Q_X16_, Q_X18_⟩ hb_ hon hoff
     refine ⟨_, rfl, fun K hK => ?_⟩
     have e27 : a.tmps[27]? = some (m14_) := by rw [ha]; exact putSel_on (e := (14, 27, m14_)) 10 rfl rfl (hon 14 (by kernel_rfl)) rfl
     rw [Q_X14_ (hon 14 (by kernel_rfl))] at e27
     replace ha := Aside0.mk ha
     have BK144 := Aside0.mk Q_BK144
     have HB := Aside0.mk Q_HB
     have HO148 := Aside0.mk (Q_HO148 (hon 6 (by kernel_rfl)))
     have HO151 := Aside0.mk (Q_HO151 (hon 9 (by kernel_rfl)))
     have HO154 := Aside0.mk (Q_HO154 (hon 10 (by kernel_rfl)))
     have HO158 := Aside0.mk (Q_HO158 (hon 14 (by kernel_rfl)))
     refine value_ (w1 := w') (v := .tuple #[v157, .int .i64 t156]) (by rfl) rfl ?_ ?_
     ·go_simp
      (try simp only [i64_w])
      try rfl
     refine hK.out _ _ ⟨v147, v150, v153, v157, m14_, (.tuple #[v157, .int .i64 t156]), m16_, m18_, (by rw [ha.out]; exact putSel_upk 11 hb_ rfl rfl rfl), Q_BK144, Q_HB, Q_HO148, Q_HO151, Q_HO154, Q_HO158, Q_X14_, fun _ => rfl, fun h0_ => absurd ((hoff 16 (by kernel_rfl)).symm.trans h0_) (by decide), fun h0_ => absurd ((hoff 18 (by kernel_rfl)).symm.trans h0_) (by decide)⟩
    refine steps_cons ?_ ?_
    ·rintro b a w' ⟨v147, v150, v153, v157, m14_, m15_, m16_, m18_, ha, Q_BK144, Q_HB, Q_HO148, Q_HO151, Q_HO154, Q_HO158, Q_X14_, Q_X15_, Q_X16_, Q_X18_⟩ hb_ hon hoff
     refine ⟨_, rfl, fun K hK => ?_⟩
     have e12 : a.tmps[12]? = some (m15_) := by rw [ha]; exact putSel_on (e := (15, 12, m15_)) 11 rfl rfl (hon 15 (by kernel_rfl)) rfl
     rw [Q_X15_ (hon 15 (by kernel_rfl))] at e12
     replace ha := Aside0.mk ha
     have BK144 := Aside0.mk Q_BK144
     have HB := Aside0.mk Q_HB
     have HO148 := Aside0.mk (Q_HO148 (hon 6 (by kernel_rfl)))
     have HO151 := Aside0.mk (Q_HO151 (hon 9 (by kernel_rfl)))
     have HO154 := Aside0.mk (Q_HO154 (hon 10 (by kernel_rfl)))
     have HO158 := Aside0.mk (Q_HO158 (hon 14 (by kernel_rfl)))
     obtain ⟨Ao16_0, co16_0, eo_⟩ := Kd.R_slice HO158.out
     subst eo_
     refine value_ (w1 := w') (v := .slice Ao16_0 t155.length co16_0) (by rfl) rfl ?_ ?_
     ·go_simp
      (try simp only [i64_w])
      try rfl
     refine hK.out _ _ ⟨v147, v150, v153, .slice Ao16_0 t155.length co16_0, m14_, m15_, (.slice Ao16_0 t155.length co16_0), m18_, (by rw [ha.out]; exact putSel_upk 12 hb_ rfl rfl rfl), Q_BK144, Q_HB, Q_HO148, Q_HO151, Q_HO154, Q_HO158, Q_X14_, Q_X15_, fun _ => rfl, fun h0_ => absurd ((hoff 18 (by kernel_rfl)).symm.trans h0_) (by decide)⟩
    refine steps_cons ?_ ?_
    ·rintro b a w' ⟨v147, v150, v153, v157, m14_, m15_, m16_, m18_, ha, Q_BK144, Q_HB, Q_HO148, Q_HO151, Q_HO154, Q_HO158, Q_X14_, Q_X15_, Q_X16_, Q_X18_⟩ hb_ hon hoff
     refine ⟨_, rfl, fun K hK => ?_⟩
     have e12 : a.tmps[12]? = some (m15_) := by rw [ha]; exact putSel_on (e := (15, 12, m15_)) 11 rfl rfl (hon 15 (by kernel_rfl)) rfl
     rw [Q_X15_ (hon 15 (by kernel_rfl))] at e12
     replace ha := Aside0.mk ha
     have BK144 := Aside0.mk Q_BK144
     have HB := Aside0.mk Q_HB
     have HO148 := Aside0.mk (Q_HO148 (hon 6 (by kernel_rfl)))
     have HO151 := Aside0.mk (Q_HO151 (hon 9 (by kernel_rfl)))
     have HO154 := Aside0.mk (Q_HO154 (hon 10 (by kernel_rfl)))
     have HO158 := Aside0.mk (Q_HO158 (hon 14 (by kernel_rfl)))
     obtain ⟨Ao17_0, co17_0, eo_⟩ := Kd.R_slice HO158.out
     subst eo_
     refine value_ (w1 := w') (v := .int .i64 t156) (by rfl) rfl ?_ ?_
     ·go_simp
      (try simp only [i64_w])
      try rfl
     refine hK.out _ _ ⟨v147, v150, v153, .slice Ao17_0 t155.length co17_0, m14_, m15_, m16_, m18_, (by rw [ha.out]; exact putSel_upk 13 hb_ rfl rfl rfl), Q_BK144, Q_HB, Q_HO148, Q_HO151, Q_HO154, Q_HO158, Q_X14_, Q_X15_, Q_X16_, Q_X18_⟩
    refine steps_cons ?_ ?_
    ·rintro b a w' ⟨v147, v150, v153, v157, m14_, m15_, m16_, m18_, ha, Q_BK144, Q_HB, Q_HO148, Q_HO151, Q_HO154, Q_HO158, Q_X14_, Q_X15_, Q_X16_, Q_X18_⟩ hb_ hon hoff
     refine ⟨_, rfl, fun K hK => ?_⟩
     have e28 : a.tmps[28]? = some (m16_) := by rw [ha]; exact putSel_on (e := (16, 28, m16_)) 12 rfl rfl (hon 16 (by kernel_rfl)) rfl
     rw [Q_X16_ (hon 16 (by kernel_rfl))] at e28
     replace ha := Aside0.mk ha
     have BK144 := Aside0.mk Q_BK144
     have HB := Aside0.mk Q_HB
     have HO148 := Aside0.mk (Q_HO148 (hon 6 (by kernel_rfl)))
     have HO151 := Aside0.mk (Q_HO151 (hon 9 (by kernel_rfl)))
     have HO154 := Aside0.mk (Q_HO154 (hon 10 (by kernel_rfl)))
     have HO158 := Aside0.mk (Q_HO158 (hon 14 (by kernel_rfl)))
     refine value_ (w1 := w') (v := v157) (by rfl) rfl ?_ ?_
     ·go_simp
      (try simp only [i64_w])
      try rfl
     refine hK.out _ _ ⟨v147, v150, v153, v157, m14_, m15_, m16_, (v157), (by rw [ha.out]; exact putSel_upk 14 hb_ rfl rfl rfl), Q_BK144, Q_HB, Q_HO148, Q_HO151, Q_HO154, Q_HO158, Q_X14_, Q_X15_, Q_X16_, fun _ => rfl⟩
    refine steps_cons ?_ ?_
    ·rintro b a w' ⟨v147, v150, v153, v157, m14_, m15_, m16_, m18_, ha, Q_BK144, Q_HB, Q_HO148, Q_HO151, Q_HO154, Q_HO158, Q_X14_, Q_X15_, Q_X16_, Q_X18_⟩ hb_ hon hoff
     refine ⟨_, rfl, fun K hK => ?_⟩
     have e29 : a.tmps[29]? = some (.int .i64 t156) := by rw [ha]; exact putSel_on (e := (17, 29, .int .i64 t156)) 13 rfl rfl (hon 17 (by kernel_rfl)) rfl
     replace ha := Aside0.mk ha
     have BK144 := Aside0.mk Q_BK144
     have HB := Aside0.mk Q_HB
     have HO148 := Aside0.mk (Q_HO148 (hon 6 (by kernel_rfl)))
     have HO151 := Aside0.mk (Q_HO151 (hon 9 (by kernel_rfl)))
     have HO154 := Aside0.mk (Q_HO154 (hon 10 (by kernel_rfl)))
     have HO158 := Aside0.mk (Q_HO158 (hon 14 (by kernel_rfl)))
     refine value_ (w1 := w') (v := .int .i64 t156) (by rfl) rfl ?_ ?_
     ·go_simp
      (try simp only [i64_w])
      try rfl
     refine hK.out _ _ ⟨v147, v150, v153, v157, m14_, m15_, m16_, m18_, (by rw [ha.out]; exact putSel_upk 15 hb_ rfl rfl rfl), Q_BK144, Q_HB, Q_HO148, Q_HO151, Q_HO154, Q_HO158, Q_X14_, Q_X15_, Q_X16_, Q_X18_⟩
    exact steps_nil
   rintro b a w21 hall ⟨v147, v150, v153, v157, m14_, m15_, m16_, m18_, ha, Q_BK144, Q_HB, Q_HO148, Q_HO151, Q_HO154, Q_HO158, Q_X14_, Q_X15_, Q_X16_, Q_X18_⟩
   clear BK144 HB
   have hb1_ := hall 1 (by kernel_rfl)
   have hb2_ := hall 2 (by kernel_rfl)
   have hb4_ := hall 4 (by kernel_rfl)
   have hb5_ := hall 5 (by kernel_rfl)
   have hb6_ := hall 6 (by kernel_rfl)
   have hb8_ := hall 8 (by kernel_rfl)
   have hb9_ := hall 9 (by kernel_rfl)
   have hb10_ := hall 10 (by kernel_rfl)
   have hb12_ := hall 12 (by kernel_rfl)
   have hb13_ := hall 13 (by kernel_rfl)
   have hb14_ := hall 14 (by kernel_rfl)
   have hb15_ := hall 15 (by kernel_rfl)
   have hb16_ := hall 16 (by kernel_rfl)
   have hb17_ := hall 17 (by kernel_rfl)
   have hb18_ := hall 18 (by kernel_rfl)
   have hb19_ := hall 19 (by kernel_rfl)
   subst ha
   obtain rfl := Q_X14_ hb14_
   obtain rfl := Q_X15_ hb15_
   obtain rfl := Q_X16_ hb16_
   obtain rfl := Q_X18_ hb18_
   simp only [putSel, hb1_, hb2_, hb4_, hb5_, hb6_, hb8_, hb9_, hb10_, hb12_, hb13_, hb14_, hb15_, hb16_, hb17_, hb18_, hb19_, if_true, Act.put, List.setIfInBounds_toArray, List.set_cons_zero, List.set_cons_succ]
   have BK144 := Aside0.mk Q_BK144
   clear Q_BK144
   have HB := Aside0.mk Q_HB
   clear Q_HB
   have HO148 := Aside0.mk (Q_HO148 hb6_)
   clear Q_HO148
   have HO151 := Aside0.mk (Q_HO151 hb9_)
   clear Q_HO151
   have HO154 := Aside0.mk (Q_HO154 hb10_)
   clear Q_HO154
   have HO158 := Aside0.mk (Q_HO158 hb14_)
   clear Q_HO158
   clear hall hb1_ hb2_ hb4_ hb5_ hb6_ hb8_ hb9_ hb10_ hb12_ hb13_ hb14_ hb15_ hb16_ hb17_ hb18_ hb19_
   obtain ⟨Ao22, co22, eo22⟩ := Kd.R_slice HO158.out
   subst eo22
   try go_wp2_with (first | ((with_reducible refine gate_callee (f := 23) rfl ?_); refine goesL_ (some 34) rfl rfl Try.func23 (by kernel_rfl) rfl #[.slice Ao22 t155.length co22] rfl (by (try simp only [List.map_toArray, List.map_cons, List.map_nil]); first | done | rfl | (simp only [List.length_drop, List.length_take]; first | rfl | (rw [Nat.min_eq_left (Int.toNat_le.2 (of_decide_eq_true (by assumption)))]; rfl))) ?_; (with_reducible refine (crc_Seal24.calls _ _ t155 t159 t160 _ ?side1 ?side2 A7.out).mono ?_); (case side1 => repeat (first | exact (Kd.R_reads' HO158.out).2.2 | (with_reducible refine Kd.C_alloc ?_ _) | (with_reducible refine Kd.C_drewN ?_ _) | (with_reducible refine Kd.C_drew ?_))); (case side2 => exact (Kd.R_reads' HO158.out).2.1); rintro e w23 ⟨v161, rfl, ho0, hb⟩; refine ⟨_, rfl, ?_⟩; have n0_ := Aside0.mk (Kd.R_elder' (by (with_reducible repeat (first | apply Kd.R_alloc | apply Kd.R_drewN | apply Kd.R_drew)); first | exact HO148.out | exact Kd.R_mono HO148.out (fun _ _ => trivial)) (Kd.R_base ho0) hb); have n1_ := Aside0.mk (Kd.R_below (by (with_reducible repeat (first | apply Kd.R_alloc | apply Kd.R_drewN | apply Kd.R_drew)); first | exact HO151.out | exact Kd.R_mono HO151.out (fun _ _ => trivial)) hb); have n2_ := Aside0.mk (Kd.R_elder' (by (with_reducible repeat (first | apply Kd.R_alloc | apply Kd.R_drewN | apply Kd.R_drew)); first | exact HO154.out | exact Kd.R_mono HO154.out (fun _ _ => trivial)) (Kd.R_base ho0) hb); have n3_ := Aside0.mk (Kd.R_elder' (by (with_reducible repeat (first | apply Kd.R_alloc | apply Kd.R_drewN | apply Kd.R_drew)); first | exact HO158.out | exact Kd.R_mono HO158.out (fun _ _ => trivial)) (Kd.R_base ho0) hb); have n4_ := Aside0.mk (Kd.R_lower (Kd.R_new' (Kd.R_new' (Kd.R_new' ho0 (Kd.R_lt (by (with_reducible repeat (first | apply Kd.R_alloc | apply Kd.R_drewN | apply Kd.R_drew)); first | exact HO148.out | exact Kd.R_mono HO148.out (fun _ _ => trivial)))) (Kd.R_lt (by (with_reducible repeat (first | apply Kd.R_alloc | apply Kd.R_drewN | apply Kd.R_drew)); first | exact HO154.out | exact Kd.R_mono HO154.out (fun _ _ => trivial)))) (Kd.R_lt (by (with_reducible repeat (first | apply Kd.R_alloc | apply Kd.R_drewN | apply Kd.R_drew)); first | exact HO158.out | exact Kd.R_mono HO158.out (fun _ _ => trivial)))) (below_size (by repeat (first | (with_reducible first | exact HB.out | apply below_alloc | apply pw_below_drewN | apply below_drew1 | refine below_set ?_ GE144.out) | exact HB.out)))); have n5_ := Aside0.mk (blk_below (g := gb144) (o := .cells #[.int .i64 a0_0, .int .i64 a0_1, .int .u64 a0_2, .int .u16 a0_3] 25 (0, 0)) (by (with_reducible repeat (first | refine blk_drewN ?_ _ | refine blk_drew ?_ | refine blk_alloc ?_ _)); exact BK144.out) hb); have n6_ := Aside0.mk (below_step (by repeat (first | (with_reducible first | exact HB.out | apply below_alloc | apply pw_below_drewN | apply below_drew1 | refine below_set ?_ GE144.out) | exact HB.out)) hb); clear HO148; clear HO151; clear HO154; clear HO158; clear BK144; clear HB; have HO148 := n0_; have HO151 := n1_; have HO154 := n2_; have HO158 := n3_; have HO162 := n4_; have BK144 := n5_; have HB := n6_; clear n0_ n1_ n2_ n3_ n4_ n5_ n6_; (try clear hb); (try clear hb2); (try clear hk); (try clear hi); (try clear ho0)))
   go_ret2
   exact ⟨_, by first | rfl | (simp [errW_none, errW_some] <;> rfl) | (simp [*, errW_none, errW_some] <;> rfl), by (with_reducible repeat (first | apply Kd.R_alloc | apply Kd.R_drewN | apply Kd.R_drew)); exact Kd.R_mono HO162.out (fun _ hk => trivial), by repeat (first | (with_reducible first | exact HB.out | apply below_alloc | apply pw_below_drewN | apply below_drew1 | refine below_set ?_ GE144.out) | exact HB.out)⟩
  ·rw [if_neg c6] at H
   have c6b0 : (t156 == 0) = false := beq_eq_false_iff_ne.mpr c6
   have c6b1 : (t156 != 0) = true := bne_iff_ne.mpr c6
   simp only [Option.some.injEq, Prod.mk.injEq] at H
   obtain ⟨rfl, rfl⟩ := H
   go_enter Try.func9, Try.ntmps9
   try go_wp2_with (first | ((with_reducible refine gate_dst (N := 1) rfl ?_); refine box_event ?hg (N := 1) ?hd (cs := #[.int .i64 a0_0, .int .i64 a0_1, .int .u64 a0_2, .int .u16 a0_3]) (t := 25) ?hr ?_; (case hd => rfl); (case hg => rfl); (case hr => first | (go_simp; done) | (go_simp; rfl)); intro gb144 hg w24 hbox hb; have n0_ := Aside0.mk (below_step (by repeat (first | (with_reducible first | exact HB.out | apply below_alloc | apply pw_below_drewN | apply below_drew1) | exact HB.out)) hb); have n1_ := Aside0.mk (hbox); have n2_ := Aside0.mk ((by rw [hg]; exact (below_size (by repeat (first | (with_reducible first | exact HB.out | apply below_alloc | apply pw_below_drewN | apply below_drew1) | exact HB.out))) : w.heap.size ≤ gb144)); have n3_ := Aside0.mk ((by rw [hg]; exact (below_size (by repeat (first | (with_reducible first | exact HB.out | apply below_alloc | apply pw_below_drewN | apply below_drew1) | exact HB.out))) : w.heap.size ≤ gb144)); clear HB; have HB := n0_; have BK144 := n1_; have GW144 := n2_; have GE144 := n3_; clear n0_ n1_ n2_ n3_; clear hb hbox hg; have hcz25_0 : w24.cell? ⟨gb144, 0, none⟩ = some (.int .i64 a0_0) := (blk_cell BK144.out 0).trans rfl; have hcz25_1 : w24.cell? ⟨gb144, 1, none⟩ = some (.int .i64 a0_1) := (blk_cell BK144.out 1).trans rfl; have hcz25_2 : w24.cell? ⟨gb144, 2, none⟩ = some (.int .u64 a0_2) := (blk_cell BK144.out 2).trans rfl; have hcz25_3 : w24.cell? ⟨gb144, 3, none⟩ = some (.int .u16 a0_3) := (blk_cell BK144.out 3).trans rfl; have hfz25_0 := blk_frozen BK144.out 0; have hfz25_1 := blk_frozen BK144.out 1; have hfz25_2 := blk_frozen BK144.out 2; have hfz25_3 := blk_frozen BK144.out 3) | ((with_reducible refine gate_callee (f := 24) rfl ?_); refine goesL_ (some 8) rfl rfl Try.func24 (by kernel_rfl) rfl #[.agg #[.int .i64 a0_0, .int .i64 a0_1, .int .u64 a0_2, .int .u16 a0_3]] rfl (by (try simp only [List.map_toArray, List.map_cons, List.map_nil]); first | done | rfl | (simp only [List.length_drop, List.length_take]; first | rfl | (rw [Nat.min_eq_left (Int.toNat_le.2 (of_decide_eq_true (by assumption)))]; rfl))) ?_; (with_reducible refine (frame_Check.calls k a0_0 a0_1 a0_2 a0_3 t145 _ A2.out).mono ?_); rintro e w26 ⟨rfl, hb⟩; refine ⟨_, rfl, ?_⟩; have n0_ := Aside0.mk (blk_below (g := gb144) (o := .cells #[.int .i64 a0_0, .int .i64 a0_1, .int .u64 a0_2, .int .u16 a0_3] 25 (0, 0)) (by (with_reducible repeat (first | refine blk_drewN ?_ _ | refine blk_drew ?_ | refine blk_alloc ?_ _)); exact BK144.out) hb); have n1_ := Aside0.mk (below_step (by repeat (first | (with_reducible first | exact HB.out | apply below_alloc | apply pw_below_drewN | apply below_drew1 | refine below_set ?_ GE144.out) | exact HB.out)) hb); clear BK144; clear HB; have BK144 := n0_; have HB := n1_; clear n0_ n1_; (try clear hb); (try clear hb2); (try clear hk); (try clear hi)))
   have n0_ := Aside0.mk (blk_drew BK144.out)
   have n1_ := Aside0.mk (below_drew1 HB.out)
   clear BK144
   clear HB
   have BK144 := n0_
   have HB := n1_
   clear n0_ n1_
   refine start_ (n := 20) (S := fun w' => True) (ds := []) #[false, false, false, false, false, false, false, false, false, false, false, false, false, false, false, false, false, false, false, false] (by kernel_rfl) rfl rfl trivial (fun hHeld => ?_); refine with_tabW frame_Write.tab4 frame_Write.bits4 (fun HT_ HW_ => ?_)
   generalize w26.drew = w27 at BK144 HB hHeld ⊢
   refine pure_ (i := 0) (N := some 13) (v := ?_) (a' := ?_) #[true, false, false, false, false, false, false, false, false, false, false, false, false, false, false, false, false, false, false, false] rfl rfl (any_of HT_.out (by kernel_rfl)) (fun _ _ _ h => h) (Or.inl ⟨by rfl, ?_⟩) ?_ ?_
   rotate_left
   ·intro w'
    go_simp
    with_reducible rfl
   rotate_left
   ·simp only [Act.put, List.setIfInBounds_toArray, List.set_cons_zero, List.set_cons_succ, i64_w, i32_w]
    rfl
   refine pure_ (i := 3) (N := some 16) (v := ?_) (a' := ?_) #[true, false, false, true, false, false, false, false, false, false, false, false, false, false, false, false, false, false, false, false] rfl rfl (any_of HT_.out (by kernel_rfl)) (fun _ _ _ h => h) (Or.inl ⟨by rfl, ?_⟩) ?_ ?_
   rotate_left
   ·intro w'
    go_simp
    with_reducible rfl
   rotate_left
   ·simp only [Act.put, List.setIfInBounds_toArray, List.set_cons_zero, List.set_cons_succ, i64_w, i32_w]
    rfl
   refine pure_ (i := 7) (N := some 20) (v := ?_) (a' := ?_) #[true, false, false, true, false, false, false, true, false, false, false, false, false, false, false, false, false, false, false, false] rfl rfl (any_of HT_.out (by kernel_rfl)) (fun _ _ _ h => h) (Or.inl ⟨by rfl, ?_⟩) ?_ ?_
   rotate_left
   ·intro w'
    go_simp
    with_reducible rfl
   rotate_left
   ·simp only [Act.put, List.setIfInBounds_toArray, List.set_cons_zero, List.set_cons_succ, i64_w, i32_w]
    rfl
   refine pure_ (i := 11) (N := some 24) (v := ?_) (a' := ?_) #[true, false, false, true, false, false, false, true, false, false, false, true, false, false, false, false, false, false, false, false] rfl rfl (any_of HT_.out (by kernel_rfl)) (fun _ _ _ h => h) (Or.inl ⟨by rfl, ?_⟩) ?_ ?_
   rotate_left
   ·intro w'
    go_simp
    with_reducible rfl
   rotate_left
   ·simp only [Act.put, List.setIfInBounds_toArray, List.set_cons_zero, List.set_cons_succ, i64_w, i32_w]
    rfl
   refine inv_at [1, 2, 4, 5, 6, 8, 9, 10, 12, 13, 14, 15, 16, 17, 18, 19] (fun a0_ b a w' => ∃ (v147 : Value) (v150 : Value) (v153 : Value) (v157 : Value) (m14_ : Value) (m15_ : Value) (m16_ : Value) (m18_ : Value), a = putSel a0_ b [(1, 14, .int .i64 a0_0), (2, 15, .int .u8 ((a0_0) % 256)), (4, 17, .int .i64 a0_1), (5, 18, .int .u8 ((a0_1) % 256)), (6, 19, v147), (8, 21, .int .u64 a0_2), (9, 22, v150), (10, 23, v153), (12, 25, .int .u16 a0_3), (13, 26, .int .u64 (IntKind.u64.wrap (a0_3))), (14, 27, m14_), (15, 12, m15_), (16, 28, m16_), (17, 29, .int .i64 t156), (18, 5, m18_), (19, 6, .int .i64 t156)] ∧ (w'.heap[gb144]? = some (.cells #[.int .i64 a0_0, .int .i64 a0_1, .int .u64 a0_2, .int .u16 a0_3] 25 (0, 0))) ∧ (Below w.heap.size w w') ∧ (b 6 = true → Kd.R (Kd.int .u8) 5 w' w.heap.size (fun _ => True) v147 y146) ∧ (b 9 = true → Kd.R (Kd.int .u64) 22 w' w.heap.size (fun _ => True) v150 y149) ∧ (b 10 = true → Kd.R (Kd.int .u8) 5 w' w.heap.size (fun _ => True) v153 t152) ∧ (b 14 = true → Kd.R (Kd.int .u8) 5 w' w.heap.size (fun _ => True) v157 t155) ∧ (b 14 = true → (m14_ : Value) = .tuple #[v157, .int .i64 t156]) ∧ (b 15 = true → (m15_ : Value) = .tuple #[v157, .int .i64 t156]) ∧ (b 16 = true → (m16_ : Value) = v157) ∧ (b 18 = true → (m18_ : Value) = v157)) HT_.out HW_.out (by kernel_rfl) (by kernel_rfl) ?_ ?_ ?_
   ·exact ⟨.bool false, .bool false, .bool false, .bool false, .bool false, .bool false, .bool false, .bool false, by simp only [putSel, Bool.false_eq_true, if_false], BK144.out, HB.out, fun h_ => absurd h_ (by decide), fun h_ => absurd h_ (by decide), fun h_ => absurd h_ (by decide), fun h_ => absurd h_ (by decide), fun h_ => absurd h_ (by decide), fun h_ => absurd h_ (by decide), fun h_ => absurd h_ (by decide), fun h_ => absurd h_ (by decide)⟩
   ·skip
    clear BK144 HB
    refine steps_cons ?_ ?_
    ·rintro b a w' ⟨v147, v150, v153, v157, m14_, m15_, m16_, m18_, ha, Q_BK144, Q_HB, Q_HO148, Q_HO151, Q_HO154, Q_HO158, Q_X14_, Q_X15_, Q_X16_, Q_X18_⟩ hb_ hon hoff
     refine ⟨_, rfl, fun K hK => ?_⟩
     have e13 : a.tmps[13]? = some (.pointer (some ⟨gb144, 0, none⟩)) := by rw [ha]; exact (putSel_off rfl).trans rfl
     replace ha := Aside0.mk ha
     have BK144 := Aside0.mk Q_BK144
     have HB := Aside0.mk Q_HB
     have hc0_ : w'.cell? ⟨gb144, 0, none⟩ = some (.int .i64 a0_0) := (blk_cell BK144.out 0).trans rfl
     have hc1_ : w'.cell? ⟨gb144, 1, none⟩ = some (.int .i64 a0_1) := (blk_cell BK144.out 1).trans rfl
     have hc2_ : w'.cell? ⟨gb144, 2, none⟩ = some (.int .u64 a0_2) := (blk_cell BK144.out 2).trans rfl
     have hc3_ : w'.cell? ⟨gb144, 3, none⟩ = some (.int .u16 a0_3) := (blk_cell BK144.out 3).trans rfl
     refine value_ (w1 := w') (v := .int .i64 a0_0) (by rfl) rfl ?_ ?_
     ·go_simp
      (try simp only [i64_w])
      try rfl
     refine hK.out _ _ ⟨v147, v150, v153, v157, m14_, m15_, m16_, m18_, (by rw [ha.out]; exact putSel_upk 0 hb_ rfl rfl rfl), Q_BK144, Q_HB, fun h0_ => absurd ((hoff 6 (by kernel_rfl)).symm.trans h0_) (by decide), Q_HO151, fun h0_ => absurd ((hoff 10 (by kernel_rfl)).symm.trans h0_) (by decide), fun h0_ => absurd ((hoff 14 (by kernel_rfl)).symm.trans h0_) (by decide), fun h0_ => absurd ((hoff 14 (by kernel_rfl)).symm.trans h0_) (by decide), fun h0_ => absurd ((hoff 15 (by kernel_rfl)).symm.trans h0_) (by decide), fun h0_ => absurd ((hoff 16 (by kernel_rfl)).symm.trans h0_) (by decide), fun h0_ => absurd ((hoff 18 (by kernel_rfl)).symm.trans h0_) (by decide)⟩
    refine steps_cons ?_ ?_
    ·rintro b a w' ⟨v147, v150, v153, v157, m14_, m15_, m16_, m18_, ha, Q_BK144, Q_HB, Q_HO148, Q_HO151, Q_HO154, Q_HO158, Q_X14_, Q_X15_, Q_X16_, Q_X18_⟩ hb_ hon hoff
     refine ⟨_, rfl, fun K hK => ?_⟩
     have e14 : a.tmps[14]? = some (.int .i64 a0_0) := by rw [ha]; exact putSel_on (e := (1, 14, .int .i64 a0_0)) 0 rfl rfl (hon 1 (by kernel_rfl)) rfl
     replace ha := Aside0.mk ha
     have BK144 := Aside0.mk Q_BK144
     have HB := Aside0.mk Q_HB
     refine value_ (w1 := w') (v := .int .u8 ((a0_0) % 256)) (by rfl) rfl ?_ ?_
     ·go_simp
      (try simp only [i64_w])
      try rfl
     refine hK.out _ _ ⟨v147, v150, v153, v157, m14_, m15_, m16_, m18_, (by rw [ha.out]; exact putSel_upk 1 hb_ rfl rfl rfl), Q_BK144, Q_HB, fun h0_ => absurd ((hoff 6 (by kernel_rfl)).symm.trans h0_) (by decide), Q_HO151, fun h0_ => absurd ((hoff 10 (by kernel_rfl)).symm.trans h0_) (by decide), fun h0_ => absurd ((hoff 14 (by kernel_rfl)).symm.trans h0_) (by decide), fun h0_ => absurd ((hoff 14 (by kernel_rfl)).symm.trans h0_) (by decide), fun h0_ => absurd ((hoff 15 (by kernel_rfl)).symm.trans h0_) (by decide), fun h0_ => absurd ((hoff 16 (by kernel_rfl)).symm.trans h0_) (by decide), fun h0_ => absurd ((hoff 18 (by kernel_rfl)).symm.trans h0_) (by decide)⟩
    refine steps_cons ?_ ?_
    ·rintro b a w' ⟨v147, v150, v153, v157, m14_, m15_, m16_, m18_, ha, Q_BK144, Q_HB, Q_HO148, Q_HO151, Q_HO154, Q_HO158, Q_X14_, Q_X15_, Q_X16_, Q_X18_⟩ hb_ hon hoff
     refine ⟨_, rfl, fun K hK => ?_⟩
     have e16 : a.tmps[16]? = some (.pointer (some ⟨gb144, 1, none⟩)) := by rw [ha]; exact (putSel_off rfl).trans rfl
     replace ha := Aside0.mk ha
     have BK144 := Aside0.mk Q_BK144
     have HB := Aside0.mk Q_HB
     have hc0_ : w'.cell? ⟨gb144, 0, none⟩ = some (.int .i64 a0_0) := (blk_cell BK144.out 0).trans rfl
     have hc1_ : w'.cell? ⟨gb144, 1, none⟩ = some (.int .i64 a0_1) := (blk_cell BK144.out 1).trans rfl
     have hc2_ : w'.cell? ⟨gb144, 2, none⟩ = some (.int .u64 a0_2) := (blk_cell BK144.out 2).trans rfl
     have hc3_ : w'.cell? ⟨gb144, 3, none⟩ = some (.int .u16 a0_3) := (blk_cell BK144.out 3).trans rfl
     refine value_ (w1 := w') (v := .int .i64 a0_1) (by rfl) rfl ?_ ?_
     ·go_simp
      (try simp only [i64_w])
      try rfl
     refine hK.out _ _ ⟨v147, v150, v153, v157, m14_, m15_, m16_, m18_, (by rw [ha.out]; exact putSel_upk 2 hb_ rfl rfl rfl), Q_BK144, Q_HB, fun h0_ => absurd ((hoff 6 (by kernel_rfl)).symm.trans h0_) (by decide), Q_HO151, fun h0_ => absurd ((hoff 10 (by kernel_rfl)).symm.trans h0_) (by decide), fun h0_ => absurd ((hoff 14 (by kernel_rfl)).symm.trans h0_) (by decide), fun h0_ => absurd ((hoff 14 (by kernel_rfl)).symm.trans h0_) (by decide), fun h0_ => absurd ((hoff 15 (by kernel_rfl)).symm.trans h0_) (by decide), fun h0_ => absurd ((hoff 16 (by kernel_rfl)).symm.trans h0_) (by decide), fun h0_ => absurd ((hoff 18 (by kernel_rfl)).symm.trans h0_) (by decide)⟩
    refine steps_cons ?_ ?_
    ·rintro b a w' ⟨v147, v150, v153, v157, m14_, m15_, m16_, m18_, ha, Q_BK144, Q_HB, Q_HO148, Q_HO151, Q_HO154, Q_HO158, Q_X14_, Q_X15_, Q_X16_, Q_X18_⟩ hb_ hon hoff
     refine ⟨_, rfl, fun K hK => ?_⟩
     have e17 : a.tmps[17]? = some (.int .i64 a0_1) := by rw [ha]; exact putSel_on (e := (4, 17, .int .i64 a0_1)) 2 rfl rfl (hon 4 (by kernel_rfl)) rfl
     replace ha := Aside0.mk ha
     have BK144 := Aside0.mk Q_BK144
     have HB := Aside0.mk Q_HB
     refine value_ (w1 := w') (v := .int .u8 ((a0_1) % 256)) (by rfl) rfl ?_ ?_
     ·go_simp
      (try simp only [i64_w])
      try rfl
     refine hK.out _ _ ⟨v147, v150, v153, v157, m14_, m15_, m16_, m18_, (by rw [ha.out]; exact putSel_upk 3 hb_ rfl rfl rfl), Q_BK144, Q_HB, fun h0_ => absurd ((hoff 6 (by kernel_rfl)).symm.trans h0_) (by decide), Q_HO151, fun h0_ => absurd ((hoff 10 (by kernel_rfl)).symm.trans h0_) (by decide), fun h0_ => absurd ((hoff 14 (by kernel_rfl)).symm.trans h0_) (by decide), fun h0_ => absurd ((hoff 14 (by kernel_rfl)).symm.trans h0_) (by decide), fun h0_ => absurd ((hoff 15 (by kernel_rfl)).symm.trans h0_) (by decide), fun h0_ => absurd ((hoff 16 (by kernel_rfl)).symm.trans h0_) (by decide), fun h0_ => absurd ((hoff 18 (by kernel_rfl)).symm.trans h0_) (by decide)⟩
    refine steps_cons ?_ ?_
    ·rintro b a w' ⟨v147, v150, v153, v157, m14_, m15_, m16_, m18_, ha, Q_BK144, Q_HB, Q_HO148, Q_HO151, Q_HO154, Q_HO158, Q_X14_, Q_X15_, Q_X16_, Q_X18_⟩ hb_ hon hoff
     refine ⟨_, rfl, fun K hK => ?_⟩
     have e15 : a.tmps[15]? = some (.int .u8 ((a0_0) % 256)) := by rw [ha]; exact putSel_on (e := (2, 15, .int .u8 ((a0_0) % 256))) 1 rfl rfl (hon 2 (by kernel_rfl)) rfl
     have e18 : a.tmps[18]? = some (.int .u8 ((a0_1) % 256)) := by rw [ha]; exact putSel_on (e := (5, 18, .int .u8 ((a0_1) % 256))) 3 rfl rfl (hon 5 (by kernel_rfl)) rfl
     replace ha := Aside0.mk ha
     have BK144 := Aside0.mk Q_BK144
     have HB := Aside0.mk Q_HB
     refine Kd.R_lit_step (Kd.int .u8) _ 5 ?hg (N := 19) ?hd (xs := ([161, (a0_0) % 256, (a0_1) % 256] : List Int)) (inner := [.int .u8 161, .int .u8 ((a0_0) % 256), .int .u8 ((a0_1) % 256)]) (ok := fun _ => True) (okp := fun _ => True) ?hr ?hp (fun _ hk => hk) trivial (Below.refl _ _) (Nat.le_refl _) (by simp) ?_; (case hd => rfl); (case hg => rfl); (case hr => first | (go_simp; done) | (go_simp; rfl)); (case hp => exact (Reps.one (show Kd.M (Kd.int .u8) _ _ _ 161 [.int .u8 161] from rfl) (Reps.one (show Kd.M (Kd.int .u8) _ _ _ ((a0_0) % 256) [.int .u8 ((a0_0) % 256)] from rfl) (Reps.one (show Kd.M (Kd.int .u8) _ _ _ ((a0_1) % 256) [.int .u8 ((a0_1) % 256)] from rfl) (Reps.none _ _)))))
     intro v147 w28 ho29 hb hg_ hnew_
     clear hg_ hnew_
     (first | rw [← Ny146.out] at ho29 | (simp only [Int.reduceToNat] at ho29; rw [← Ny146.out] at ho29))
     have n0_ := Aside0.mk (Kd.R_lower ho29 (below_size (by repeat (first | (with_reducible first | exact HB.out | apply below_alloc | apply pw_below_drewN | apply below_drew1 | refine below_set ?_ GE144.out) | exact HB.out))))
     have n1_ := Aside0.mk (blk_below (g := gb144) (o := .cells #[.int .i64 a0_0, .int .i64 a0_1, .int .u64 a0_2, .int .u16 a0_3] 25 (0, 0)) (by (with_reducible repeat (first | refine blk_drewN ?_ _ | refine blk_drew ?_ | refine blk_alloc ?_ _)); exact BK144.out) hb)
     have n2_ := Aside0.mk (below_step (by repeat (first | (with_reducible first | exact HB.out | apply below_alloc | apply pw_below_drewN | apply below_drew1 | refine below_set ?_ GE144.out) | exact HB.out)) hb)
     have z_HO151 := fun (h0_ : b 9 = true) => (show Kd.R (Kd.int .u64) 22 w28 w.heap.size (fun _ => True) v150 y149 from by first | exact (Kd.R_below (by (with_reducible repeat (first | apply Kd.R_alloc | apply Kd.R_drewN | apply Kd.R_drew)); exact (Q_HO151 h0_)) hb) | exact Kd.R_mono (Kd.R_below (by (with_reducible repeat (first | apply Kd.R_alloc | apply Kd.R_drewN | apply Kd.R_drew)); exact (Q_HO151 h0_)) hb) (fun _ h_ => by first | trivial | exact h_ | exact h_.1))
     clear BK144
     clear HB
     have HO148 := n0_
     have BK144 := n1_
     have HB := n2_
     clear n0_ n1_ n2_
     clear hb ho29
     refine hK.out _ _ ⟨v147, v150, v153, v157, m14_, m15_, m16_, m18_, (by rw [ha.out]; exact putSel_upk 4 hb_ rfl rfl rfl), (by (with_reducible repeat (first | refine blk_drewN ?_ _ | refine blk_drew ?_ | refine blk_alloc ?_ _)); exact BK144.out), (by repeat (first | (with_reducible first | exact HB.out | apply below_alloc | apply pw_below_drewN | apply below_drew1 | refine below_set ?_ GE144.out) | exact HB.out)), fun _ => (by (with_reducible repeat (first | apply Kd.R_alloc | apply Kd.R_drewN | apply Kd.R_drew)); first | exact HO148.out | exact Kd.R_mono HO148.out (fun _ _ => trivial)), z_HO151, fun h0_ => absurd ((hoff 10 (by kernel_rfl)).symm.trans h0_) (by decide), fun h0_ => absurd ((hoff 14 (by kernel_rfl)).symm.trans h0_) (by decide), fun h0_ => absurd ((hoff 14 (by kernel_rfl)).symm.trans h0_) (by decide), fun h0_ => absurd ((hoff 15 (by kernel_rfl)).symm.trans h0_) (by decide), fun h0_ => absurd ((hoff 16 (by kernel_rfl)).symm.trans h0_) (by decide), fun h0_ => absurd ((hoff 18 (by kernel_rfl)).symm.trans h0_) (by decide)⟩
    refine steps_cons ?_ ?_
    ·rintro b a w' ⟨v147, v150, v153, v157, m14_, m15_, m16_, m18_, ha, Q_BK144, Q_HB, Q_HO148, Q_HO151, Q_HO154, Q_HO158, Q_X14_, Q_X15_, Q_X16_, Q_X18_⟩ hb_ hon hoff
     refine ⟨_, rfl, fun K hK => ?_⟩
     have e20 : a.tmps[20]? = some (.pointer (some ⟨gb144, 2, none⟩)) := by rw [ha]; exact (putSel_off rfl).trans rfl
     replace ha := Aside0.mk ha
     have BK144 := Aside0.mk Q_BK144
     have HB := Aside0.mk Q_HB
     have hc0_ : w'.cell? ⟨gb144, 0, none⟩ = some (.int .i64 a0_0) := (blk_cell BK144.out 0).trans rfl
     have hc1_ : w'.cell? ⟨gb144, 1, none⟩ = some (.int .i64 a0_1) := (blk_cell BK144.out 1).trans rfl
     have hc2_ : w'.cell? ⟨gb144, 2, none⟩ = some (.int .u64 a0_2) := (blk_cell BK144.out 2).trans rfl
     have hc3_ : w'.cell? ⟨gb144, 3, none⟩ = some (.int .u16 a0_3) := (blk_cell BK144.out 3).trans rfl
     refine value_ (w1 := w') (v := .int .u64 a0_2) (by rfl) rfl ?_ ?_
     ·go_simp
      (try simp only [i64_w])
      try rfl
     refine hK.out _ _ ⟨v147, v150, v153, v157, m14_, m15_, m16_, m18_, (by rw [ha.out]; exact putSel_upk 5 hb_ rfl rfl rfl), Q_BK144, Q_HB, Q_HO148, fun h0_ => absurd ((hoff 9 (by kernel_rfl)).symm.trans h0_) (by decide), fun h0_ => absurd ((hoff 10 (by kernel_rfl)).symm.trans h0_) (by decide), fun h0_ => absurd ((hoff 14 (by kernel_rfl)).symm.trans h0_) (by decide), fun h0_ => absurd ((hoff 14 (by kernel_rfl)).symm.trans h0_) (by decide), fun h0_ => absurd ((hoff 15 (by kernel_rfl)).symm.trans h0_) (by decide), fun h0_ => absurd ((hoff 16 (by kernel_rfl)).symm.trans h0_) (by decide), fun h0_ => absurd ((hoff 18 (by kernel_rfl)).symm.trans h0_) (by decide)⟩
    refine steps_cons ?_ ?_
    ·rintro b a w' ⟨v147, v150, v153, v157, m14_, m15_, m16_, m18_, ha, Q_BK144, Q_HB, Q_HO148, Q_HO151, Q_HO154, Q_HO158, Q_X14_, Q_X15_, Q_X16_, Q_X18_⟩ hb_ hon hoff
     refine ⟨_, rfl, fun K hK => ?_⟩
     have e21 : a.tmps[21]? = some (.int .u64 a0_2) := by rw [ha]; exact putSel_on (e := (8, 21, .int .u64 a0_2)) 5 rfl rfl (hon 8 (by kernel_rfl)) rfl
     replace ha := Aside0.mk ha
     have BK144 := Aside0.mk Q_BK144
     have HB := Aside0.mk Q_HB
     refine Kd.R_lit_step (Kd.int .u64) _ 22 ?hg (N := 22) ?hd (xs := ([a0_2] : List Int)) (inner := [.int .u64 a0_2]) (ok := fun _ => True) (okp := fun _ => True) ?hr ?hp (fun _ hk => hk) trivial (Below.refl _ _) (Nat.le_refl _) (by simp) ?_; (case hd => rfl); (case hg => rfl); (case hr => first | (go_simp; done) | (go_simp; rfl)); (case hp => exact (Reps.one (show Kd.M (Kd.int .u64) _ _ _ a0_2 [.int .u64 a0_2] from rfl) (Reps.none _ _)))
     intro v150 w28 ho29 hb hg_ hnew_
     clear hg_ hnew_
     (first | rw [← Ny149.out] at ho29 | (simp only [Int.reduceToNat] at ho29; rw [← Ny149.out] at ho29))
     have n0_ := Aside0.mk (Kd.R_lower ho29 (below_size (by repeat (first | (with_reducible first | exact HB.out | apply below_alloc | apply pw_below_drewN | apply below_drew1 | refine below_set ?_ GE144.out) | exact HB.out))))
     have n1_ := Aside0.mk (blk_below (g := gb144) (o := .cells #[.int .i64 a0_0, .int .i64 a0_1, .int .u64 a0_2, .int .u16 a0_3] 25 (0, 0)) (by (with_reducible repeat (first | refine blk_drewN ?_ _ | refine blk_drew ?_ | refine blk_alloc ?_ _)); exact BK144.out) hb)
     have n2_ := Aside0.mk (below_step (by repeat (first | (with_reducible first | exact HB.out | apply below_alloc | apply pw_below_drewN | apply below_drew1 | refine below_set ?_ GE144.out) | exact HB.out)) hb)
     have z_HO148 := fun (h0_ : b 6 = true) => (show Kd.R (Kd.int .u8) 5 w28 w.heap.size (fun _ => True) v147 y146 from by first | exact (Kd.R_below (by (with_reducible repeat (first | apply Kd.R_alloc | apply Kd.R_drewN | apply Kd.R_drew)); exact (Q_HO148 h0_)) hb) | exact Kd.R_mono (Kd.R_below (by (with_reducible repeat (first | apply Kd.R_alloc | apply Kd.R_drewN | apply Kd.R_drew)); exact (Q_HO148 h0_)) hb) (fun _ h_ => by first | trivial | exact h_ | exact h_.1))
     clear BK144
     clear HB
     have HO151 := n0_
     have BK144 := n1_
     have HB := n2_
     clear n0_ n1_ n2_
     clear hb ho29
     refine hK.out _ _ ⟨v147, v150, v153, v157, m14_, m15_, m16_, m18_, (by rw [ha.out]; exact putSel_upk 6 hb_ rfl rfl rfl), (by (with_reducible repeat (first | refine blk_drewN ?_ _ | refine blk_drew ?_ | refine blk_alloc ?_ _)); exact BK144.out), (by repeat (first | (with_reducible first | exact HB.out | apply below_alloc | apply pw_below_drewN | apply below_drew1 | refine below_set ?_ GE144.out) | exact HB.out)), z_HO148, fun _ => (by (with_reducible repeat (first | apply Kd.R_alloc | apply Kd.R_drewN | apply Kd.R_drew)); first | exact HO151.out | exact Kd.R_mono HO151.out (fun _ _ => trivial)), fun h0_ => absurd ((hoff 10 (by kernel_rfl)).symm.trans h0_) (by decide), fun h0_ => absurd ((hoff 14 (by kernel_rfl)).symm.trans h0_) (by decide), fun h0_ => absurd ((hoff 14 (by kernel_rfl)).symm.trans h0_) (by decide), fun h0_ => absurd ((hoff 15 (by kernel_rfl)).symm.trans h0_) (by decide), fun h0_ => absurd ((hoff 16 (by kernel_rfl)).symm.trans h0_) (by decide), fun h0_ => absurd ((hoff 18 (by kernel_rfl)).symm.trans h0_) (by decide)⟩
    refine steps_cons ?_ ?_
    ·rintro b a w' ⟨v147, v150, v153, v157, m14_, m15_, m16_, m18_, ha, Q_BK144, Q_HB, Q_HO148, Q_HO151, Q_HO154, Q_HO158, Q_X14_, Q_X15_, Q_X16_, Q_X18_⟩ hb_ hon hoff
     refine ⟨_, rfl, fun K hK => ?_⟩
     have e19 : a.tmps[19]? = some (v147) := by rw [ha]; exact putSel_on (e := (6, 19, v147)) 4 rfl rfl (hon 6 (by kernel_rfl)) rfl
     have e22 : a.tmps[22]? = some (v150) := by rw [ha]; exact putSel_on (e := (9, 22, v150)) 6 rfl rfl (hon 9 (by kernel_rfl)) rfl
     replace ha := Aside0.mk ha
     have BK144 := Aside0.mk Q_BK144
     have HB := Aside0.mk Q_HB
     have HO148 := Aside0.mk (Q_HO148 (hon 6 (by kernel_rfl)))
     have HO151 := Aside0.mk (Q_HO151 (hon 9 (by kernel_rfl)))
     obtain ⟨Ao33, co33, eo33⟩ := Kd.R_slice HO148.out
     (first | subst eo33 | (injection eo33 with f1_ f2_ f3_; have f4_ := f1_.symm; have f5_ := f3_.symm; clear f1_ f2_ f3_; subst f4_; subst f5_))
     obtain ⟨Ao34, co34, eo34⟩ := Kd.R_slice HO151.out
     (first | subst eo34 | (injection eo34 with f1_ f2_ f3_; have f4_ := f1_.symm; have f5_ := f3_.symm; clear f1_ f2_ f3_; subst f4_; subst f5_))
     refine goes_ Try.func28 (by kernel_rfl) rfl #[.slice Ao33 y146.length co33, .slice Ao34 y149.length co34] (by rfl) rfl rfl (by first | (simp only [List.map_toArray, List.map_cons, List.map_nil, Act.eval, Array.getD_eq_getD_getElem?, Option.getD_some, e19, e22]; done) | (simp only [List.map_toArray, List.map_cons, List.map_nil, Act.eval, Array.getD_eq_getD_getElem?, Option.getD_some, e19, e22]; rfl)) ?_
     with_reducible refine (wire_Vary.calls k _ _ y146 _ _ y149 t152 _ ?side1 ?side2 ?side3 ?side4 A4.out).mono ?_
     (case side1 => repeat (first | exact (Kd.R_reads' HO148.out).2.2 | (with_reducible refine Kd.C_alloc ?_ _) | (with_reducible refine Kd.C_drewN ?_ _) | (with_reducible refine Kd.C_drew ?_)))
     (case side2 => exact (Kd.R_reads' HO148.out).2.1)
     (case side3 => repeat (first | exact (Kd.R_reads' HO151.out).2.2 | (with_reducible refine Kd.C_alloc ?_ _) | (with_reducible refine Kd.C_drewN ?_ _) | (with_reducible refine Kd.C_drew ?_)))
     (case side4 => exact (Kd.R_reads' HO151.out).2.1)
     rintro e w35 ⟨v153, rfl, ho0, hb⟩
     refine ⟨_, rfl, ?_⟩
     have n0_ := Aside0.mk (Kd.R_elder' (by (with_reducible repeat (first | apply Kd.R_alloc | apply Kd.R_drewN | apply Kd.R_drew)); first | exact HO148.out | exact Kd.R_mono HO148.out (fun _ _ => trivial)) (Kd.R_base ho0) hb)
     have n1_ := Aside0.mk (Kd.R_below (by (with_reducible repeat (first | apply Kd.R_alloc | apply Kd.R_drewN | apply Kd.R_drew)); first | exact HO151.out | exact Kd.R_mono HO151.out (fun _ _ => trivial)) hb)
     have n2_ := Aside0.mk (Kd.R_lower (Kd.R_new' ho0 (Kd.R_lt (by (with_reducible repeat (first | apply Kd.R_alloc | apply Kd.R_drewN | apply Kd.R_drew)); first | exact HO148.out | exact Kd.R_mono HO148.out (fun _ _ => trivial)))) (below_size (by repeat (first | (with_reducible first | exact HB.out | apply below_alloc | apply pw_below_drewN | apply below_drew1 | refine below_set ?_ GE144.out) | exact HB.out))))
     have n3_ := Aside0.mk (blk_below (g := gb144) (o := .cells #[.int .i64 a0_0, .int .i64 a0_1, .int .u64 a0_2, .int .u16 a0_3] 25 (0, 0)) (by (with_reducible repeat (first | refine blk_drewN ?_ _ | refine blk_drew ?_ | refine blk_alloc ?_ _)); exact BK144.out) hb)
     have n4_ := Aside0.mk (below_step (by repeat (first | (with_reducible first | exact HB.out | apply below_alloc | apply pw_below_drewN | apply below_drew1 | refine below_set ?_ GE144.out) | exact HB.out)) hb)
     clear HO148
     clear HO151
     clear BK144
     clear HB
     have HO148 := n0_
     have HO151 := n1_
     have HO154 := n2_
     have BK144 := n3_
     have HB := n4_
     clear n0_ n1_ n2_ n3_ n4_
     (try clear hb)
     (try clear hb2)
     (try clear hk)
     (try clear hi)
     (try clear ho0)
     refine hK.out _ _ ⟨.slice Ao33 y146.length co33, .slice Ao34 y149.length co34, v153, v157, m14_, m15_, m16_, m18_, (by rw [ha.out]; exact putSel_upk 7 hb_ rfl rfl rfl), (by (with_reducible repeat (first | refine blk_drewN ?_ _ | refine blk_drew ?_ | refine blk_alloc ?_ _)); exact BK144.out), (by repeat (first | (with_reducible first | exact HB.out | apply below_alloc | apply pw_below_drewN | apply below_drew1 | refine below_set ?_ GE144.out) | exact HB.out)), fun _ => (by (with_reducible repeat (first | apply Kd.R_alloc | apply Kd.R_drewN | apply Kd.R_drew)); exact Kd.R_mono HO148.out (fun _ hk => by first | exact hk.2 | trivial)), fun _ => (by (with_reducible repeat (first | apply Kd.R_alloc | apply Kd.R_drewN | apply Kd.R_drew)); first | exact HO151.out | exact Kd.R_mono HO151.out (fun _ _ => trivial)), fun _ => (by (with_reducible repeat (first | apply Kd.R_alloc | apply Kd.R_drewN | apply Kd.R_drew)); exact Kd.R_mono HO154.out (fun _ hk => by first | exact hk.2 | trivial)), fun h0_ => absurd ((hoff 14 (by kernel_rfl)).symm.trans h0_) (by decide), fun h0_ => absurd ((hoff 14 (by kernel_rfl)).symm.trans h0_) (by decide), fun h0_ => absurd ((hoff 15 (by kernel_rfl)).symm.trans h0_) (by decide), fun h0_ => absurd ((hoff 16 (by kernel_rfl)).symm.trans h0_) (by decide), fun h0_ => absurd ((hoff 18 (by kernel_rfl)).symm.trans h0_) (by decide)⟩
    refine steps_cons ?_ ?_
    ·rintro b a w' ⟨v147, v150, v153, v157, m14_, m15_, m16_, m18_, ha, Q_BK144, Q_HB, Q_HO148, Q_HO151, Q_HO154, Q_HO158, Q_X14_, Q_X15_, Q_X16_, Q_X18_⟩ hb_ hon hoff
     refine ⟨_, rfl, fun K hK => ?_⟩
     have e24 : a.tmps[24]? = some (.pointer (some ⟨gb144, 3, none⟩)) := by rw [ha]; exact (putSel_off rfl).trans rfl
     replace ha := Aside0.mk ha
     have BK144 := Aside0.mk Q_BK144
     have HB := Aside0.mk Q_HB
     have hc0_ : w'.cell? ⟨gb144, 0, none⟩ = some (.int .i64 a0_0) := (blk_cell BK144.out 0).trans rfl
     have hc1_ : w'.cell? ⟨gb144, 1, none⟩ = some (.int .i64 a0_1) := (blk_cell BK144.out 1).trans rfl
     have hc2_ : w'.cell? ⟨gb144, 2, none⟩ = some (.int .u64 a0_2) := (blk_cell BK144.out 2).trans rfl
     have hc3_ : w'.cell? ⟨gb144, 3, none⟩ = some (.int .u16 a0_3) := (blk_cell BK144.out 3).trans rfl
     refine value_ (w1 := w') (v := .int .u16 a0_3) (by rfl) rfl ?_ ?_
     ·go_simp
      (try simp only [i64_w])
      try rfl
     refine hK.out _ _ ⟨v147, v150, v153, v157, m14_, m15_, m16_, m18_, (by rw [ha.out]; exact putSel_upk 8 hb_ rfl rfl rfl), Q_BK144, Q_HB, Q_HO148, Q_HO151, Q_HO154, fun h0_ => absurd ((hoff 14 (by kernel_rfl)).symm.trans h0_) (by decide), fun h0_ => absurd ((hoff 14 (by kernel_rfl)).symm.trans h0_) (by decide), fun h0_ => absurd ((hoff 15 (by kernel_rfl)).symm.trans h0_) (by decide), fun h0_ => absurd ((hoff 16 (by kernel_rfl)).symm.trans h0_) (by decide), fun h0_ => absurd ((hoff 18 (by kernel_rfl)).symm.trans h0_) (by decide)⟩
    refine steps_cons ?_ ?_
    ·rintro b a w' ⟨v147, v150, v153, v157, m14_, m15_, m16_, m18_, ha, Q_BK144, Q_HB, Q_HO148, Q_HO151, Q_HO154, Q_HO158, Q_X14_, Q_X15_, Q_X16_, Q_X18_⟩ hb_ hon hoff
     refine ⟨_, rfl, fun K hK => ?_⟩
     have e25 : a.tmps[25]? = some (.int .u16 a0_3) := by rw [ha]; exact putSel_on (e := (12, 25, .int .u16 a0_3)) 8 rfl rfl (hon 12 (by kernel_rfl)) rfl
     replace ha := Aside0.mk ha
     have BK144 := Aside0.mk Q_BK144
     have HB := Aside0.mk Q_HB
     refine value_ (w1 := w') (v := .int .u64 (IntKind.u64.wrap (a0_3))) (by rfl) rfl ?_ ?_
     ·go_simp
      (try simp only [i64_w])
      try rfl
     refine hK.out _ _ ⟨v147, v150, v153, v157, m14_, m15_, m16_, m18_, (by rw [ha.out]; exact putSel_upk 9 hb_ rfl rfl rfl), Q_BK144, Q_HB, Q_HO148, Q_HO151, Q_HO154, fun h0_ => absurd ((hoff 14 (by kernel_rfl)).symm.trans h0_) (by decide), fun h0_ => absurd ((hoff 14 (by kernel_rfl)).symm.trans h0_) (by decide), fun h0_ => absurd ((hoff 15 (by kernel_rfl)).symm.trans h0_) (by decide), fun h0_ => absurd ((hoff 16 (by kernel_rfl)).symm.trans h0_) (by decide), fun h0_ => absurd ((hoff 18 (by kernel_rfl)).symm.trans h0_) (by decide)⟩
    refine steps_cons ?_ ?_
    ·rintro b a w' ⟨v147, v150, v153, v157, m14_, m15_, m16_, m18_, ha, Q_BK144, Q_HB, Q_HO148, Q_HO151, Q_HO154, Q_HO158, Q_X14_, Q_X15_, Q_X16_, Q_X18_⟩ hb_ hon hoff
     refine ⟨_, rfl, fun K hK => ?_⟩
     have e23 : a.tmps[23]? = some (v153) := by rw [ha]; exact putSel_on (e := (10, 23, v153)) 7 rfl rfl (hon 10 (by kernel_rfl)) rfl
     have e26 : a.tmps[26]? = some (.int .u64 (IntKind.u64.wrap (a0_3))) := by rw [ha]; exact putSel_on (e := (13, 26, .int .u64 (IntKind.u64.wrap (a0_3)))) 9 rfl rfl (hon 13 (by kernel_rfl)) rfl
     replace ha := Aside0.mk ha
     have BK144 := Aside0.mk Q_BK144
     have HB := Aside0.mk Q_HB
     have HO148 := Aside0.mk (Q_HO148 (hon 6 (by kernel_rfl)))
     have HO151 := Aside0.mk (Q_HO151 (hon 9 (by kernel_rfl)))
     have HO154 := Aside0.mk (Q_HO154 (hon 10 (by kernel_rfl)))
     obtain ⟨Ao36, co36, eo36⟩ := Kd.R_slice HO154.out
     (first | subst eo36 | (injection eo36 with f1_ f2_ f3_; have f4_ := f1_.symm; have f5_ := f3_.symm; clear f1_ f2_ f3_; subst f4_; subst f5_))
     refine goes_ Try.func27 (by kernel_rfl) rfl #[.slice Ao36 t152.length co36, .int .i64 2, .int .u64 (IntKind.u64.wrap (a0_3))] (by rfl) rfl rfl (by first | (simp only [List.map_toArray, List.map_cons, List.map_nil, Act.eval, Array.getD_eq_getD_getElem?, Option.getD_some, e23, e26]; done) | (simp only [List.map_toArray, List.map_cons, List.map_nil, Act.eval, Array.getD_eq_getD_getElem?, Option.getD_some, e23, e26]; rfl)) ?_
     with_reducible refine (wire_Fixed.calls k _ _ t152 2 (IntKind.u64.wrap (a0_3)) t155 t156 _ ?side1 ?side2 A5.out).mono ?_
     (case side1 => repeat (first | exact (Kd.R_reads' HO154.out).2.2 | (with_reducible refine Kd.C_alloc ?_ _) | (with_reducible refine Kd.C_drewN ?_ _) | (with_reducible refine Kd.C_drew ?_)))
     (case side2 => exact (Kd.R_reads' HO154.out).2.1)
     rintro e w37 ⟨v157, rfl, ho0, hb⟩
     refine ⟨_, rfl, ?_⟩
     have n0_ := Aside0.mk (Kd.R_elder' (by (with_reducible repeat (first | apply Kd.R_alloc | apply Kd.R_drewN | apply Kd.R_drew)); first | exact HO148.out | exact Kd.R_mono HO148.out (fun _ _ => trivial)) (Kd.R_base ho0) hb)
     have n1_ := Aside0.mk (Kd.R_below (by (with_reducible repeat (first | apply Kd.R_alloc | apply Kd.R_drewN | apply Kd.R_drew)); first | exact HO151.out | exact Kd.R_mono HO151.out (fun _ _ => trivial)) hb)
     have n2_ := Aside0.mk (Kd.R_elder' (by (with_reducible repeat (first | apply Kd.R_alloc | apply Kd.R_drewN | apply Kd.R_drew)); first | exact HO154.out | exact Kd.R_mono HO154.out (fun _ _ => trivial)) (Kd.R_base ho0) hb)
     have n3_ := Aside0.mk (Kd.R_lower (Kd.R_new' (Kd.R_new' ho0 (Kd.R_lt (by (with_reducible repeat (first | apply Kd.R_alloc | apply Kd.R_drewN | apply Kd.R_drew)); first | exact HO148.out | exact Kd.R_mono HO148.out (fun _ _ => trivial)))) (Kd.R_lt (by (with_reducible repeat (first | apply Kd.R_alloc | apply Kd.R_drewN | apply Kd.R_drew)); first | exact HO154.out | exact Kd.R_mono HO154.out (fun _ _ => trivial)))) (below_size (by repeat (first | (with_reducible first | exact HB.out | apply below_alloc | apply pw_below_drewN | apply below_drew1 | refine below_set ?_ GE144.out) | exact HB.out))))
     have n4_ := Aside0.mk (blk_below (g := gb144) (o := .cells #[.int .i64 a0_0, .int .i64 a0_1, .int .u64 a0_2, .int .u16 a0_3] 25 (0, 0)) (by (with_reducible repeat (first | refine blk_drewN ?_ _ | refine blk_drew ?_ | refine blk_alloc ?_ _)); exact BK144.out) hb)
     have n5_ := Aside0.mk (below_step (by repeat (first | (with_reducible first | exact HB.out | apply below_alloc | apply pw_below_drewN | apply below_drew1 | refine below_set ?_ GE144.out) | exact HB.out)) hb)
     clear HO148
     clear HO151
     clear HO154
     clear BK144
     clear HB
     have HO148 := n0_
     have HO151 := n1_
     have HO154 := n2_
     have HO158 := n3_
     have BK144 := n4_
     have HB := n5_
     clear n0_ n1_ n2_ n3_ n4_ n5_
     (try clear hb)
     (try clear hb2)
     (try clear hk)
     (try clear hi)
     (try clear ho0)
     refine hK.out _ _ ⟨v147, v150, .slice Ao36 t152.length co36, v157, (.tuple #[v157, .int .i64 t156]), m15_, m16_, m18_, (by rw [ha.out]; exact putSel_upk 10 hb_ rfl rfl rfl), (by (with_reducible repeat (first | refine blk_drewN ?_ _ | refine blk_drew ?_ | refine blk_alloc ?_ _)); exact BK144.out), (by repeat (first | (with_reducible first | exact HB.out | apply below_alloc | apply pw_below_drewN | apply below_drew1 | refine below_set ?_ GE144.out) | exact HB.out)), fun _ => (by (with_reducible repeat (first | apply Kd.R_alloc | apply Kd.R_drewN | apply Kd.R_drew)); first | exact HO148.out | exact Kd.R_mono HO148.out (fun _ _ => trivial)), fun _ => (by (with_reducible repeat (first | apply Kd.R_alloc | apply Kd.R_drewN | apply Kd.R_drew)); first | exact HO151.out | exact Kd.R_mono HO151.out (fun _ _ => trivial)), fun _ => (by (with_reducible repeat (first | apply Kd.R_alloc | apply Kd.R_drewN | apply Kd.R_drew)); first | exact HO154.out | exact Kd.R_mono HO154.out (fun _ _ => trivial)), fun _ => (by (with_reducible repeat (first | apply Kd.R_alloc | apply Kd.R_drewN | apply Kd.R_drew)); exact Kd.R_mono HO158.out (fun _ hk => by first | exact ⟨hk.1.2, hk.2⟩ | exact ⟨trivial, hk.2⟩ | exact hk.2 | exact hk.1 | trivial)), fun _ => rfl, fun h0_ => absurd ((hoff 15 (by kernel_rfl)).symm.trans h0_) (by decide), fun h0_ => absurd ((hoff 16 (by kernel_rfl)).symm.trans h0_) (by decide), fun h0_ => absurd ((hoff 18 (by kernel_rfl)).symm.trans h0_) (by decide)⟩
    refine steps_cons ?_ ?_
    ·rintro b a w' ⟨v147, v150, v153, v157, m14_, m15_, m16_, m18_, ha, Q_BK144, Q_HB, Q_HO148, Q_HO151, Q_HO154, Q_HO158, Q_X14_, Q_X15_, Q_X16_, Q_X18_⟩ hb_ hon hoff
     refine ⟨_, rfl, fun K hK => ?_⟩
     have e27 : a.tmps[27]? = some (m14_) := by rw [ha]; exact putSel_on (e := (14, 27, m14_)) 10 rfl rfl (hon 14 (by kernel_rfl)) rfl
     rw [Q_X14_ (hon 14 (by kernel_rfl))] at e27
     replace ha := Aside0.mk ha
     have BK144 := Aside0.mk Q_BK144
     have HB := Aside0.mk Q_HB
     have HO148 := Aside0.mk (Q_HO148 (hon 6 (by kernel_rfl)))
     have HO151 := Aside0.mk (Q_HO151 (hon 9 (by kernel_rfl)))
     have HO154 := Aside0.mk (Q_HO154 (hon 10 (by kernel_rfl)))
     have HO158 := Aside0.mk (Q_HO158 (hon 14 (by kernel_rfl)))
     refine value_ (w1 := w') (v := .tuple #[v157, .int .i64 t156]) (by rfl) rfl ?_ ?_
     ·go_simp
      (try simp only [i64_w])
      try rfl
     refine hK.out _ _ ⟨v147, v150, v153, v157, m14_, (.tuple #[v157, .int .i64 t156]), m16_, m18_, (by rw [ha.out]; exact putSel_upk 11 hb_ rfl rfl rfl), Q_BK144, Q_HB, Q_HO148, Q_HO151, Q_HO154, Q_HO158, Q_X14_, fun _ => rfl, fun h0_ => absurd ((hoff 16 (by kernel_rfl)).symm.trans h0_) (by decide), fun h0_ => absurd ((hoff 18 (by kernel_rfl)).symm.trans h0_) (by decide)⟩
    refine steps_cons ?_ ?_
    ·rintro b a w' ⟨v147, v150, v153, v157, m14_, m15_, m16_, m18_, ha, Q_BK144, Q_HB, Q_HO148, Q_HO151, Q_HO154, Q_HO158, Q_X14_, Q_X15_, Q_X16_, Q_X18_⟩ hb_ hon hoff
     refine ⟨_, rfl, fun K hK => ?_⟩
     have e12 : a.tmps[12]? = some (m15_) := by rw [ha]; exact putSel_on (e := (15, 12, m15_)) 11 rfl rfl (hon 15 (by kernel_rfl)) rfl
     rw [Q_X15_ (hon 15 (by kernel_rfl))] at e12
     replace ha := Aside0.mk ha
     have BK144 := Aside0.mk Q_BK144
     have HB := Aside0.mk Q_HB
     have HO148 := Aside0.mk (Q_HO148 (hon 6 (by kernel_rfl)))
     have HO151 := Aside0.mk (Q_HO151 (hon 9 (by kernel_rfl)))
     have HO154 := Aside0.mk (Q_HO154 (hon 10 (by kernel_rfl)))
     have HO158 := Aside0.mk (Q_HO158 (hon 14 (by kernel_rfl)))
     obtain ⟨Ao16_0, co16_0, eo_⟩ := Kd.R_slice HO158.out
     subst eo_
     refine value_ (w1 := w') (v := .slice Ao16_0 t155.length co16_0) (by rfl) rfl ?_ ?_
     ·go_simp
      (try simp only [i64_w])
      try rfl
     refine hK.out _ _ ⟨v147, v150, v153, .slice Ao16_0 t155.length co16_0, m14_, m15_, (.slice Ao16_0 t155.length co16_0), m18_, (by rw [ha.out]; exact putSel_upk 12 hb_ rfl rfl rfl), Q_BK144, Q_HB, Q_HO148, Q_HO151, Q_HO154, Q_HO158, Q_X14_, Q_X15_, fun _ => rfl, fun h0_ => absurd ((hoff 18 (by kernel_rfl)).symm.trans h0_) (by decide)⟩
    refine steps_cons ?_ ?_
    ·rintro b a w' ⟨v147, v150, v153, v157, m14_, m15_, m16_, m18_, ha, Q_BK144, Q_HB, Q_HO148, Q_HO151, Q_HO154, Q_HO158, Q_X14_, Q_X15_, Q_X16_, Q_X18_⟩ hb_ hon hoff
     refine ⟨_, rfl, fun K hK => ?_⟩
     have e12 : a.tmps[12]? = some (m15_) := by rw [ha]; exact putSel_on (e := (15, 12, m15_)) 11 rfl rfl (hon 15 (by kernel_rfl)) rfl
     rw [Q_X15_ (hon 15 (by kernel_rfl))] at e12
     replace ha := Aside0.mk ha
     have BK144 := Aside0.mk Q_BK144
     have HB := Aside0.mk Q_HB
     have HO148 := Aside0.mk (Q_HO148 (hon 6 (by kernel_rfl)))
     have HO151 := Aside0.mk (Q_HO151 (hon 9 (by kernel_rfl)))
     have HO154 := Aside0.mk (Q_HO154 (hon 10 (by kernel_rfl)))
     have HO158 := Aside0.mk (Q_HO158 (hon 14 (by kernel_rfl)))
     obtain ⟨Ao17_0, co17_0, eo_⟩ := Kd.R_slice HO158.out
     subst eo_
     refine value_ (w1 := w') (v := .int .i64 t156) (by rfl) rfl ?_ ?_
     ·go_simp
      (try simp only [i64_w])
      try rfl
     refine hK.out _ _ ⟨v147, v150, v153, .slice Ao17_0 t155.length co17_0, m14_, m15_, m16_, m18_, (by rw [ha.out]; exact putSel_upk 13 hb_ rfl rfl rfl), Q_BK144, Q_HB, Q_HO148, Q_HO151, Q_HO154, Q_HO158, Q_X14_, Q_X15_, Q_X16_, Q_X18_⟩
    refine steps_cons ?_ ?_
    ·rintro b a w' ⟨v147, v150, v153, v157, m14_, m15_, m16_, m18_, ha, Q_BK144, Q_HB, Q_HO148, Q_HO151, Q_HO154, Q_HO158, Q_X14_, Q_X15_, Q_X16_, Q_X18_⟩ hb_ hon hoff
     refine ⟨_, rfl, fun K hK => ?_⟩
     have e28 : a.tmps[28]? = some (m16_) := by rw [ha]; exact putSel_on (e := (16, 28, m16_)) 12 rfl rfl (hon 16 (by kernel_rfl)) rfl
     rw [Q_X16_ (hon 16 (by kernel_rfl))] at e28
     replace ha := Aside0.mk ha
     have BK144 := Aside0.mk Q_BK144
     have HB := Aside0.mk Q_HB
     have HO148 := Aside0.mk (Q_HO148 (hon 6 (by kernel_rfl)))
     have HO151 := Aside0.mk (Q_HO151 (hon 9 (by kernel_rfl)))
     have HO154 := Aside0.mk (Q_HO154 (hon 10 (by kernel_rfl)))
     have HO158 := Aside0.mk (Q_HO158 (hon 14 (by kernel_rfl)))
     refine value_ (w1 := w') (v := v157) (by rfl) rfl ?_ ?_
     ·go_simp
      (try simp only [i64_w])
      try rfl
     refine hK.out _ _ ⟨v147, v150, v153, v157, m14_, m15_, m16_, (v157), (by rw [ha.out]; exact putSel_upk 14 hb_ rfl rfl rfl), Q_BK144, Q_HB, Q_HO148, Q_HO151, Q_HO154, Q_HO158, Q_X14_, Q_X15_, Q_X16_, fun _ => rfl⟩
    refine steps_cons ?_ ?_
    ·rintro b a w' ⟨v147, v150, v153, v157, m14_, m15_, m16_, m18_, ha, Q_BK144, Q_HB, Q_HO148, Q_HO151, Q_HO154, Q_HO158, Q_X14_, Q_X15_, Q_X16_, Q_X18_⟩ hb_ hon hoff
     refine ⟨_, rfl, fun K hK => ?_⟩
     have e29 : a.tmps[29]? = some (.int .i64 t156) := by rw [ha]; exact putSel_on (e := (17, 29, .int .i64 t156)) 13 rfl rfl (hon 17 (by kernel_rfl)) rfl
     replace ha := Aside0.mk ha
     have BK144 := Aside0.mk Q_BK144
     have HB := Aside0.mk Q_HB
     have HO148 := Aside0.mk (Q_HO148 (hon 6 (by kernel_rfl)))
     have HO151 := Aside0.mk (Q_HO151 (hon 9 (by kernel_rfl)))
     have HO154 := Aside0.mk (Q_HO154 (hon 10 (by kernel_rfl)))
     have HO158 := Aside0.mk (Q_HO158 (hon 14 (by kernel_rfl)))
     refine value_ (w1 := w') (v := .int .i64 t156) (by rfl) rfl ?_ ?_
     ·go_simp
      (try simp only [i64_w])
      try rfl
     refine hK.out _ _ ⟨v147, v150, v153, v157, m14_, m15_, m16_, m18_, (by rw [ha.out]; exact putSel_upk 15 hb_ rfl rfl rfl), Q_BK144, Q_HB, Q_HO148, Q_HO151, Q_HO154, Q_HO158, Q_X14_, Q_X15_, Q_X16_, Q_X18_⟩
    exact steps_nil
   rintro b a w37 hall ⟨v147, v150, v153, v157, m14_, m15_, m16_, m18_, ha, Q_BK144, Q_HB, Q_HO148, Q_HO151, Q_HO154, Q_HO158, Q_X14_, Q_X15_, Q_X16_, Q_X18_⟩
   clear BK144 HB
   have hb1_ := hall 1 (by kernel_rfl)
   have hb2_ := hall 2 (by kernel_rfl)
   have hb4_ := hall 4 (by kernel_rfl)
   have hb5_ := hall 5 (by kernel_rfl)
   have hb6_ := hall 6 (by kernel_rfl)
   have hb8_ := hall 8 (by kernel_rfl)
   have hb9_ := hall 9 (by kernel_rfl)
   have hb10_ := hall 10 (by kernel_rfl)
   have hb12_ := hall 12 (by kernel_rfl)
   have hb13_ := hall 13 (by kernel_rfl)
   have hb14_ := hall 14 (by kernel_rfl)
   have hb15_ := hall 15 (by kernel_rfl)
   have hb16_ := hall 16 (by kernel_rfl)
   have hb17_ := hall 17 (by kernel_rfl)
   have hb18_ := hall 18 (by kernel_rfl)
   have hb19_ := hall 19 (by kernel_rfl)
   subst ha
   obtain rfl := Q_X14_ hb14_
   obtain rfl := Q_X15_ hb15_
   obtain rfl := Q_X16_ hb16_
   obtain rfl := Q_X18_ hb18_
   simp only [putSel, hb1_, hb2_, hb4_, hb5_, hb6_, hb8_, hb9_, hb10_, hb12_, hb13_, hb14_, hb15_, hb16_, hb17_, hb18_, hb19_, if_true, Act.put, List.setIfInBounds_toArray, List.set_cons_zero, List.set_cons_succ]
   have BK144 := Aside0.mk Q_BK144
   clear Q_BK144
   have HB := Aside0.mk Q_HB
   clear Q_HB
   have HO148 := Aside0.mk (Q_HO148 hb6_)
   clear Q_HO148
   have HO151 := Aside0.mk (Q_HO151 hb9_)
   clear Q_HO151
   have HO154 := Aside0.mk (Q_HO154 hb10_)
   clear Q_HO154
   have HO158 := Aside0.mk (Q_HO158 hb14_)
   clear Q_HO158
   clear hall hb1_ hb2_ hb4_ hb5_ hb6_ hb8_ hb9_ hb10_ hb12_ hb13_ hb14_ hb15_ hb16_ hb17_ hb18_ hb19_
   try go_wp2
   go_ret2
   exact ⟨_, by first | rfl | (simp [errW_none, errW_some] <;> rfl) | (simp [*, errW_none, errW_some] <;> rfl), by first | exact Kd.R_nil _ _ _ _ _ | exact Kd.N_nil _ _ _ _ _ | exact Kd.V_nil _ _ _ _ _ | exact Kd.Q_nil _ _ _ _ _ | exact Kd.S_nil _ _ _ _ _, by repeat (first | (with_reducible first | exact HB.out | apply below_alloc | apply pw_below_drewN | apply below_drew1 | refine below_set ?_ GE144.out) | exact HB.out)⟩
 ·rw [if_neg c3] at H
  have c3b0 : (t145 == 0) = false := beq_eq_false_iff_ne.mpr c3
  have c3b1 : (t145 != 0) = true := bne_iff_ne.mpr c3
  simp only [Option.some.injEq, Prod.mk.injEq] at H
  obtain ⟨rfl, rfl⟩ := H
  go_enter Try.func9, Try.ntmps9
  go_wp2_with (first | ((with_reducible refine gate_dst (N := 1) rfl ?_); refine box_event ?hg (N := 1) ?hd (cs := #[.int .i64 a0_0, .int .i64 a0_1, .int .u64 a0_2, .int .u16 a0_3]) (t := 25) ?hr ?_; (case hd => rfl); (case hg => rfl); (case hr => first | (go_simp; done) | (go_simp; rfl)); intro gb144 hg w38 hbox hb; have n0_ := Aside0.mk (below_step (by repeat (first | (with_reducible first | exact HB.out | apply below_alloc | apply pw_below_drewN | apply below_drew1) | exact HB.out)) hb); have n1_ := Aside0.mk (hbox); have n2_ := Aside0.mk ((by rw [hg]; exact (below_size (by repeat (first | (with_reducible first | exact HB.out | apply below_alloc | apply pw_below_drewN | apply below_drew1) | exact HB.out))) : w.heap.size ≤ gb144)); have n3_ := Aside0.mk ((by rw [hg]; exact (below_size (by repeat (first | (with_reducible first | exact HB.out | apply below_alloc | apply pw_below_drewN | apply below_drew1) | exact HB.out))) : w.heap.size ≤ gb144)); clear HB; have HB := n0_; have BK144 := n1_; have GW144 := n2_; have GE144 := n3_; clear n0_ n1_ n2_ n3_; clear hb hbox hg; have hcz39_0 : w38.cell? ⟨gb144, 0, none⟩ = some (.int .i64 a0_0) := (blk_cell BK144.out 0).trans rfl; have hcz39_1 : w38.cell? ⟨gb144, 1, none⟩ = some (.int .i64 a0_1) := (blk_cell BK144.out 1).trans rfl; have hcz39_2 : w38.cell? ⟨gb144, 2, none⟩ = some (.int .u64 a0_2) := (blk_cell BK144.out 2).trans rfl; have hcz39_3 : w38.cell? ⟨gb144, 3, none⟩ = some (.int .u16 a0_3) := (blk_cell BK144.out 3).trans rfl; have hfz39_0 := blk_frozen BK144.out 0; have hfz39_1 := blk_frozen BK144.out 1; have hfz39_2 := blk_frozen BK144.out 2; have hfz39_3 := blk_frozen BK144.out 3) | ((with_reducible refine gate_callee (f := 24) rfl ?_); refine goesL_ (some 8) rfl rfl Try.func24 (by kernel_rfl) rfl #[.agg #[.int .i64 a0_0, .int .i64 a0_1, .int .u64 a0_2, .int .u16 a0_3]] rfl (by (try simp only [List.map_toArray, List.map_cons, List.map_nil]); first | done | rfl | (simp only [List.length_drop, List.length_take]; first | rfl | (rw [Nat.min_eq_left (Int.toNat_le.2 (of_decide_eq_true (by assumption)))]; rfl))) ?_; (with_reducible refine (frame_Check.calls k a0_0 a0_1 a0_2 a0_3 t145 _ A2.out).mono ?_); rintro e w40 ⟨rfl, hb⟩; refine ⟨_, rfl, ?_⟩; have n0_ := Aside0.mk (blk_below (g := gb144) (o := .cells #[.int .i64 a0_0, .int .i64 a0_1, .int .u64 a0_2, .int .u16 a0_3] 25 (0, 0)) (by (with_reducible repeat (first | refine blk_drewN ?_ _ | refine blk_drew ?_ | refine blk_alloc ?_ _)); exact BK144.out) hb); have n1_ := Aside0.mk (below_step (by repeat (first | (with_reducible first | exact HB.out | apply below_alloc | apply pw_below_drewN | apply below_drew1 | refine below_set ?_ GE144.out) | exact HB.out)) hb); clear BK144; clear HB; have BK144 := n0_; have HB := n1_; clear n0_ n1_; (try clear hb); (try clear hb2); (try clear hk); (try clear hi)))
  go_ret2
  exact ⟨_, by first | rfl | (simp [errW_none, errW_some] <;> rfl) | (simp [*, errW_none, errW_some] <;> rfl), by first | exact Kd.R_nil _ _ _ _ _ | exact Kd.N_nil _ _ _ _ _ | exact Kd.V_nil _ _ _ _ _ | exact Kd.Q_nil _ _ _ _ _ | exact Kd.S_nil _ _ _ _ _, by repeat (first | (with_reducible first | exact HB.out | apply below_alloc | apply pw_below_drewN | apply below_drew1 | refine below_set ?_ GE144.out) | exact HB.out)⟩

end Go.Proofs.Ytogdelhofdelgaa.Print
