-- PRINTED by print.py (a twelfth state) out of the translation. Not trusted: Lean checks it.
import Derived.Test.YtcofclkgfandfaaGreatSq
import Derived.Test.YtcofclkgfandfaaGreatPrint0
import Derived.Test.YtcofclkgfandfaaGreatPrint29
import Derived.Test.YtcofclkgfandfaaGreatPrint36
namespace Go.Proofs.YtcofclkgfandfaaGreat.Print
open Go.RowKit Go.Proofs.YtcofclkgfandfaaGreatW.PrintWords Go.Proofs.YtcofclkgfandfaaGreatW.PrintLast Go.Proofs.YtcofclkgfandfaaGreatW.PrintMore Go.Proofs.YtcofclkgfandfaaGreatX
attribute [local go_sem] str_lss str_geq max2_int min2_int max_two min_two max_three min_three max_four min_four   -- for this text's walks alone
set_option linter.unusedVariables false
set_option linter.unusedSimpArgs false

/-! ### frame_Write: function 14 -/
def frame_Write.f (k : Nat) (a0_0 : Int) (a0_1 : Int) (a0_2 : Int) (a0_3 : Int) : Option (List Int × Int) := (frame_Check.f k a0_0 a0_1 a0_2 a0_3).bind fun t661 => (if t661 = 0 then ((wire_Vary.f k (([161, (a0_0) % 256, (a0_1) % 256] : List Int)) (([a0_2] : List Int))).bind fun t668 => ((wire_Fixed.f k t668 2 (IntKind.u64.wrap (a0_3))).bind fun bt671 => (if bt671.2 = 0 then ((crc_Seal24.f bt671.1).bind fun bt675 => (some (bt675.1, bt675.2))) else (some (([] : List Int), bt671.2))))) else (some (([] : List Int), t661)))
def frame_Write.T4 : Bool × List (List Nat × List Nat) := (true, [([], []), ([0], [0]), ([1], [1]), ([], []), ([3], [3]), ([4], [4]), ([2, 5], [2, 5]), ([], []), ([7], [7]), ([8], [8]), ([6, 9], [6, 9]), ([], []), ([11], [11]), ([12], [12]), ([10, 13, 10], [10, 13]), ([14], [14]), ([15], [15]), ([15], [15]), ([16, 14, 0, 1, 2, 3, 4, 5, 6, 7, 8, 9, 10, 11, 12, 13, 14, 15, 16], [16]), ([17, 18, 0, 1, 2, 3, 4, 5, 6, 7, 8, 9, 10, 11, 12, 13, 14, 15, 16, 17, 18], [17])])
def frame_Write.B4 : List Nat := [0, 1, 3, 0, 8, 24, 63, 0, 128, 384, 1023, 0, 2048, 6144, 16383, 32767, 65535, 65535, 131071, 524287]
theorem frame_Write.tab4 : rtab .any (opsOf Tryz.f14 4) = frame_Write.T4 := by kernel_rfl
theorem frame_Write.bits4 : waitsOk frame_Write.T4.2 frame_Write.B4 = true := by kernel_rfl
set_option maxHeartbeats 8000000 in
set_option maxRecDepth 100000 in
theorem frame_Write.calls (k : Nat) (a0_0 : Int) (a0_1 : Int) (a0_2 : Int) (a0_3 : Int) (r1 : List Int) (r2 : Int) (w : World) (h : frame_Write.f k a0_0 a0_1 a0_2 a0_3 = some (r1, r2)) :
  Calls Tryz.prog 14 #[.agg #[.int .i64 a0_0, .int .i64 a0_1, .int .u64 a0_2, .int .u16 a0_3]] w fun e w' => ∃ v0_ : Value, e = .returned (.tuple #[v0_, .int .i64 r2]) ∧ Kd.R (Kd.int .u8) 5 w' w.heap.size (fun _ => True) v0_ r1 ∧ Below w.heap.size w w' := by
 have hu43 := Tryz.underlying43
 have HB := asd (Below.refl w.heap.size w)
 have H : ((frame_Check.f k a0_0 a0_1 a0_2 a0_3).bind fun t661 => (if t661 = 0 then ((wire_Vary.f k (([161, (a0_0) % 256, (a0_1) % 256] : List Int)) (([a0_2] : List Int))).bind fun t668 => ((wire_Fixed.f k t668 2 (IntKind.u64.wrap (a0_3))).bind fun bt671 => (if bt671.2 = 0 then ((crc_Seal24.f bt671.1).bind fun bt675 => (some (bt675.1, bt675.2))) else (some (([] : List Int), bt671.2))))) else (some (([] : List Int), t661)))) = some (r1, r2) := h
 clear h
 replace H := Option.bind_eq_some_iff.mp H
 obtain ⟨t661, A20, H⟩ := H
 replace H : (if t661 = 0 then ((wire_Vary.f k (([161, (a0_0) % 256, (a0_1) % 256] : List Int)) (([a0_2] : List Int))).bind fun t668 => ((wire_Fixed.f k t668 2 (IntKind.u64.wrap (a0_3))).bind fun bt671 => (if bt671.2 = 0 then ((crc_Seal24.f bt671.1).bind fun bt675 => (some (bt675.1, bt675.2))) else (some (([] : List Int), bt671.2))))) else (some (([] : List Int), t661))) = some (r1, r2) := H
 have A2 := asd A20
 clear A20
 by_cases c3 : t661 = 0
 ·rw [if_pos c3] at H
  have c3b0 : (t661 == 0) = true := beq_iff_eq.mpr c3
  have c3b1 : (t661 != 0) = false := bne_eq_false_iff_eq.mpr c3
  clear c3
  obtain ⟨y662, hy662⟩ : ∃ y_ : List Int, y_ = (([161, (a0_0) % 256, (a0_1) % 256] : List Int)) := ⟨_, rfl⟩
  replace H : ((wire_Vary.f k y662 (([a0_2] : List Int))).bind fun t668 => ((wire_Fixed.f k t668 2 (IntKind.u64.wrap (a0_3))).bind fun bt671 => (if bt671.2 = 0 then ((crc_Seal24.f bt671.1).bind fun bt675 => (some (bt675.1, bt675.2))) else (some (([] : List Int), bt671.2))))) = some (r1, r2) := by first | (rw [hy662]; with_reducible exact H) | (have H2_ := (Option.bind_some _ _).symm.trans H; rw [hy662]; with_reducible exact H2_) | (have H2_ := (Option.bind_some _ _).symm.trans H; with_reducible exact H2_) | with_reducible exact H | (rw [hy662]; exact H) | exact H
  have Ny662 := asd hy662
  clear hy662
  obtain ⟨y665, hy665⟩ : ∃ y_ : List Int, y_ = (([a0_2] : List Int)) := ⟨_, rfl⟩
  replace H : ((wire_Vary.f k y662 y665).bind fun t668 => ((wire_Fixed.f k t668 2 (IntKind.u64.wrap (a0_3))).bind fun bt671 => (if bt671.2 = 0 then ((crc_Seal24.f bt671.1).bind fun bt675 => (some (bt675.1, bt675.2))) else (some (([] : List Int), bt671.2))))) = some (r1, r2) := by first | (rw [hy665]; with_reducible exact H) | (have H2_ := (Option.bind_some _ _).symm.trans H; rw [hy665]; with_reducible exact H2_) | (have H2_ := (Option.bind_some _ _).symm.trans H; with_reducible exact H2_) | with_reducible exact H | (rw [hy665]; exact H) | exact H
  have Ny665 := asd hy665
  clear hy665
  replace H := Option.bind_eq_some_iff.mp H
  obtain ⟨t668, A40, H⟩ := H
  replace H : ((wire_Fixed.f k t668 2 (IntKind.u64.wrap (a0_3))).bind fun bt671 => (if bt671.2 = 0 then ((crc_Seal24.f bt671.1).bind fun bt675 => (some (bt675.1, bt675.2))) else (some (([] : List Int), bt671.2)))) = some (r1, r2) := H
  have A4 := asd A40
  clear A40
  replace H := Option.bind_eq_some_iff.mp H
  obtain ⟨⟨t671, t672⟩, A50, H⟩ := H
  replace H : (if t672 = 0 then ((crc_Seal24.f t671).bind fun bt675 => (some (bt675.1, bt675.2))) else (some (([] : List Int), t672))) = some (r1, r2) := H
  have A5 := asd A50
  clear A50
  by_cases c6 : t672 = 0
  ·rw [if_pos c6] at H
   have c6b0 : (t672 == 0) = true := beq_iff_eq.mpr c6
   have c6b1 : (t672 != 0) = false := bne_eq_false_iff_eq.mpr c6
   clear c6
   replace H := Option.bind_eq_some_iff.mp H
   obtain ⟨⟨t675, t676⟩, A70, H⟩ := H
   replace H : (some (t675, t676)) = some (r1, r2) := H
   have A7 := asd A70
   clear A70
   simp only [Option.some.injEq, Prod.mk.injEq] at H
   obtain ⟨rfl, rfl⟩ := H
   go_enter Tryz.func14, Tryz.ntmps14
   try go_wp2_with (first | ((with_reducible refine gate_dst (N := 1) rfl ?_); refine bx (N := 1) (cs := #[.int .i64 a0_0, .int .i64 a0_1, .int .u64 a0_2, .int .u16 a0_3]) (t := 43) ?_; intro gb660 hg w8 hbox hb; have BK660 := asd (hbox); have GW660 := bz HB hg; have GE660 := bz HB hg; replace HB := bs HB hb; clear hb hbox hg; have hcz9 := cf4 BK660) | ((with_reducible refine gate_callee (f := 48) rfl ?_); refine gL (some 8) Tryz.func48 #[.agg #[.int .i64 a0_0, .int .i64 a0_1, .int .u64 a0_2, .int .u16 a0_3]] ?_; (with_reducible refine (frame_Check.calls k a0_0 a0_1 a0_2 a0_3 t661 _ A2.out).mono ?_); rintro e w10 ⟨rfl, hb⟩; refine ⟨_, rfl, ?_⟩; replace BK660 := bb BK660 hb; replace HB := bs HB hb; (try clear hb)))
   replace BK660 := asd (blk_drew BK660.out)
   replace HB := asd (below_drew1 HB.out)
   refine start_ (n := 20) (S := fun w' => True) (ds := []) (fb 20 0) (by kernel_rfl) rfl rfl trivial (fun hHeld => ?_); refine with_tabW frame_Write.tab4 frame_Write.bits4 (fun HT_ HW_ => ?_)
   generalize w10.drew = w11 at BK660 HB hHeld ⊢
   refine pz (i := 0) (N := some 13) (fb 20 1) ?_ (hc := any_of HT_.out (by kernel_rfl))
   refine pz (i := 3) (N := some 16) (fb 20 9) ?_ (hc := any_of HT_.out (by kernel_rfl))
   refine pz (i := 7) (N := some 20) (fb 20 137) ?_ (hc := any_of HT_.out (by kernel_rfl))
   refine pz (i := 11) (N := some 24) (fb 20 2185) ?_ (hc := any_of HT_.out (by kernel_rfl))
   refine inv_at [1, 2, 4, 5, 6, 8, 9, 10, 12, 13, 14, 15, 16, 17, 18, 19] (fun a0_ b a w' => ∃ (v663 : Value) (v666 : Value) (v669 : Value) (v673 : Value) (m14_ : Value) (m15_ : Value) (m16_ : Value) (m18_ : Value), a = putSel a0_ b [(1, 14, .int .i64 a0_0), (2, 15, .int .u8 ((a0_0) % 256)), (4, 17, .int .i64 a0_1), (5, 18, .int .u8 ((a0_1) % 256)), (6, 19, v663), (8, 21, .int .u64 a0_2), (9, 22, v666), (10, 23, v669), (12, 25, .int .u16 a0_3), (13, 26, .int .u64 (IntKind.u64.wrap (a0_3))), (14, 27, m14_), (15, 12, m15_), (16, 28, m16_), (17, 29, .int .i64 t672), (18, 5, m18_), (19, 6, .int .i64 t672)] ∧ (w'.heap[gb660]? = some (.cells #[.int .i64 a0_0, .int .i64 a0_1, .int .u64 a0_2, .int .u16 a0_3] 43 (0, 0))) ∧ (Below w.heap.size w w') ∧ (b 6 = true → Kd.R (Kd.int .u8) 5 w' w.heap.size (fun _ => True) v663 y662) ∧ (b 9 = true → Kd.R (Kd.int .u64) 24 w' w.heap.size (fun _ => True) v666 y665) ∧ (b 10 = true → Kd.R (Kd.int .u8) 5 w' w.heap.size (fun _ => True) v669 t668) ∧ (b 14 = true → Kd.R (Kd.int .u8) 5 w' w.heap.size (fun _ => True) v673 t671) ∧ (b 14 = true → (m14_ : Value) = .tuple #[v673, .int .i64 t672]) ∧ (b 15 = true → (m15_ : Value) = .tuple #[v673, .int .i64 t672]) ∧ (b 16 = true → (m16_ : Value) = v673) ∧ (b 18 = true → (m18_ : Value) = v673)) HT_.out HW_.out (by kernel_rfl) (by kernel_rfl) ?_ ?_ ?_
   ·exact ⟨.bool false, .bool false, .bool false, .bool false, .bool false, .bool false, .bool false, .bool false, by simp only [putSel, Bool.false_eq_true, if_false], BK660.out, HB.out, fun h_ => absurd h_ (by decide), fun h_ => absurd h_ (by decide), fun h_ => absurd h_ (by decide), fun h_ => absurd h_ (by decide), fun h_ => absurd h_ (by decide), fun h_ => absurd h_ (by decide), fun h_ => absurd h_ (by decide), fun h_ => absurd h_ (by decide)⟩
   ·skip
    clear BK660 HB
    refine steps_cons ?_ ?_
    ·rintro b a w' ⟨v663, v666, v669, v673, m14_, m15_, m16_, m18_, ha, Q_BK660, Q_HB, Q_HO664, Q_HO667, Q_HO670, Q_HO674, Q_X14_, Q_X15_, Q_X16_, Q_X18_⟩ hb_ hon hoff
     refine ⟨_, rfl, fun K hK => ?_⟩
     have e13 : a.tmps[13]? = some (.pointer (some ⟨gb660, 0, none⟩)) := by rw [ha]; exact (putSel_off rfl).trans rfl
     replace ha := asd ha
     have BK660 := asd Q_BK660
     have HB := asd Q_HB
     have hc0_ : w'.cell? ⟨gb660, 0, none⟩ = some (.int .i64 a0_0) := (blk_cell BK660.out 0).trans rfl
     have hc1_ : w'.cell? ⟨gb660, 1, none⟩ = some (.int .i64 a0_1) := (blk_cell BK660.out 1).trans rfl
     have hc2_ : w'.cell? ⟨gb660, 2, none⟩ = some (.int .u64 a0_2) := (blk_cell BK660.out 2).trans rfl
     have hc3_ : w'.cell? ⟨gb660, 3, none⟩ = some (.int .u16 a0_3) := (blk_cell BK660.out 3).trans rfl
     refine value_ (w1 := w') (v := .int .i64 a0_0) (by rfl) rfl ?_ ?_
     ·go_simp
      (try simp only [i64_w])
      try rfl
     refine hK.out _ _ ⟨v663, v666, v669, v673, m14_, m15_, m16_, m18_, (by rw [ha.out]; exact putSel_upk 0 hb_ rfl rfl rfl), Q_BK660, Q_HB, fun h0_ => absurd ((hoff 6 (by kernel_rfl)).symm.trans h0_) (by decide), Q_HO667, fun h0_ => absurd ((hoff 10 (by kernel_rfl)).symm.trans h0_) (by decide), fun h0_ => absurd ((hoff 14 (by kernel_rfl)).symm.trans h0_) (by decide), fun h0_ => absurd ((hoff 14 (by kernel_rfl)).symm.trans h0_) (by decide), fun h0_ => absurd ((hoff 15 (by kernel_rfl)).symm.trans h0_) (by decide), fun h0_ => absurd ((hoff 16 (by kernel_rfl)).symm.trans h0_) (by decide), fun h0_ => absurd ((hoff 18 (by kernel_rfl)).symm.trans h0_) (by decide)⟩
    refine steps_cons ?_ ?_
    ·rintro b a w' ⟨v663, v666, v669, v673, m14_, m15_, m16_, m18_, ha, Q_BK660, Q_HB, Q_HO664, Q_HO667, Q_HO670, Q_HO674, Q_X14_, Q_X15_, Q_X16_, Q_X18_⟩ hb_ hon hoff
     refine ⟨_, rfl, fun K hK => ?_⟩
     have e14 : a.tmps[14]? = some (.int .i64 a0_0) := by rw [ha]; exact putSel_on (e := (1, 14, .int .i64 a0_0)) 0 rfl rfl (hon 1 (by kernel_rfl)) rfl
     replace ha := asd ha
     have BK660 := asd Q_BK660
     have HB := asd Q_HB
     refine value_ (w1 := w') (v := .int .u8 ((a0_0) % 256)) (by rfl) rfl ?_ ?_
     ·go_simp
      (try simp only [i64_w])
      try rfl
     refine hK.out _ _ ⟨v663, v666, v669, v673, m14_, m15_, m16_, m18_, (by rw [ha.out]; exact putSel_upk 1 hb_ rfl rfl rfl), Q_BK660, Q_HB, fun h0_ => absurd ((hoff 6 (by kernel_rfl)).symm.trans h0_) (by decide), Q_HO667, fun h0_ => absurd ((hoff 10 (by kernel_rfl)).symm.trans h0_) (by decide), fun h0_ => absurd ((hoff 14 (by kernel_rfl)).symm.trans h0_) (by decide), fun h0_ => absurd ((hoff 14 (by kernel_rfl)).symm.trans h0_) (by decide), fun h0_ => absurd ((hoff 15 (by kernel_rfl)).symm.trans h0_) (by decide), fun h0_ => absurd ((hoff 16 (by kernel_rfl)).symm.trans h0_) (by decide), fun h0_ => absurd ((hoff 18 (by kernel_rfl)).symm.trans h0_) (by decide)⟩
    refine steps_cons ?_ ?_
    ·rintro b a w' ⟨v663, v666, v669, v673, m14_, m15_, m16_, m18_, ha, Q_BK660, Q_HB, Q_HO664, Q_HO667, Q_HO670, Q_HO674, Q_X14_, Q_X15_, Q_X16_, Q_X18_⟩ hb_ hon hoff
     refine ⟨_, rfl, fun K hK => ?_⟩
     have e16 : a.tmps[16]? = some (.pointer (some ⟨gb660, 1, none⟩)) := by rw [ha]; exact (putSel_off rfl).trans rfl
     replace ha := asd ha
     have BK660 := asd Q_BK660
     have HB := asd Q_HB
     have hc0_ : w'.cell? ⟨gb660, 0, none⟩ = some (.int .i64 a0_0) := (blk_cell BK660.out 0).trans rfl
     have hc1_ : w'.cell? ⟨gb660, 1, none⟩ = some (.int .i64 a0_1) := (blk_cell BK660.out 1).trans rfl
     have hc2_ : w'.cell? ⟨gb660, 2, none⟩ = some (.int .u64 a0_2) := (blk_cell BK660.out 2).trans rfl
     have hc3_ : w'.cell? ⟨gb660, 3, none⟩ = some (.int .u16 a0_3) := (blk_cell BK660.out 3).trans rfl
     refine value_ (w1 := w') (v := .int .i64 a0_1) (by rfl) rfl ?_ ?_
     ·go_simp
      (try simp only [i64_w])
      try rfl
     refine hK.out _ _ ⟨v663, v666, v669, v673, m14_, m15_, m16_, m18_, (by rw [ha.out]; exact putSel_upk 2 hb_ rfl rfl rfl), Q_BK660, Q_HB, fun h0_ => absurd ((hoff 6 (by kernel_rfl)).symm.trans h0_) (by decide), Q_HO667, fun h0_ => absurd ((hoff 10 (by kernel_rfl)).symm.trans h0_) (by decide), fun h0_ => absurd ((hoff 14 (by kernel_rfl)).symm.trans h0_) (by decide), fun h0_ => absurd ((hoff 14 (by kernel_rfl)).symm.trans h0_) (by decide), fun h0_ => absurd ((hoff 15 (by kernel_rfl)).symm.trans h0_) (by decide), fun h0_ => absurd ((hoff 16 (by kernel_rfl)).symm.trans h0_) (by decide), fun h0_ => absurd ((hoff 18 (by kernel_rfl)).symm.trans h0_) (by decide)⟩
    refine steps_cons ?_ ?_
    ·rintro b a w' ⟨v663, v666, v669, v673, m14_, m15_, m16_, m18_, ha, Q_BK660, Q_HB, Q_HO664, Q_HO667, Q_HO670, Q_HO674, Q_X14_, Q_X15_, Q_X16_, Q_X18_⟩ hb_ hon hoff
     refine ⟨_, rfl, fun K hK => ?_⟩
     have e17 : a.tmps[17]? = some (.int .i64 a0_1) := by rw [ha]; exact putSel_on (e := (4, 17, .int .i64 a0_1)) 2 rfl rfl (hon 4 (by kernel_rfl)) rfl
     replace ha := asd ha
     have BK660 := asd Q_BK660
     have HB := asd Q_HB
     refine value_ (w1 := w') (v := .int .u8 ((a0_1) % 256)) (by rfl) rfl ?_ ?_
     ·go_simp
      (try simp only [i64_w])
      try rfl
     refine hK.out _ _ ⟨v663, v666, v669, v673, m14_, m15_, m16_, m18_, (by rw [ha.out]; exact putSel_upk 3 hb_ rfl rfl rfl), Q_BK660, Q_HB, fun h0_ => absurd ((hoff 6 (by kernel_rfl)).symm.trans h0_) (by decide), Q_HO667, fun h0_ => absurd ((hoff 10 (by kernel_rfl)).symm.trans h0_) (by decide), fun h0_ => absurd ((hoff 14 (by kernel_rfl)).symm.trans h0_) (by decide), fun h0_ => absurd ((hoff 14 (by kernel_rfl)).symm.trans h0_) (by decide), fun h0_ => absurd ((hoff 15 (by kernel_rfl)).symm.trans h0_) (by decide), fun h0_ => absurd ((hoff 16 (by kernel_rfl)).symm.trans h0_) (by decide), fun h0_ => absurd ((hoff 18 (by kernel_rfl)).symm.trans h0_) (by decide)⟩
    refine steps_cons ?_ ?_
    ·rintro b a w' ⟨v663, v666, v669, v673, m14_, m15_, m16_, m18_, ha, Q_BK660, Q_HB, Q_HO664, Q_HO667, Q_HO670, Q_HO674, Q_X14_, Q_X15_, Q_X16_, Q_X18_⟩ hb_ hon hoff
     refine ⟨_, rfl, fun K hK => ?_⟩
     have e15 : a.tmps[15]? = some (.int .u8 ((a0_0) % 256)) := by rw [ha]; exact putSel_on (e := (2, 15, .int .u8 ((a0_0) % 256))) 1 rfl rfl (hon 2 (by kernel_rfl)) rfl
     have e18 : a.tmps[18]? = some (.int .u8 ((a0_1) % 256)) := by rw [ha]; exact putSel_on (e := (5, 18, .int .u8 ((a0_1) % 256))) 3 rfl rfl (hon 5 (by kernel_rfl)) rfl
     replace ha := asd ha
     have BK660 := asd Q_BK660
     have HB := asd Q_HB
     refine Kd.R_lit_step (Kd.int .u8) _ 5 ?hg (N := 19) ?hd (xs := ([161, (a0_0) % 256, (a0_1) % 256] : List Int)) (inner := [.int .u8 161, .int .u8 ((a0_0) % 256), .int .u8 ((a0_1) % 256)]) (ok := fun _ => True) (okp := fun _ => True) ?hr ?hp (fun _ hk => hk) trivial (Below.refl _ _) (Nat.le_refl _) (by simp) ?_; (case hd => rfl); (case hg => rfl); (case hr => first | (go_simp; done) | (go_simp; rfl)); (case hp => exact (Reps.one (show Kd.M (Kd.int .u8) _ _ _ 161 [.int .u8 161] from rfl) (Reps.one (show Kd.M (Kd.int .u8) _ _ _ ((a0_0) % 256) [.int .u8 ((a0_0) % 256)] from rfl) (Reps.one (show Kd.M (Kd.int .u8) _ _ _ ((a0_1) % 256) [.int .u8 ((a0_1) % 256)] from rfl) (Reps.none _ _)))))
     intro v663 w12 ho13 hb hg_ hnew_
     clear hg_ hnew_
     (first | rw [← Ny662.out] at ho13 | (simp only [Int.reduceToNat] at ho13; rw [← Ny662.out] at ho13))
     have n0_ := rl ho13 HB
     have n1_ := bb BK660 hb
     have n2_ := bs HB hb
     have z_HO667 := fun (h0_ : b 9 = true) => (show Kd.R (Kd.int .u64) 24 w12 w.heap.size (fun _ => True) v666 y665 from by first | exact (Kd.R_below (by (with_reducible repeat (first | apply Kd.R_alloc | apply Kd.R_drewN | apply Kd.R_drew)); exact (Q_HO667 h0_)) hb) | exact Kd.R_mono (Kd.R_below (by (with_reducible repeat (first | apply Kd.R_alloc | apply Kd.R_drewN | apply Kd.R_drew)); exact (Q_HO667 h0_)) hb) (fun _ h_ => by first | trivial | exact h_ | exact h_.1))
     clear BK660 HB
     have HO664 := n0_
     have BK660 := n1_
     have HB := n2_
     clear n0_ n1_ n2_ hb ho13
     refine hK.out _ _ ⟨v663, v666, v669, v673, m14_, m15_, m16_, m18_, (by rw [ha.out]; exact putSel_upk 4 hb_ rfl rfl rfl), (be BK660).out, (bse HB), fun _ => (by (with_reducible repeat (first | apply Kd.R_alloc | apply Kd.R_drewN | apply Kd.R_drew)); first | exact HO664.out | exact Kd.R_mono HO664.out (fun _ _ => trivial)), z_HO667, fun h0_ => absurd ((hoff 10 (by kernel_rfl)).symm.trans h0_) (by decide), fun h0_ => absurd ((hoff 14 (by kernel_rfl)).symm.trans h0_) (by decide), fun h0_ => absurd ((hoff 14 (by kernel_rfl)).symm.trans h0_) (by decide), fun h0_ => absurd ((hoff 15 (by kernel_rfl)).symm.trans h0_) (by decide), fun h0_ => absurd ((hoff 16 (by kernel_rfl)).symm.trans h0_) (by decide), fun h0_ => absurd ((hoff 18 (by kernel_rfl)).symm.trans h0_) (by decide)⟩
    refine steps_cons ?_ ?_
    ·rintro b a w' ⟨v663, v666, v669, v673, m14_, m15_, m16_, m18_, ha, Q_BK660, Q_HB, Q_HO664, Q_HO667, Q_HO670, Q_HO674, Q_X14_, Q_X15_, Q_X16_, Q_X18_⟩ hb_ hon hoff
     refine ⟨_, rfl, fun K hK => ?_⟩
     have e20 : a.tmps[20]? = some (.pointer (some ⟨gb660, 2, none⟩)) := by rw [ha]; exact (putSel_off rfl).trans rfl
     replace ha := asd ha
     have BK660 := asd Q_BK660
     have HB := asd Q_HB
     have hc0_ : w'.cell? ⟨gb660, 0, none⟩ = some (.int .i64 a0_0) := (blk_cell BK660.out 0).trans rfl
     have hc1_ : w'.cell? ⟨gb660, 1, none⟩ = some (.int .i64 a0_1) := (blk_cell BK660.out 1).trans rfl
     have hc2_ : w'.cell? ⟨gb660, 2, none⟩ = some (.int .u64 a0_2) := (blk_cell BK660.out 2).trans rfl
     have hc3_ : w'.cell? ⟨gb660, 3, none⟩ = some (.int .u16 a0_3) := (blk_cell BK660.out 3).trans rfl
     refine value_ (w1 := w') (v := .int .u64 a0_2) (by rfl) rfl ?_ ?_
     ·go_simp
      (try simp only [i64_w])
      try rfl
     refine hK.out _ _ ⟨v663, v666, v669, v673, m14_, m15_, m16_, m18_, (by rw [ha.out]; exact putSel_upk 5 hb_ rfl rfl rfl), Q_BK660, Q_HB, Q_HO664, fun h0_ => absurd ((hoff 9 (by kernel_rfl)).symm.trans h0_) (by decide), fun h0_ => absurd ((hoff 10 (by kernel_rfl)).symm.trans h0_) (by decide), fun h0_ => absurd ((hoff 14 (by kernel_rfl)).symm.trans h0_) (by decide), fun h0_ => absurd ((hoff 14 (by kernel_rfl)).symm.trans h0_) (by decide), fun h0_ => absurd ((hoff 15 (by kernel_rfl)).symm.trans h0_) (by decide), fun h0_ => absurd ((hoff 16 (by kernel_rfl)).symm.trans h0_) (by decide), fun h0_ => absurd ((hoff 18 (by kernel_rfl)).symm.trans h0_) (by decide)⟩
    refine steps_cons ?_ ?_
    ·rintro b a w' ⟨v663, v666, v669, v673, m14_, m15_, m16_, m18_, ha, Q_BK660, Q_HB, Q_HO664, Q_HO667, Q_HO670, Q_HO674, Q_X14_, Q_X15_, Q_X16_, Q_X18_⟩ hb_ hon hoff
     refine ⟨_, rfl, fun K hK => ?_⟩
     have e21 : a.tmps[21]? = some (.int .u64 a0_2) := by rw [ha]; exact putSel_on (e := (8, 21, .int .u64 a0_2)) 5 rfl rfl (hon 8 (by kernel_rfl)) rfl
     replace ha := asd ha
     have BK660 := asd Q_BK660
     have HB := asd Q_HB
     refine Kd.R_lit_step (Kd.int .u64) _ 24 ?hg (N := 22) ?hd (xs := ([a0_2] : List Int)) (inner := [.int .u64 a0_2]) (ok := fun _ => True) (okp := fun _ => True) ?hr ?hp (fun _ hk => hk) trivial (Below.refl _ _) (Nat.le_refl _) (by simp) ?_; (case hd => rfl); (case hg => rfl); (case hr => first | (go_simp; done) | (go_simp; rfl)); (case hp => exact (Reps.one (show Kd.M (Kd.int .u64) _ _ _ a0_2 [.int .u64 a0_2] from rfl) (Reps.none _ _)))
     intro v666 w12 ho13 hb hg_ hnew_
     clear hg_ hnew_
     (first | rw [← Ny665.out] at ho13 | (simp only [Int.reduceToNat] at ho13; rw [← Ny665.out] at ho13))
     have n0_ := rl ho13 HB
     have n1_ := bb BK660 hb
     have n2_ := bs HB hb
     have z_HO664 := fun (h0_ : b 6 = true) => (show Kd.R (Kd.int .u8) 5 w12 w.heap.size (fun _ => True) v663 y662 from by first | exact (Kd.R_below (by (with_reducible repeat (first | apply Kd.R_alloc | apply Kd.R_drewN | apply Kd.R_drew)); exact (Q_HO664 h0_)) hb) | exact Kd.R_mono (Kd.R_below (by (with_reducible repeat (first | apply Kd.R_alloc | apply Kd.R_drewN | apply Kd.R_drew)); exact (Q_HO664 h0_)) hb) (fun _ h_ => by first | trivial | exact h_ | exact h_.1))
     clear BK660 HB
     have HO667 := n0_
     have BK660 := n1_
     have HB := n2_
     clear n0_ n1_ n2_ hb ho13
     refine hK.out _ _ ⟨v663, v666, v669, v673, m14_, m15_, m16_, m18_, (by rw [ha.out]; exact putSel_upk 6 hb_ rfl rfl rfl), (be BK660).out, (bse HB), z_HO664, fun _ => (by (with_reducible repeat (first | apply Kd.R_alloc | apply Kd.R_drewN | apply Kd.R_drew)); first | exact HO667.out | exact Kd.R_mono HO667.out (fun _ _ => trivial)), fun h0_ => absurd ((hoff 10 (by kernel_rfl)).symm.trans h0_) (by decide), fun h0_ => absurd ((hoff 14 (by kernel_rfl)).symm.trans h0_) (by decide), fun h0_ => absurd ((hoff 14 (by kernel_rfl)).symm.trans h0_) (by decide), fun h0_ => absurd ((hoff 15 (by kernel_rfl)).symm.trans h0_) (by decide), fun h0_ => absurd ((hoff 16 (by kernel_rfl)).symm.trans h0_) (by decide), fun h0_ => absurd ((hoff 18 (by kernel_rfl)).symm.trans h0_) (by decide)⟩
    refine steps_cons ?_ ?_
    ·rintro b a w' ⟨v663, v666, v669, v673, m14_, m15_, m16_, m18_, ha, Q_BK660, Q_HB, Q_HO664, Q_HO667, Q_HO670, Q_HO674, Q_X14_, Q_X15_, Q_X16_, Q_X18_⟩ hb_ hon hoff
     refine ⟨_, rfl, fun K hK => ?_⟩
     have e19 : a.tmps[19]? = some (v663) := by rw [ha]; exact putSel_on (e := (6, 19, v663)) 4 rfl rfl (hon 6 (by kernel_rfl)) rfl
     have e22 : a.tmps[22]? = some (v666) := by rw [ha]; exact putSel_on (e := (9, 22, v666)) 6 rfl rfl (hon 9 (by kernel_rfl)) rfl
     replace ha := asd ha
     have BK660 := asd Q_BK660
     have HB := asd Q_HB
     have HO664 := asd (Q_HO664 (hon 6 (by kernel_rfl)))
     have HO667 := asd (Q_HO667 (hon 9 (by kernel_rfl)))
     obtain ⟨Ao17, co17, eo17⟩ := Kd.R_slice HO664.out
     (first | subst eo17 | (injection eo17 with f1_ f2_ f3_; have f4_ := f1_.symm; have f5_ := f3_.symm; clear f1_ f2_ f3_; subst f4_; subst f5_))
     obtain ⟨Ao18, co18, eo18⟩ := Kd.R_slice HO667.out
     (first | subst eo18 | (injection eo18 with f1_ f2_ f3_; have f4_ := f1_.symm; have f5_ := f3_.symm; clear f1_ f2_ f3_; subst f4_; subst f5_))
     refine goes_ Tryz.func50 (by kernel_rfl) rfl #[.slice Ao17 y662.length co17, .slice Ao18 y665.length co18] (by rfl) rfl rfl (by first | (simp only [List.map_toArray, List.map_cons, List.map_nil, Act.eval, Array.getD_eq_getD_getElem?, Option.getD_some, e19, e22]; done) | (simp only [List.map_toArray, List.map_cons, List.map_nil, Act.eval, Array.getD_eq_getD_getElem?, Option.getD_some, e19, e22]; rfl)) ?_
     with_reducible refine (wire_Vary.calls k _ _ y662 _ _ y665 t668 _ ?side1 ?side2 ?side3 ?side4 A4.out).mono ?_
     (case side1 => exact cr (Kd.R_reads' HO664.out).2.2)
     (case side2 => exact (Kd.R_reads' HO664.out).2.1)
     (case side3 => exact cr (Kd.R_reads' HO667.out).2.2)
     (case side4 => exact (Kd.R_reads' HO667.out).2.1)
     rintro e w19 ⟨v669, rfl, ho0, hb⟩
     refine ⟨_, rfl, ?_⟩
     have HO670 := asd (Kd.R_lower (Kd.R_new' ho0 (Kd.R_lt (by (with_reducible repeat (first | apply Kd.R_alloc | apply Kd.R_drewN | apply Kd.R_drew)); first | exact HO664.out | exact Kd.R_mono HO664.out (fun _ _ => trivial)))) (below_size (bse HB)))
     replace HO664 := asd (Kd.R_elder' (by (with_reducible repeat (first | apply Kd.R_alloc | apply Kd.R_drewN | apply Kd.R_drew)); first | exact HO664.out | exact Kd.R_mono HO664.out (fun _ _ => trivial)) (Kd.R_base ho0) hb)
     replace HO667 := asd (Kd.R_below (by (with_reducible repeat (first | apply Kd.R_alloc | apply Kd.R_drewN | apply Kd.R_drew)); first | exact HO667.out | exact Kd.R_mono HO667.out (fun _ _ => trivial)) hb)
     replace BK660 := bb BK660 hb
     replace HB := bs HB hb
     (try clear hb)
     (try clear hb2)
     (try clear hk)
     (try clear hi)
     (try clear ho0)
     refine hK.out _ _ ⟨.slice Ao17 y662.length co17, .slice Ao18 y665.length co18, v669, v673, m14_, m15_, m16_, m18_, (by rw [ha.out]; exact putSel_upk 7 hb_ rfl rfl rfl), (be BK660).out, (bse HB), fun _ => (by (with_reducible repeat (first | apply Kd.R_alloc | apply Kd.R_drewN | apply Kd.R_drew)); exact Kd.R_mono HO664.out (fun _ hk => by first | exact hk.2 | trivial)), fun _ => (by (with_reducible repeat (first | apply Kd.R_alloc | apply Kd.R_drewN | apply Kd.R_drew)); first | exact HO667.out | exact Kd.R_mono HO667.out (fun _ _ => trivial)), fun _ => (by (with_reducible repeat (first | apply Kd.R_alloc | apply Kd.R_drewN | apply Kd.R_drew)); exact Kd.R_mono HO670.out (fun _ hk => by first | exact hk.2 | trivial)), fun h0_ => absurd ((hoff 14 (by kernel_rfl)).symm.trans h0_) (by decide), fun h0_ => absurd ((hoff 14 (by kernel_rfl)).symm.trans h0_) (by decide), fun h0_ => absurd ((hoff 15 (by kernel_rfl)).symm.trans h0_) (by decide), fun h0_ => absurd ((hoff 16 (by kernel_rfl)).symm.trans h0_) (by decide), fun h0_ => absurd ((hoff 18 (by kernel_rfl)).symm.trans h0_) (by decide)⟩
    refine steps_cons ?_ ?_
    ·rintro b a w' ⟨v663, v666, v669, v673, m14_, m15_, m16_, m18_, ha, Q_BK660, Q_HB, Q_HO664, Q_HO667, Q_HO670, Q_HO674, Q_X14_, Q_X15_, Q_X16_, Q_X18_⟩ hb_ hon hoff
     refine ⟨_, rfl, fun K hK => ?_⟩
     have e24 : a.tmps[24]? = some (.pointer (some ⟨gb660, 3, none⟩)) := by rw [ha]; exact (putSel_off rfl).trans rfl
     replace ha := asd ha
     have BK660 := asd Q_BK660
     have HB := asd Q_HB
     have hc0_ : w'.cell? ⟨gb660, 0, none⟩ = some (.int .i64 a0_0) := (blk_cell BK660.out 0).trans rfl
     have hc1_ : w'.cell? ⟨gb660, 1, none⟩ = some (.int .i64 a0_1) := (blk_cell BK660.out 1).trans rfl
     have hc2_ : w'.cell? ⟨gb660, 2, none⟩ = some (.int .u64 a0_2) := (blk_cell BK660.out 2).trans rfl
     have hc3_ : w'.cell? ⟨gb660, 3, none⟩ = some (.int .u16 a0_3) := (blk_cell BK660.out 3).trans rfl
     refine value_ (w1 := w') (v := .int .u16 a0_3) (by rfl) rfl ?_ ?_
     ·go_simp
      (try simp only [i64_w])
      try rfl
     refine hK.out _ _ ⟨v663, v666, v669, v673, m14_, m15_, m16_, m18_, (by rw [ha.out]; exact putSel_upk 8 hb_ rfl rfl rfl), Q_BK660, Q_HB, Q_HO664, Q_HO667, Q_HO670, fun h0_ => absurd ((hoff 14 (by kernel_rfl)).symm.trans h0_) (by decide), fun h0_ => absurd ((hoff 14 (by kernel_rfl)).symm.trans h0_) (by decide), fun h0_ => absurd ((hoff 15 (by kernel_rfl)).symm.trans h0_) (by decide), fun h0_ => absurd ((hoff 16 (by kernel_rfl)).symm.trans h0_) (by decide), fun h0_ => absurd ((hoff 18 (by kernel_rfl)).symm.trans h0_) (by decide)⟩
    refine steps_cons ?_ ?_
    ·rintro b a w' ⟨v663, v666, v669, v673, m14_, m15_, m16_, m18_, ha, Q_BK660, Q_HB, Q_HO664, Q_HO667, Q_HO670, Q_HO674, Q_X14_, Q_X15_, Q_X16_, Q_X18_⟩ hb_ hon hoff
     refine ⟨_, rfl, fun K hK => ?_⟩
     have e25 : a.tmps[25]? = some (.int .u16 a0_3) := by rw [ha]; exact putSel_on (e := (12, 25, .int .u16 a0_3)) 8 rfl rfl (hon 12 (by kernel_rfl)) rfl
     replace ha := asd ha
     have BK660 := asd Q_BK660
     have HB := asd Q_HB
     refine value_ (w1 := w') (v := .int .u64 (IntKind.u64.wrap (a0_3))) (by rfl) rfl ?_ ?_
     ·go_simp
      (try simp only [i64_w])
      try rfl
     refine hK.out _ _ ⟨v663, v666, v669, v673, m14_, m15_, m16_, m18_, (by rw [ha.out]; exact putSel_upk 9 hb_ rfl rfl rfl), Q_BK660, Q_HB, Q_HO664, Q_HO667, Q_HO670, fun h0_ => absurd ((hoff 14 (by kernel_rfl)).symm.trans h0_) (by decide), fun h0_ => absurd ((hoff 14 (by kernel_rfl)).symm.trans h0_) (by decide), fun h0_ => absurd ((hoff 15 (by kernel_rfl)).symm.trans h0_) (by decide), fun h0_ => absurd ((hoff 16 (by kernel_rfl)).symm.trans h0_) (by decide), fun h0_ => absurd ((hoff 18 (by kernel_rfl)).symm.trans h0_) (by decide)⟩
    refine steps_cons ?_ ?_
    ·rintro b a w' ⟨v663, v666, v669, v673, m14_, m15_, m16_, m18_, ha, Q_BK660, Q_HB, Q_HO664, Q_HO667, Q_HO670, Q_HO674, Q_X14_, Q_X15_, Q_X16_, Q_X18_⟩ hb_ hon hoff
     refine ⟨_, rfl, fun K hK => ?_⟩
     have e23 : a.tmps[23]? = some (v669) := by rw [ha]; exact putSel_on (e := (10, 23, v669)) 7 rfl rfl (hon 10 (by kernel_rfl)) rfl
     have e26 : a.tmps[26]? = some (.int .u64 (IntKind.u64.wrap (a0_3))) := by rw [ha]; exact putSel_on (e := (13, 26, .int .u64 (IntKind.u64.wrap (a0_3)))) 9 rfl rfl (hon 13 (by kernel_rfl)) rfl
     replace ha := asd ha
     have BK660 := asd Q_BK660
     have HB := asd Q_HB
     have HO664 := asd (Q_HO664 (hon 6 (by kernel_rfl)))
     have HO667 := asd (Q_HO667 (hon 9 (by kernel_rfl)))
     have HO670 := asd (Q_HO670 (hon 10 (by kernel_rfl)))
     obtain ⟨Ao20, co20, eo20⟩ := Kd.R_slice HO670.out
     (first | subst eo20 | (injection eo20 with f1_ f2_ f3_; have f4_ := f1_.symm; have f5_ := f3_.symm; clear f1_ f2_ f3_; subst f4_; subst f5_))
     refine goes_ Tryz.func49 (by kernel_rfl) rfl #[.slice Ao20 t668.length co20, .int .i64 2, .int .u64 (IntKind.u64.wrap (a0_3))] (by rfl) rfl rfl (by first | (simp only [List.map_toArray, List.map_cons, List.map_nil, Act.eval, Array.getD_eq_getD_getElem?, Option.getD_some, e23, e26]; done) | (simp only [List.map_toArray, List.map_cons, List.map_nil, Act.eval, Array.getD_eq_getD_getElem?, Option.getD_some, e23, e26]; rfl)) ?_
     with_reducible refine (wire_Fixed.calls k _ _ t668 2 (IntKind.u64.wrap (a0_3)) t671 t672 _ ?side1 ?side2 A5.out).mono ?_
     (case side1 => exact cr (Kd.R_reads' HO670.out).2.2)
     (case side2 => exact (Kd.R_reads' HO670.out).2.1)
     rintro e w21 ⟨v673, rfl, ho0, hb⟩
     refine ⟨_, rfl, ?_⟩
     have HO674 := asd (Kd.R_lower (Kd.R_new' (Kd.R_new' ho0 (Kd.R_lt (by (with_reducible repeat (first | apply Kd.R_alloc | apply Kd.R_drewN | apply Kd.R_drew)); first | exact HO664.out | exact Kd.R_mono HO664.out (fun _ _ => trivial)))) (Kd.R_lt (by (with_reducible repeat (first | apply Kd.R_alloc | apply Kd.R_drewN | apply Kd.R_drew)); first | exact HO670.out | exact Kd.R_mono HO670.out (fun _ _ => trivial)))) (below_size (bse HB)))
     replace HO664 := asd (Kd.R_elder' (by (with_reducible repeat (first | apply Kd.R_alloc | apply Kd.R_drewN | apply Kd.R_drew)); first | exact HO664.out | exact Kd.R_mono HO664.out (fun _ _ => trivial)) (Kd.R_base ho0) hb)
     replace HO667 := asd (Kd.R_below (by (with_reducible repeat (first | apply Kd.R_alloc | apply Kd.R_drewN | apply Kd.R_drew)); first | exact HO667.out | exact Kd.R_mono HO667.out (fun _ _ => trivial)) hb)
     replace HO670 := asd (Kd.R_elder' (by (with_reducible repeat (first | apply Kd.R_alloc | apply Kd.R_drewN | apply Kd.R_drew)); first | exact HO670.out | exact Kd.R_mono HO670.out (fun _ _ => trivial)) (Kd.R_base ho0) hb)
     replace BK660 := bb BK660 hb
     replace HB := bs HB hb
     (try clear hb)
     (try clear hb2)
     (try clear hk)
     (try clear hi)
     (try clear ho0)
     refine hK.out _ _ ⟨v663, v666, .slice Ao20 t668.length co20, v673, (.tuple #[v673, .int .i64 t672]), m15_, m16_, m18_, (by rw [ha.out]; exact putSel_upk 10 hb_ rfl rfl rfl), (be BK660).out, (bse HB), fun _ => (by (with_reducible repeat (first | apply Kd.R_alloc | apply Kd.R_drewN | apply Kd.R_drew)); first | exact HO664.out | exact Kd.R_mono HO664.out (fun _ _ => trivial)), fun _ => (by (with_reducible repeat (first | apply Kd.R_alloc | apply Kd.R_drewN | apply Kd.R_drew)); first | exact HO667.out | exact Kd.R_mono HO667.out (fun _ _ => trivial)), fun _ => (by (with_reducible repeat (first | apply Kd.R_alloc | apply Kd.R_drewN | apply Kd.R_drew)); first | exact HO670.out | exact Kd.R_mono HO670.out (fun _ _ => trivial)), fun _ => (by (with_reducible repeat (first | apply Kd.R_alloc | apply Kd.R_drewN | apply Kd.R_drew)); exact Kd.R_mono HO674.out (fun _ hk => by first | exact ⟨hk.1.2, hk.2⟩ | exact ⟨trivial, hk.2⟩ | exact hk.2 | exact hk.1 | trivial)), fun _ => rfl, fun h0_ => absurd ((hoff 15 (by kernel_rfl)).symm.trans h0_) (by decide), fun h0_ => absurd ((hoff 16 (by kernel_rfl)).symm.trans h0_) (by decide), fun h0_ => absurd ((hoff 18 (by kernel_rfl)).symm.trans h0_) (by decide)⟩
    refine steps_cons ?_ ?_
    ·rintro b a w' ⟨v663, v666, v669, v673, m14_, m15_, m16_, m18_, ha, Q_BK660, Q_HB, Q_HO664, Q_HO667, Q_HO670, Q_HO674, Q_X14_, Q_X15_, Q_X16_, Q_X18_⟩ hb_ hon hoff
     refine ⟨_, rfl, fun K hK => ?_⟩
     have e27 : a.tmps[27]? = some (m14_) := by rw [ha]; exact putSel_on (e := (14, 27, m14_)) 10 rfl rfl (hon 14 (by kernel_rfl)) rfl
     rw [Q_X14_ (hon 14 (by kernel_rfl))] at e27
     replace ha := asd ha
     have BK660 := asd Q_BK660
     have HB := asd Q_HB
     have HO664 := asd (Q_HO664 (hon 6 (by kernel_rfl)))
     have HO667 := asd (Q_HO667 (hon 9 (by kernel_rfl)))
     have HO670 := asd (Q_HO670 (hon 10 (by kernel_rfl)))
     have HO674 := asd (Q_HO674 (hon 14 (by kernel_rfl)))
     refine value_ (w1 := w') (v := .tuple #[v673, .int .i64 t672]) (by rfl) rfl ?_ ?_
     ·go_simp
      (try simp only [i64_w])
      try rfl
     refine hK.out _ _ ⟨v663, v666, v669, v673, m14_, (.tuple #[v673, .int .i64 t672]), m16_, m18_, (by rw [ha.out]; exact putSel_upk 11 hb_ rfl rfl rfl), Q_BK660, Q_HB, Q_HO664, Q_HO667, Q_HO670, Q_HO674, Q_X14_, fun _ => rfl, fun h0_ => absurd ((hoff 16 (by kernel_rfl)).symm.trans h0_) (by decide), fun h0_ => absurd ((hoff 18 (by kernel_rfl)).symm.trans h0_) (by decide)⟩
    refine steps_cons ?_ ?_
    ·rintro b a w' ⟨v663, v666, v669, v673, m14_, m15_, m16_, m18_, ha, Q_BK660, Q_HB, Q_HO664, Q_HO667, Q_HO670, Q_HO674, Q_X14_, Q_X15_, Q_X16_, Q_X18_⟩ hb_ hon hoff
     refine ⟨_, rfl, fun K hK => ?_⟩
     have e12 : a.tmps[12]? = some (m15_) := by rw [ha]; exact putSel_on (e := (15, 12, m15_)) 11 rfl rfl (hon 15 (by kernel_rfl)) rfl
     rw [Q_X15_ (hon 15 (by kernel_rfl))] at e12
     replace ha := asd ha
     have BK660 := asd Q_BK660
     have HB := asd Q_HB
     have HO664 := asd (Q_HO664 (hon 6 (by kernel_rfl)))
     have HO667 := asd (Q_HO667 (hon 9 (by kernel_rfl)))
     have HO670 := asd (Q_HO670 (hon 10 (by kernel_rfl)))
     have HO674 := asd (Q_HO674 (hon 14 (by kernel_rfl)))
     obtain ⟨Ao16_0, co16_0, eo_⟩ := Kd.R_slice HO674.out
     subst eo_
     refine value_ (w1 := w') (v := .slice Ao16_0 t671.length co16_0) (by rfl) rfl ?_ ?_
     ·go_simp
      (try simp only [i64_w])
      try rfl
     refine hK.out _ _ ⟨v663, v666, v669, .slice Ao16_0 t671.length co16_0, m14_, m15_, (.slice Ao16_0 t671.length co16_0), m18_, (by rw [ha.out]; exact putSel_upk 12 hb_ rfl rfl rfl), Q_BK660, Q_HB, Q_HO664, Q_HO667, Q_HO670, Q_HO674, Q_X14_, Q_X15_, fun _ => rfl, fun h0_ => absurd ((hoff 18 (by kernel_rfl)).symm.trans h0_) (by decide)⟩
    refine steps_cons ?_ ?_
    ·rintro b a w' ⟨v663, v666, v669, v673, m14_, m15_, m16_, m18_, ha, Q_BK660, Q_HB, Q_HO664, Q_HO667, Q_HO670, Q_HO674, Q_X14_, Q_X15_, Q_X16_, Q_X18_⟩ hb_ hon hoff
     refine ⟨_, rfl, fun K hK => ?_⟩
     have e12 : a.tmps[12]? = some (m15_) := by rw [ha]; exact putSel_on (e := (15, 12, m15_)) 11 rfl rfl (hon 15 (by kernel_rfl)) rfl
     rw [Q_X15_ (hon 15 (by kernel_rfl))] at e12
     replace ha := asd ha
     have BK660 := asd Q_BK660
     have HB := asd Q_HB
     have HO664 := asd (Q_HO664 (hon 6 (by kernel_rfl)))
     have HO667 := asd (Q_HO667 (hon 9 (by kernel_rfl)))
     have HO670 := asd (Q_HO670 (hon 10 (by kernel_rfl)))
     have HO674 := asd (Q_HO674 (hon 14 (by kernel_rfl)))
     obtain ⟨Ao17_0, co17_0, eo_⟩ := Kd.R_slice HO674.out
     subst eo_
     refine value_ (w1 := w') (v := .int .i64 t672) (by rfl) rfl ?_ ?_
     ·go_simp
      (try simp only [i64_w])
      try rfl
     refine hK.out _ _ ⟨v663, v666, v669, .slice Ao17_0 t671.length co17_0, m14_, m15_, m16_, m18_, (by rw [ha.out]; exact putSel_upk 13 hb_ rfl rfl rfl), Q_BK660, Q_HB, Q_HO664, Q_HO667, Q_HO670, Q_HO674, Q_X14_, Q_X15_, Q_X16_, Q_X18_⟩
    refine steps_cons ?_ ?_
    ·rintro b a w' ⟨v663, v666, v669, v673, m14_, m15_, m16_, m18_, ha, Q_BK660, Q_HB, Q_HO664, Q_HO667, Q_HO670, Q_HO674, Q_X14_, Q_X15_, Q_X16_, Q_X18_⟩ hb_ hon hoff
     refine ⟨_, rfl, fun K hK => ?_⟩
     have e28 : a.tmps[28]? = some (m16_) := by rw [ha]; exact putSel_on (e := (16, 28, m16_)) 12 rfl rfl (hon 16 (by kernel_rfl)) rfl
     rw [Q_X16_ (hon 16 (by kernel_rfl))] at e28
     replace ha := asd ha
     have BK660 := asd Q_BK660
     have HB := asd Q_HB
     have HO664 := asd (Q_HO664 (hon 6 (by kernel_rfl)))
     have HO667 := asd (Q_HO667 (hon 9 (by kernel_rfl)))
     have HO670 := asd (Q_HO670 (hon 10 (by kernel_rfl)))
     have HO674 := asd (Q_HO674 (hon 14 (by kernel_rfl)))
     refine value_ (w1 := w') (v := v673) (by rfl) rfl ?_ ?_
     ·go_simp
      (try simp only [i64_w])
      try rfl
     refine hK.out _ _ ⟨v663, v666, v669, v673, m14_, m15_, m16_, (v673), (by rw [ha.out]; exact putSel_upk 14 hb_ rfl rfl rfl), Q_BK660, Q_HB, Q_HO664, Q_HO667, Q_HO670, Q_HO674, Q_X14_, Q_X15_, Q_X16_, fun _ => rfl⟩
    refine steps_cons ?_ ?_
    ·rintro b a w' ⟨v663, v666, v669, v673, m14_, m15_, m16_, m18_, ha, Q_BK660, Q_HB, Q_HO664, Q_HO667, Q_HO670, Q_HO674, Q_X14_, Q_X15_, Q_X16_, Q_X18_⟩ hb_ hon hoff
     refine ⟨_, rfl, fun K hK => ?_⟩
     have e29 : a.tmps[29]? = some (.int .i64 t672) := by rw [ha]; exact putSel_on (e := (17, 29, .int .i64 t672)) 13 rfl rfl (hon 17 (by kernel_rfl)) rfl
     replace ha := asd ha
     have BK660 := asd Q_BK660
     have HB := asd Q_HB
     have HO664 := asd (Q_HO664 (hon 6 (by kernel_rfl)))
     have HO667 := asd (Q_HO667 (hon 9 (by kernel_rfl)))
     have HO670 := asd (Q_HO670 (hon 10 (by kernel_rfl)))
     have HO674 := asd (Q_HO674 (hon 14 (by kernel_rfl)))
     refine value_ (w1 := w') (v := .int .i64 t672) (by rfl) rfl ?_ ?_
     ·go_simp
      (try simp only [i64_w])
      try rfl
     refine hK.out _ _ ⟨v663, v666, v669, v673, m14_, m15_, m16_, m18_, (by rw [ha.out]; exact putSel_upk 15 hb_ rfl rfl rfl), Q_BK660, Q_HB, Q_HO664, Q_HO667, Q_HO670, Q_HO674, Q_X14_, Q_X15_, Q_X16_, Q_X18_⟩
    exact steps_nil
   rintro b a w21 hall ⟨v663, v666, v669, v673, m14_, m15_, m16_, m18_, ha, Q_BK660, Q_HB, Q_HO664, Q_HO667, Q_HO670, Q_HO674, Q_X14_, Q_X15_, Q_X16_, Q_X18_⟩
   clear BK660 HB
   have hb1_ := hall 1 (by kernel_rfl)
   have hb2_ := hall 2 (by kernel_rfl)
   have hb4_ := hall 4 (by kernel_rfl)
   have hb5_ := hall 5 (by kernel_rfl)
   have hb6_ := hall 6 (by kernel_rfl)
   have hb8_ := hall 8 (by kernel_rfl)
   have hb9_ := hall 9 (by kernel_rfl)
   have hb10_ := hall 10 (by kernel_rfl)
   have hb12_ := hall 12 (by kernel_rfl)
   have hb13_ := hall 13 (by kernel_rfl)
   have hb14_ := hall 14 (by kernel_rfl)
   have hb15_ := hall 15 (by kernel_rfl)
   have hb16_ := hall 16 (by kernel_rfl)
   have hb17_ := hall 17 (by kernel_rfl)
   have hb18_ := hall 18 (by kernel_rfl)
   have hb19_ := hall 19 (by kernel_rfl)
   subst ha
   obtain rfl := Q_X14_ hb14_
   obtain rfl := Q_X15_ hb15_
   obtain rfl := Q_X16_ hb16_
   obtain rfl := Q_X18_ hb18_
   simp only [putSel, hb1_, hb2_, hb4_, hb5_, hb6_, hb8_, hb9_, hb10_, hb12_, hb13_, hb14_, hb15_, hb16_, hb17_, hb18_, hb19_, if_true, Act.put, List.setIfInBounds_toArray, List.set_cons_zero, List.set_cons_succ]
   have BK660 := asd Q_BK660
   clear Q_BK660
   have HB := asd Q_HB
   clear Q_HB
   have HO664 := asd (Q_HO664 hb6_)
   clear Q_HO664
   have HO667 := asd (Q_HO667 hb9_)
   clear Q_HO667
   have HO670 := asd (Q_HO670 hb10_)
   clear Q_HO670
   have HO674 := asd (Q_HO674 hb14_)
   clear Q_HO674
   clear hall hb1_ hb2_ hb4_ hb5_ hb6_ hb8_ hb9_ hb10_ hb12_ hb13_ hb14_ hb15_ hb16_ hb17_ hb18_ hb19_
   obtain ⟨Ao22, co22, eo22⟩ := Kd.R_slice HO674.out
   subst eo22
   try go_wp2_with (first | ((with_reducible refine gate_callee (f := 51) rfl ?_); refine gL (some 34) Tryz.func51 #[.slice Ao22 t671.length co22] ?_; (with_reducible refine (crc_Seal24.calls _ _ t671 t675 t676 _ ?side1 ?side2 A7.out).mono ?_); (case side1 => exact cr (Kd.R_reads' HO674.out).2.2); (case side2 => exact (Kd.R_reads' HO674.out).2.1); rintro e w23 ⟨v677, rfl, ho0, hb⟩; refine ⟨_, rfl, ?_⟩; have HO678 := asd (Kd.R_lower (Kd.R_new' (Kd.R_new' (Kd.R_new' ho0 (Kd.R_lt (by (with_reducible repeat (first | apply Kd.R_alloc | apply Kd.R_drewN | apply Kd.R_drew)); first | exact HO664.out | exact Kd.R_mono HO664.out (fun _ _ => trivial)))) (Kd.R_lt (by (with_reducible repeat (first | apply Kd.R_alloc | apply Kd.R_drewN | apply Kd.R_drew)); first | exact HO670.out | exact Kd.R_mono HO670.out (fun _ _ => trivial)))) (Kd.R_lt (by (with_reducible repeat (first | apply Kd.R_alloc | apply Kd.R_drewN | apply Kd.R_drew)); first | exact HO674.out | exact Kd.R_mono HO674.out (fun _ _ => trivial)))) (below_size (bse HB))); replace HO664 := asd (Kd.R_elder' (by (with_reducible repeat (first | apply Kd.R_alloc | apply Kd.R_drewN | apply Kd.R_drew)); first | exact HO664.out | exact Kd.R_mono HO664.out (fun _ _ => trivial)) (Kd.R_base ho0) hb); replace HO667 := asd (Kd.R_below (by (with_reducible repeat (first | apply Kd.R_alloc | apply Kd.R_drewN | apply Kd.R_drew)); first | exact HO667.out | exact Kd.R_mono HO667.out (fun _ _ => trivial)) hb); replace HO670 := asd (Kd.R_elder' (by (with_reducible repeat (first | apply Kd.R_alloc | apply Kd.R_drewN | apply Kd.R_drew)); first | exact HO670.out | exact Kd.R_mono HO670.out (fun _ _ => trivial)) (Kd.R_base ho0) hb); replace HO674 := asd (Kd.R_elder' (by (with_reducible repeat (first | apply Kd.R_alloc | apply Kd.R_drewN | apply Kd.R_drew)); first | exact HO674.out | exact Kd.R_mono HO674.out (fun _ _ => trivial)) (Kd.R_base ho0) hb); replace BK660 := bb BK660 hb; replace HB := bs HB hb; (try clear hb); (try clear ho0)))
   go_ret2
   exact ⟨_, by first | rfl | (simp [errW_none, errW_some] <;> rfl) | (simp [*, errW_none, errW_some] <;> rfl), by (with_reducible repeat (first | apply Kd.R_alloc | apply Kd.R_drewN | apply Kd.R_drew)); exact Kd.R_mono HO678.out (fun _ hk => trivial), bse HB⟩
  ·rw [if_neg c6] at H
   have c6b0 : (t672 == 0) = false := beq_eq_false_iff_ne.mpr c6
   have c6b1 : (t672 != 0) = true := bne_iff_ne.mpr c6
   simp only [Option.some.injEq, Prod.mk.injEq] at H
   obtain ⟨rfl, rfl⟩ := H
   go_enter Tryz.func14, Tryz.ntmps14
   try go_wp2_with (first | ((with_reducible refine gate_dst (N := 1) rfl ?_); refine bx (N := 1) (cs := #[.int .i64 a0_0, .int .i64 a0_1, .int .u64 a0_2, .int .u16 a0_3]) (t := 43) ?_; intro gb660 hg w24 hbox hb; have BK660 := asd (hbox); have GW660 := bz HB hg; have GE660 := bz HB hg; replace HB := bs HB hb; clear hb hbox hg; have hcz25 := cf4 BK660) | ((with_reducible refine gate_callee (f := 48) rfl ?_); refine gL (some 8) Tryz.func48 #[.agg #[.int .i64 a0_0, .int .i64 a0_1, .int .u64 a0_2, .int .u16 a0_3]] ?_; (with_reducible refine (frame_Check.calls k a0_0 a0_1 a0_2 a0_3 t661 _ A2.out).mono ?_); rintro e w26 ⟨rfl, hb⟩; refine ⟨_, rfl, ?_⟩; replace BK660 := bb BK660 hb; replace HB := bs HB hb; (try clear hb)))
   replace BK660 := asd (blk_drew BK660.out)
   replace HB := asd (below_drew1 HB.out)
   refine start_ (n := 20) (S := fun w' => True) (ds := []) (fb 20 0) (by kernel_rfl) rfl rfl trivial (fun hHeld => ?_); refine with_tabW frame_Write.tab4 frame_Write.bits4 (fun HT_ HW_ => ?_)
   generalize w26.drew = w27 at BK660 HB hHeld ⊢
   refine pz (i := 0) (N := some 13) (fb 20 1) ?_ (hc := any_of HT_.out (by kernel_rfl))
   refine pz (i := 3) (N := some 16) (fb 20 9) ?_ (hc := any_of HT_.out (by kernel_rfl))
   refine pz (i := 7) (N := some 20) (fb 20 137) ?_ (hc := any_of HT_.out (by kernel_rfl))
   refine pz (i := 11) (N := some 24) (fb 20 2185) ?_ (hc := any_of HT_.out (by kernel_rfl))
   refine inv_at [1, 2, 4, 5, 6, 8, 9, 10, 12, 13, 14, 15, 16, 17, 18, 19] (fun a0_ b a w' => ∃ (v663 : Value) (v666 : Value) (v669 : Value) (v673 : Value) (m14_ : Value) (m15_ : Value) (m16_ : Value) (m18_ : Value), a = putSel a0_ b [(1, 14, .int .i64 a0_0), (2, 15, .int .u8 ((a0_0) % 256)), (4, 17, .int .i64 a0_1), (5, 18, .int .u8 ((a0_1) % 256)), (6, 19, v663), (8, 21, .int .u64 a0_2), (9, 22, v666), (10, 23, v669), (12, 25, .int .u16 a0_3), (13, 26, .int .u64 (IntKind.u64.wrap (a0_3))), (14, 27, m14_), (15, 12, m15_), (16, 28, m16_), (17, 29, .int .i64 t672), (18, 5, m18_), (19, 6, .int .i64 t672)] ∧ (w'.heap[gb660]? = some (.cells #[.int .i64 a0_0, .int .i64 a0_1, .int .u64 a0_2, .int .u16 a0_3] 43 (0, 0))) ∧ (Below w.heap.size w w') ∧ (b 6 = true → Kd.R (Kd.int .u8) 5 w' w.heap.size (fun _ => True) v663 y662) ∧ (b 9 = true → Kd.R (Kd.int .u64) 24 w' w.heap.size (fun _ => True) v666 y665) ∧ (b 10 = true → Kd.R (Kd.int .u8) 5 w' w.heap.size (fun _ => True) v669 t668) ∧ (b 14 = true → Kd.R (Kd.int .u8) 5 w' w.heap.size (fun _ => True) v673 t671) ∧ (b 14 = true → (m14_ : Value) = .tuple #[v673, .int .i64 t672]) ∧ (b 15 = true → (m15_ : Value) = .tuple #[v673, .int .i64 t672]) ∧ (b 16 = true → (m16_ : Value) = v673) ∧ (b 18 = true → (m18_ : Value) = v673)) HT_.out HW_.out (by kernel_rfl) (by kernel_rfl) ?_ ?_ ?_
   ·exact ⟨.bool false, .bool false, .bool false, .bool false, .bool false, .bool false, .bool false, .bool false, by simp only [putSel, Bool.false_eq_true, if_false], BK660.out, HB.out, fun h_ => absurd h_ (by decide), fun h_ => absurd h_ (by decide), fun h_ => absurd h_ (by decide), fun h_ => absurd h_ (by decide), fun h_ => absurd h_ (by decide), fun h_ => absurd h_ (by decide), fun h_ => absurd h_ (by decide), fun h_ => absurd h_ (by decide)⟩
   ·skip
    clear BK660 HB
    refine steps_cons ?_ ?_
    ·rintro b a w' ⟨v663, v666, v669, v673, m14_, m15_, m16_, m18_, ha, Q_BK660, Q_HB, Q_HO664, Q_HO667, Q_HO670, Q_HO674, Q_X14_, Q_X15_, Q_X16_, Q_X18_⟩ hb_ hon hoff
     refine ⟨_, rfl, fun K hK => ?_⟩
     have e13 : a.tmps[13]? = some (.pointer (some ⟨gb660, 0, none⟩)) := by rw [ha]; exact (putSel_off rfl).trans rfl
     replace ha := asd ha
     have BK660 := asd Q_BK660
     have HB := asd Q_HB
     have hc0_ : w'.cell? ⟨gb660, 0, none⟩ = some (.int .i64 a0_0) := (blk_cell BK660.out 0).trans rfl
     have hc1_ : w'.cell? ⟨gb660, 1, none⟩ = some (.int .i64 a0_1) := (blk_cell BK660.out 1).trans rfl
     have hc2_ : w'.cell? ⟨gb660, 2, none⟩ = some (.int .u64 a0_2) := (blk_cell BK660.out 2).trans rfl
     have hc3_ : w'.cell? ⟨gb660, 3, none⟩ = some (.int .u16 a0_3) := (blk_cell BK660.out 3).trans rfl
     refine value_ (w1 := w') (v := .int .i64 a0_0) (by rfl) rfl ?_ ?_
     ·go_simp
      (try simp only [i64_w])
      try rfl
     refine hK.out _ _ ⟨v663, v666, v669, v673, m14_, m15_, m16_, m18_, (by rw [ha.out]; exact putSel_upk 0 hb_ rfl rfl rfl), Q_BK660, Q_HB, fun h0_ => absurd ((hoff 6 (by kernel_rfl)).symm.trans h0_) (by decide), Q_HO667, fun h0_ => absurd ((hoff 10 (by kernel_rfl)).symm.trans h0_) (by decide), fun h0_ => absurd ((hoff 14 (by kernel_rfl)).symm.trans h0_) (by decide), fun h0_ => absurd ((hoff 14 (by kernel_rfl)).symm.trans h0_) (by decide), fun h0_ => absurd ((hoff 15 (by kernel_rfl)).symm.trans h0_) (by decide), fun h0_ => absurd ((hoff 16 (by kernel_rfl)).symm.trans h0_) (by decide), fun h0_ => absurd ((hoff 18 (by kernel_rfl)).symm.trans h0_) (by decide)⟩
    refine steps_cons ?_ ?_
    ·rintro b a w' ⟨v663, v666, v669, v673, m14_, m15_, m16_, m18_, ha, Q_BK660, Q_HB, Q_HO664, Q_HO667, Q_HO670, Q_HO674, Q_X14_, Q_X15_, Q_X16_, Q_X18_⟩ hb_ hon hoff
     refine ⟨_, rfl, fun K hK => ?_⟩
     have e14 : a.tmps[14]? = some (.int .i64 a0_0) := by rw [ha]; exact putSel_on (e := (1, 14, .int .i64 a0_0)) 0 rfl rfl (hon 1 (by kernel_rfl)) rfl
     replace ha := asd ha
     have BK660 := asd Q_BK660
     have HB := asd Q_HB
     refine value_ (w1 := w') (v := .int .u8 ((a0_0) % 256)) (by rfl) rfl ?_ ?_
     ·go_simp
      (try simp only [i64_w])
      try rfl
     refine hK.out _ _ ⟨v663, v666, v669, v673, m14_, m15_, m16_, m18_, (by rw [ha.out]; exact putSel_upk 1 hb_ rfl rfl rfl), Q_BK660, Q_HB, fun h0_ => absurd ((hoff 6 (by kernel_rfl)).symm.trans h0_) (by decide), Q_HO667, fun h0_ => absurd ((hoff 10 (by kernel_rfl)).symm.trans h0_) (by decide), fun h0_ => absurd ((hoff 14 (by kernel_rfl)).symm.trans h0_) (by decide), fun h0_ => absurd ((hoff 14 (by kernel_rfl)).symm.trans h0_) (by decide), fun h0_ => absurd ((hoff 15 (by kernel_rfl)).symm.trans h0_) (by decide), fun h0_ => absurd ((hoff 16 (by kernel_rfl)).symm.trans h0_) (by decide), fun h0_ => absurd ((hoff 18 (by kernel_rfl)).symm.trans h0_) (by decide)⟩
    refine steps_cons ?_ ?_
    ·rintro b a w' ⟨v663, v666, v669, v673, m14_, m15_, m16_, m18_, ha, Q_BK660, Q_HB, Q_HO664, Q_HO667, Q_HO670, Q_HO674, Q_X14_, Q_X15_, Q_X16_, Q_X18_⟩ hb_ hon hoff
     refine ⟨_, rfl, fun K hK => ?_⟩
     have e16 : a.tmps[16]? = some (.pointer (some ⟨gb660, 1, none⟩)) := by rw [ha]; exact (putSel_off rfl).trans rfl
     replace ha := asd ha
     have BK660 := asd Q_BK660
     have HB := asd Q_HB
     have hc0_ : w'.cell? ⟨gb660, 0, none⟩ = some (.int .i64 a0_0) := (blk_cell BK660.out 0).trans rfl
     have hc1_ : w'.cell? ⟨gb660, 1, none⟩ = some (.int .i64 a0_1) := (blk_cell BK660.out 1).trans rfl
     have hc2_ : w'.cell? ⟨gb660, 2, none⟩ = some (.int .u64 a0_2) := (blk_cell BK660.out 2).trans rfl
     have hc3_ : w'.cell? ⟨gb660, 3, none⟩ = some (.int .u16 a0_3) := (blk_cell BK660.out 3).trans rfl
     refine value_ (w1 := w') (v := .int .i64 a0_1) (by rfl) rfl ?_ ?_
     ·go_simp
      (try simp only [i64_w])
      try rfl
     refine hK.out _ _ ⟨v663, v666, v669, v673, m14_, m15_, m16_, m18_, (by rw [ha.out]; exact putSel_upk 2 hb_ rfl rfl rfl), Q_BK660, Q_HB, fun h0_ => absurd ((hoff 6 (by kernel_rfl)).symm.trans h0_) (by decide), Q_HO667, fun h0_ => absurd ((hoff 10 (by kernel_rfl)).symm.trans h0_) (by decide), fun h0_ => absurd ((hoff 14 (by kernel_rfl)).symm.trans h0_) (by decide), fun h0_ => absurd ((hoff 14 (by kernel_rfl)).symm.trans h0_) (by decide), fun h0_ => absurd ((hoff 15 (by kernel_rfl)).symm.trans h0_) (by decide), fun h0_ => absurd ((hoff 16 (by kernel_rfl)).symm.trans h0_) (by decide), fun h0_ => absurd ((hoff 18 (by kernel_rfl)).symm.trans h0_) (by decide)⟩
    refine steps_cons ?_ ?_
    ·rintro b a w' ⟨v663, v666, v669, v673, m14_, m15_, m16_, m18_, ha, Q_BK660, Q_HB, Q_HO664, Q_HO667, Q_HO670, Q_HO674, Q_X14_, Q_X15_, Q_X16_, Q_X18_⟩ hb_ hon hoff
     refine ⟨_, rfl, fun K hK => ?_⟩
     have e17 : a.tmps[17]? = some (.int .i64 a0_1) := by rw [ha]; exact putSel_on (e := (4, 17, .int .i64 a0_1)) 2 rfl rfl (hon 4 (by kernel_rfl)) rfl
     replace ha := asd ha
     have BK660 := asd Q_BK660
     have HB := asd Q_HB
     refine value_ (w1 := w') (v := .int .u8 ((a0_1) % 256)) (by rfl) rfl ?_ ?_
     ·go_simp
      (try simp only [i64_w])
      try rfl
     refine hK.out _ _ ⟨v663, v666, v669, v673, m14_, m15_, m16_, m18_, (by rw [ha.out]; exact putSel_upk 3 hb_ rfl rfl rfl), Q_BK660, Q_HB, fun h0_ => absurd ((hoff 6 (by kernel_rfl)).symm.trans h0_) (by decide), Q_HO667, fun h0_ => absurd ((hoff 10 (by kernel_rfl)).symm.trans h0_) (by decide), fun h0_ => absurd ((hoff 14 (by kernel_rfl)).symm.trans h0_) (by decide), fun h0_ => absurd ((hoff 14 (by kernel_rfl)).symm.trans h0_) (by decide), fun h0_ => absurd ((hoff 15 (by kernel_rfl)).symm.trans h0_) (by decide), fun h0_ => absurd ((hoff 16 (by kernel_rfl)).symm.trans h0_) (by decide), fun h0_ => absurd ((hoff 18 (by kernel_rfl)).symm.trans h0_) (by decide)⟩
    refine steps_cons ?_ ?_
    ·rintro b a w' ⟨v663, v666, v669, v673, m14_, m15_, m16_, m18_, ha, Q_BK660, Q_HB, Q_HO664, Q_HO667, Q_HO670, Q_HO674, Q_X14_, Q_X15_, Q_X16_, Q_X18_⟩ hb_ hon hoff
     refine ⟨_, rfl, fun K hK => ?_⟩
     have e15 : a.tmps[15]? = some (.int .u8 ((a0_0) % 256)) := by rw [ha]; exact putSel_on (e := (2, 15, .int .u8 ((a0_0) % 256))) 1 rfl rfl (hon 2 (by kernel_rfl)) rfl
     have e18 : a.tmps[18]? = some (.int .u8 ((a0_1) % 256)) := by rw [ha]; exact putSel_on (e := (5, 18, .int .u8 ((a0_1) % 256))) 3 rfl rfl (hon 5 (by kernel_rfl)) rfl
     replace ha := asd ha
     have BK660 := asd Q_BK660
     have HB := asd Q_HB
     refine Kd.R_lit_step (Kd.int .u8) _ 5 ?hg (N := 19) ?hd (xs := ([161, (a0_0) % 256, (a0_1) % 256] : List Int)) (inner := [.int .u8 161, .int .u8 ((a0_0) % 256), .int .u8 ((a0_1) % 256)]) (ok := fun _ => True) (okp := fun _ => True) ?hr ?hp (fun _ hk => hk) trivial (Below.refl _ _) (Nat.le_refl _) (by simp) ?_; (case hd => rfl); (case hg => rfl); (case hr => first | (go_simp; done) | (go_simp; rfl)); (case hp => exact (Reps.one (show Kd.M (Kd.int .u8) _ _ _ 161 [.int .u8 161] from rfl) (Reps.one (show Kd.M (Kd.int .u8) _ _ _ ((a0_0) % 256) [.int .u8 ((a0_0) % 256)] from rfl) (Reps.one (show Kd.M (Kd.int .u8) _ _ _ ((a0_1) % 256) [.int .u8 ((a0_1) % 256)] from rfl) (Reps.none _ _)))))
     intro v663 w28 ho29 hb hg_ hnew_
     clear hg_ hnew_
     (first | rw [← Ny662.out] at ho29 | (simp only [Int.reduceToNat] at ho29; rw [← Ny662.out] at ho29))
     have n0_ := rl ho29 HB
     have n1_ := bb BK660 hb
     have n2_ := bs HB hb
     have z_HO667 := fun (h0_ : b 9 = true) => (show Kd.R (Kd.int .u64) 24 w28 w.heap.size (fun _ => True) v666 y665 from by first | exact (Kd.R_below (by (with_reducible repeat (first | apply Kd.R_alloc | apply Kd.R_drewN | apply Kd.R_drew)); exact (Q_HO667 h0_)) hb) | exact Kd.R_mono (Kd.R_below (by (with_reducible repeat (first | apply Kd.R_alloc | apply Kd.R_drewN | apply Kd.R_drew)); exact (Q_HO667 h0_)) hb) (fun _ h_ => by first | trivial | exact h_ | exact h_.1))
     clear BK660 HB
     have HO664 := n0_
     have BK660 := n1_
     have HB := n2_
     clear n0_ n1_ n2_ hb ho29
     refine hK.out _ _ ⟨v663, v666, v669, v673, m14_, m15_, m16_, m18_, (by rw [ha.out]; exact putSel_upk 4 hb_ rfl rfl rfl), (be BK660).out, (bse HB), fun _ => (by (with_reducible repeat (first | apply Kd.R_alloc | apply Kd.R_drewN | apply Kd.R_drew)); first | exact HO664.out | exact Kd.R_mono HO664.out (fun _ _ => trivial)), z_HO667, fun h0_ => absurd ((hoff 10 (by kernel_rfl)).symm.trans h0_) (by decide), fun h0_ => absurd ((hoff 14 (by kernel_rfl)).symm.trans h0_) (by decide), fun h0_ => absurd ((hoff 14 (by kernel_rfl)).symm.trans h0_) (by decide), fun h0_ => absurd ((hoff 15 (by kernel_rfl)).symm.trans h0_) (by decide), fun h0_ => absurd ((hoff 16 (by kernel_rfl)).symm.trans h0_) (by decide), fun h0_ => absurd ((hoff 18 (by kernel_rfl)).symm.trans h0_) (by decide)⟩
    refine steps_cons ?_ ?_
    ·rintro b a w' ⟨v663, v666, v669, v673, m14_, m15_, m16_, m18_, ha, Q_BK660, Q_HB, Q_HO664, Q_HO667, Q_HO670, Q_HO674, Q_X14_, Q_X15_, Q_X16_, Q_X18_⟩ hb_ hon hoff
     refine ⟨_, rfl, fun K hK => ?_⟩
     have e20 : a.tmps[20]? = some (.pointer (some ⟨gb660, 2, none⟩)) := by rw [ha]; exact (putSel_off rfl).trans rfl
     replace ha := asd ha
     have BK660 := asd Q_BK660
     have HB := asd Q_HB
     have hc0_ : w'.cell? ⟨gb660, 0, none⟩ = some (.int .i64 a0_0) := (blk_cell BK660.out 0).trans rfl
     have hc1_ : w'.cell? ⟨gb660, 1, none⟩ = some (.int .i64 a0_1) := (blk_cell BK660.out 1).trans rfl
     have hc2_ : w'.cell? ⟨gb660, 2, none⟩ = some (.int .u64 a0_2) := (blk_cell BK660.out 2).trans rfl
     have hc3_ : w'.cell? ⟨gb660, 3, none⟩ = some (.int .u16 a0_3) := (blk_cell BK660.out 3).trans rfl
     refine value_ (w1 := w') (v := .int .u64 a0_2) (by rfl) rfl ?_ ?_
     ·go_simp
      (try simp only [i64_w])
      try rfl
     refine hK.out _ _ ⟨v663, v666, v669, v673, m14_, m15_, m16_, m18_, (by rw [ha.out]; exact putSel_upk 5 hb_ rfl rfl rfl), Q_BK660, Q_HB, Q_HO664, fun h0_ => absurd ((hoff 9 (by kernel_rfl)).symm.trans h0_) (by decide), fun h0_ => absurd ((hoff 10 (by kernel_rfl)).symm.trans h0_) (by decide), fun h0_ => absurd ((hoff 14 (by kernel_rfl)).symm.trans h0_) (by decide), fun h0_ => absurd ((hoff 14 (by kernel_rfl)).symm.trans h0_) (by decide), fun h0_ => absurd ((hoff 15 (by kernel_rfl)).symm.trans h0_) (by decide), fun h0_ => absurd ((hoff 16 (by kernel_rfl)).symm.trans h0_) (by decide), fun h0_ => absurd ((hoff 18 (by kernel_rfl)).symm.trans h0_) (by decide)⟩
    refine steps_cons ?_ ?_
    ·rintro b a w' ⟨v663, v666, v669, v673, m14_, m15_, m16_, m18_, ha, Q_BK660, Q_HB, Q_HO664, Q_HO667, Q_HO670, Q_HO674, Q_X14_, Q_X15_, Q_X16_, Q_X18_⟩ hb_ hon hoff
     refine ⟨_, rfl, fun K hK => ?_⟩
     have e21 : a.tmps[21]? = some (.int .u64 a0_2) := by rw [ha]; exact putSel_on (e := (8, 21, .int .u64 a0_2)) 5 rfl rfl (hon 8 (by kernel_rfl)) rfl
     replace ha := asd ha
     have BK660 := asd Q_BK660
     have HB := asd Q_HB
     refine Kd.R_lit_step (Kd.int .u64) _ 24 ?hg (N := 22) ?hd (xs := ([a0_2] : List Int)) (inner := [.int .u64 a0_2]) (ok := fun _ => True) (okp := fun _ => True) ?hr ?hp (fun _ hk => hk) trivial (Below.refl _ _) (Nat.le_refl _) (by simp) ?_; (case hd => rfl); (case hg => rfl); (case hr => first | (go_simp; done) | (go_simp; rfl)); (case hp => exact (Reps.one (show Kd.M (Kd.int .u64) _ _ _ a0_2 [.int .u64 a0_2] from rfl) (Reps.none _ _)))
     intro v666 w28 ho29 hb hg_ hnew_
     clear hg_ hnew_
     (first | rw [← Ny665.out] at ho29 | (simp only [Int.reduceToNat] at ho29; rw [← Ny665.out] at ho29))
     have n0_ := rl ho29 HB
     have n1_ := bb BK660 hb
     have n2_ := bs HB hb
     have z_HO664 := fun (h0_ : b 6 = true) => (show Kd.R (Kd.int .u8) 5 w28 w.heap.size (fun _ => True) v663 y662 from by first | exact (Kd.R_below (by (with_reducible repeat (first | apply Kd.R_alloc | apply Kd.R_drewN | apply Kd.R_drew)); exact (Q_HO664 h0_)) hb) | exact Kd.R_mono (Kd.R_below (by (with_reducible repeat (first | apply Kd.R_alloc | apply Kd.R_drewN | apply Kd.R_drew)); exact (Q_HO664 h0_)) hb) (fun _ h_ => by first | trivial | exact h_ | exact h_.1))
     clear BK660 HB
     have HO667 := n0_
     have BK660 := n1_
     have HB := n2_
     clear n0_ n1_ n2_ hb ho29
     refine hK.out _ _ ⟨v663, v666, v669, v673, m14_, m15_, m16_, m18_, (by rw [ha.out]; exact putSel_upk 6 hb_ rfl rfl rfl), (be BK660).out, (bse HB), z_HO664, fun _ => (by (with_reducible repeat (first | apply Kd.R_alloc | apply Kd.R_drewN | apply Kd.R_drew)); first | exact HO667.out | exact Kd.R_mono HO667.out (fun _ _ => trivial)), fun h0_ => absurd ((hoff 10 (by kernel_rfl)).symm.trans h0_) (by decide), fun h0_ => absurd ((hoff 14 (by kernel_rfl)).symm.trans h0_) (by decide), fun h0_ => absurd ((hoff 14 (by kernel_rfl)).symm.trans h0_) (by decide), fun h0_ => absurd ((hoff 15 (by kernel_rfl)).symm.trans h0_) (by decide), fun h0_ => absurd ((hoff 16 (by kernel_rfl)).symm.trans h0_) (by decide), fun h0_ => absurd ((hoff 18 (by kernel_rfl)).symm.trans h0_) (by decide)⟩
    refine steps_cons ?_ ?_
    ·rintro b a w' ⟨v663, v666, v669, v673, m14_, m15_, m16_, m18_, ha, Q_BK660, Q_HB, Q_HO664, Q_HO667, Q_HO670, Q_HO674, Q_X14_, Q_X15_, Q_X16_, Q_X18_⟩ hb_ hon hoff
     refine ⟨_, rfl, fun K hK => ?_⟩
     have e19 : a.tmps[19]? = some (v663) := by rw [ha]; exact putSel_on (e := (6, 19, v663)) 4 rfl rfl (hon 6 (by kernel_rfl)) rfl
     have e22 : a.tmps[22]? = some (v666) := by rw [ha]; exact putSel_on (e := (9, 22, v666)) 6 rfl rfl (hon 9 (by kernel_rfl)) rfl
     replace ha := asd ha
     have BK660 := asd Q_BK660
     have HB := asd Q_HB
     have HO664 := asd (Q_HO664 (hon 6 (by kernel_rfl)))
     have HO667 := asd (Q_HO667 (hon 9 (by kernel_rfl)))
     obtain ⟨Ao33, co33, eo33⟩ := Kd.R_slice HO664.out
     (first | subst eo33 | (injection eo33 with f1_ f2_ f3_; have f4_ := f1_.symm; have f5_ := f3_.symm; clear f1_ f2_ f3_; subst f4_; subst f5_))
     obtain ⟨Ao34, co34, eo34⟩ := Kd.R_slice HO667.out
     (first | subst eo34 | (injection eo34 with f1_ f2_ f3_; have f4_ := f1_.symm; have f5_ := f3_.symm; clear f1_ f2_ f3_; subst f4_; subst f5_))
     refine goes_ Tryz.func50 (by kernel_rfl) rfl #[.slice Ao33 y662.length co33, .slice Ao34 y665.length co34] (by rfl) rfl rfl (by first | (simp only [List.map_toArray, List.map_cons, List.map_nil, Act.eval, Array.getD_eq_getD_getElem?, Option.getD_some, e19, e22]; done) | (simp only [List.map_toArray, List.map_cons, List.map_nil, Act.eval, Array.getD_eq_getD_getElem?, Option.getD_some, e19, e22]; rfl)) ?_
     with_reducible refine (wire_Vary.calls k _ _ y662 _ _ y665 t668 _ ?side1 ?side2 ?side3 ?side4 A4.out).mono ?_
     (case side1 => exact cr (Kd.R_reads' HO664.out).2.2)
     (case side2 => exact (Kd.R_reads' HO664.out).2.1)
     (case side3 => exact cr (Kd.R_reads' HO667.out).2.2)
     (case side4 => exact (Kd.R_reads' HO667.out).2.1)
     rintro e w35 ⟨v669, rfl, ho0, hb⟩
     refine ⟨_, rfl, ?_⟩
     have HO670 := asd (Kd.R_lower (Kd.R_new' ho0 (Kd.R_lt (by (with_reducible repeat (first | apply Kd.R_alloc | apply Kd.R_drewN | apply Kd.R_drew)); first | exact HO664.out | exact Kd.R_mono HO664.out (fun _ _ => trivial)))) (below_size (bse HB)))
     replace HO664 := asd (Kd.R_elder' (by (with_reducible repeat (first | apply Kd.R_alloc | apply Kd.R_drewN | apply Kd.R_drew)); first | exact HO664.out | exact Kd.R_mono HO664.out (fun _ _ => trivial)) (Kd.R_base ho0) hb)
     replace HO667 := asd (Kd.R_below (by (with_reducible repeat (first | apply Kd.R_alloc | apply Kd.R_drewN | apply Kd.R_drew)); first | exact HO667.out | exact Kd.R_mono HO667.out (fun _ _ => trivial)) hb)
     replace BK660 := bb BK660 hb
     replace HB := bs HB hb
     (try clear hb)
     (try clear hb2)
     (try clear hk)
     (try clear hi)
     (try clear ho0)
     refine hK.out _ _ ⟨.slice Ao33 y662.length co33, .slice Ao34 y665.length co34, v669, v673, m14_, m15_, m16_, m18_, (by rw [ha.out]; exact putSel_upk 7 hb_ rfl rfl rfl), (be BK660).out, (bse HB), fun _ => (by (with_reducible repeat (first | apply Kd.R_alloc | apply Kd.R_drewN | apply Kd.R_drew)); exact Kd.R_mono HO664.out (fun _ hk => by first | exact hk.2 | trivial)), fun _ => (by (with_reducible repeat (first | apply Kd.R_alloc | apply Kd.R_drewN | apply Kd.R_drew)); first | exact HO667.out | exact Kd.R_mono HO667.out (fun _ _ => trivial)), fun _ => (by (with_reducible repeat (first | apply Kd.R_alloc | apply Kd.R_drewN | apply Kd.R_drew)); exact Kd.R_mono HO670.out (fun _ hk => by first | exact hk.2 | trivial)), fun h0_ => absurd ((hoff 14 (by kernel_rfl)).symm.trans h0_) (by decide), fun h0_ => absurd ((hoff 14 (by kernel_rfl)).symm.trans h0_) (by decide), fun h0_ => absurd ((hoff 15 (by kernel_rfl)).symm.trans h0_) (by decide), fun h0_ => absurd ((hoff 16 (by kernel_rfl)).symm.trans h0_) (by decide), fun h0_ => absurd ((hoff 18 (by kernel_rfl)).symm.trans h0_) (by decide)⟩
    refine steps_cons ?_ ?_
    ·rintro b a w' ⟨v663, v666, v669, v673, m14_, m15_, m16_, m18_, ha, Q_BK660, Q_HB, Q_HO664, Q_HO667, Q_HO670, Q_HO674, Q_X14_, Q_X15_, Q_X16_, Q_X18_⟩ hb_ hon hoff
     refine ⟨_, rfl, fun K hK => ?_⟩
     have e24 : a.tmps[24]? = some (.pointer (some ⟨gb660, 3, none⟩)) := by rw [ha]; exact (putSel_off rfl).trans rfl
     replace ha := asd ha
     have BK660 := asd Q_BK660
     have HB := asd Q_HB
     have hc0_ : w'.cell? ⟨gb660, 0, none⟩ = some (.int .i64 a0_0) := (blk_cell BK660.out 0).trans rfl
     have hc1_ : w'.cell? ⟨gb660, 1, none⟩ = some (.int .i64 a0_1) := (blk_cell BK660.out 1).trans rfl
     have hc2_ : w'.cell? ⟨gb660, 2, none⟩ = some (.int .u64 a0_2) := (blk_cell BK660.out 2).trans rfl
     have hc3_ : w'.cell? ⟨gb660, 3, none⟩ = some (.int .u16 a0_3) := (blk_cell BK660.out 3).trans rfl
     refine value_ (w1 := w') (v := .int .u16 a0_3) (by rfl) rfl ?_ ?_
     ·go_simp
      (try simp only [i64_w])
      try rfl
     refine hK.out _ _ ⟨v663, v666, v669, v673, m14_, m15_, m16_, m18_, (by rw [ha.out]; exact putSel_upk 8 hb_ rfl rfl rfl), Q_BK660, Q_HB, Q_HO664, Q_HO667, Q_HO670, fun h0_ => absurd ((hoff 14 (by kernel_rfl)).symm.trans h0_) (by decide), fun h0_ => absurd ((hoff 14 (by kernel_rfl)).symm.trans h0_) (by decide), fun h0_ => absurd ((hoff 15 (by kernel_rfl)).symm.trans h0_) (by decide), fun h0_ => absurd ((hoff 16 (by kernel_rfl)).symm.trans h0_) (by decide), fun h0_ => absurd ((hoff 18 (by kernel_rfl)).symm.trans h0_) (by decide)⟩
    refine steps_cons ?_ ?_
    ·rintro b a w' ⟨v663, v666, v669, v673, m14_, m15_, m16_, m18_, ha, Q_BK660, Q_HB, Q_HO664, Q_HO667, Q_HO670, Q_HO674, Q_X14_, Q_X15_, Q_X16_, Q_X18_⟩ hb_ hon hoff
     refine ⟨_, rfl, fun K hK => ?_⟩
     have e25 : a.tmps[25]? = some (.int .u16 a0_3) := by rw [ha]; exact putSel_on (e := (12, 25, .int .u16 a0_3)) 8 rfl rfl (hon 12 (by kernel_rfl)) rfl
     replace ha := asd ha
     have BK660 := asd Q_BK660
     have HB := asd Q_HB
     refine value_ (w1 := w') (v := .int .u64 (IntKind.u64.wrap (a0_3))) (by rfl) rfl ?_ ?_
     ·go_simp
      (try simp only [i64_w])
      try rfl
     refine hK.out _ _ ⟨v663, v666, v669, v673, m14_, m15_, m16_, m18_, (by rw [ha.out]; exact putSel_upk 9 hb_ rfl rfl rfl), Q_BK660, Q_HB, Q_HO664, Q_HO667, Q_HO670, fun h0_ => absurd ((hoff 14 (by kernel_rfl)).symm.trans h0_) (by decide), fun h0_ => absurd ((hoff 14 (by kernel_rfl)).symm.trans h0_) (by decide), fun h0_ => absurd ((hoff 15 (by kernel_rfl)).symm.trans h0_) (by decide), fun h0_ => absurd ((hoff 16 (by kernel_rfl)).symm.trans h0_) (by decide), fun h0_ => absurd ((hoff 18 (by kernel_rfl)).symm.trans h0_) (by decide)⟩
    refine steps_cons ?_ ?_
    ·rintro b a w' ⟨v663, v666, v669, v673, m14_, m15_, m16_, m18_, ha, Q_BK660, Q_HB, Q_HO664, Q_HO667, Q_HO670, Q_HO674, Q_X14_, Q_X15_, Q_X16_, Q_X18_⟩ hb_ hon hoff
     refine ⟨_, rfl, fun K hK => ?_⟩
     have e23 : a.tmps[23]? = some (v669) := by rw [ha]; exact putSel_on (e := (10, 23, v669)) 7 rfl rfl (hon 10 (by kernel_rfl)) rfl
     have e26 : a.tmps[26]? = some (.int .u64 (IntKind.u64.wrap (a0_3))) := by rw [ha]; exact putSel_on (e := (13, 26, .int .u64 (IntKind.u64.wrap (a0_3)))) 9 rfl rfl (hon 13 (by kernel_rfl)) rfl
     replace ha := asd ha
     have BK660 := asd Q_BK660
     have HB := asd Q_HB
     have HO664 := asd (Q_HO664 (hon 6 (by kernel_rfl)))
     have HO667 := asd (Q_HO667 (hon 9 (by kernel_rfl)))
     have HO670 := asd (Q_HO670 (hon 10 (by kernel_rfl)))
     obtain ⟨Ao36, co36, eo36⟩ := Kd.R_slice HO670.out
     (first | subst eo36 | (injection eo36 with f1_ f2_ f3_; have f4_ := f1_.symm; have f5_ := f3_.symm; clear f1_ f2_ f3_; subst f4_; subst f5_))
     refine goes_ Tryz.func49 (by kernel_rfl) rfl #[.slice Ao36 t668.length co36, .int .i64 2, .int .u64 (IntKind.u64.wrap (a0_3))] (by rfl) rfl rfl (by first | (simp only [List.map_toArray, List.map_cons, List.map_nil, Act.eval, Array.getD_eq_getD_getElem?, Option.getD_some, e23, e26]; done) | (simp only [List.map_toArray, List.map_cons, List.map_nil, Act.eval, Array.getD_eq_getD_getElem?, Option.getD_some, e23, e26]; rfl)) ?_
     with_reducible refine (wire_Fixed.calls k _ _ t668 2 (IntKind.u64.wrap (a0_3)) t671 t672 _ ?side1 ?side2 A5.out).mono ?_
     (case side1 => exact cr (Kd.R_reads' HO670.out).2.2)
     (case side2 => exact (Kd.R_reads' HO670.out).2.1)
     rintro e w37 ⟨v673, rfl, ho0, hb⟩
     refine ⟨_, rfl, ?_⟩
     have HO674 := asd (Kd.R_lower (Kd.R_new' (Kd.R_new' ho0 (Kd.R_lt (by (with_reducible repeat (first | apply Kd.R_alloc | apply Kd.R_drewN | apply Kd.R_drew)); first | exact HO664.out | exact Kd.R_mono HO664.out (fun _ _ => trivial)))) (Kd.R_lt (by (with_reducible repeat (first | apply Kd.R_alloc | apply Kd.R_drewN | apply Kd.R_drew)); first | exact HO670.out | exact Kd.R_mono HO670.out (fun _ _ => trivial)))) (below_size (bse HB)))
     replace HO664 := asd (Kd.R_elder' (by (with_reducible repeat (first | apply Kd.R_alloc | apply Kd.R_drewN | apply Kd.R_drew)); first | exact HO664.out | exact Kd.R_mono HO664.out (fun _ _ => trivial)) (Kd.R_base ho0) hb)
     replace HO667 := asd (Kd.R_below (by (with_reducible repeat (first | apply Kd.R_alloc | apply Kd.R_drewN | apply Kd.R_drew)); first | exact HO667.out | exact Kd.R_mono HO667.out (fun _ _ => trivial)) hb)
     replace HO670 := asd (Kd.R_elder' (by (with_reducible repeat (first | apply Kd.R_alloc | apply Kd.R_drewN | apply Kd.R_drew)); first | exact HO670.out | exact Kd.R_mono HO670.out (fun _ _ => trivial)) (Kd.R_base ho0) hb)
     replace BK660 := bb BK660 hb
     replace HB := bs HB hb
     (try clear hb)
     (try clear hb2)
     (try clear hk)
     (try clear hi)
     (try clear ho0)
     refine hK.out _ _ ⟨v663, v666, .slice Ao36 t668.length co36, v673, (.tuple #[v673, .int .i64 t672]), m15_, m16_, m18_, (by rw [ha.out]; exact putSel_upk 10 hb_ rfl rfl rfl), (be BK660).out, (bse HB), fun _ => (by (with_reducible repeat (first | apply Kd.R_alloc | apply Kd.R_drewN | apply Kd.R_drew)); first | exact HO664.out | exact Kd.R_mono HO664.out (fun _ _ => trivial)), fun _ => (by (with_reducible repeat (first | apply Kd.R_alloc | apply Kd.R_drewN | apply Kd.R_drew)); first | exact HO667.out | exact Kd.R_mono HO667.out (fun _ _ => trivial)), fun _ => (by (with_reducible repeat (first | apply Kd.R_alloc | apply Kd.R_drewN | apply Kd.R_drew)); first | exact HO670.out | exact Kd.R_mono HO670.out (fun _ _ => trivial)), fun _ => (by (with_reducible repeat (first | apply Kd.R_alloc | apply Kd.R_drewN | apply Kd.R_drew)); exact Kd.R_mono HO674.out (fun _ hk => by first | exact ⟨hk.1.2, hk.2⟩ | exact ⟨trivial, hk.2⟩ | exact hk.2 | exact hk.1 | trivial)), fun _ => rfl, fun h0_ => absurd ((hoff 15 (by kernel_rfl)).symm.trans h0_) (by decide), fun h0_ => absurd ((hoff 16 (by kernel_rfl)).symm.trans h0_) (by decide), fun h0_ => absurd ((hoff 18 (by kernel_rfl)).symm.trans h0_) (by decide)⟩
    refine steps_cons ?_ ?_
    ·rintro b a w' ⟨v663, v666, v669, v673, m14_, m15_, m16_, m18_, ha, Q_BK660, Q_HB, Q_HO664, Q_HO667, Q_HO670, Q_HO674, Q_X14_, Q_X15_, Q_X16_, Q_X18_⟩ hb_ hon hoff
     refine ⟨_, rfl, fun K hK => ?_⟩
     have e27 : a.tmps[27]? = some (m14_) := by rw [ha]; exact putSel_on (e := (14, 27, m14_)) 10 rfl rfl (hon 14 (by kernel_rfl)) rfl
     rw [Q_X14_ (hon 14 (by kernel_rfl))] at e27
     replace ha := asd ha
     have BK660 := asd Q_BK660
     have HB := asd Q_HB
     have HO664 := asd (Q_HO664 (hon 6 (by kernel_rfl)))
     have HO667 := asd (Q_HO667 (hon 9 (by kernel_rfl)))
     have HO670 := asd (Q_HO670 (hon 10 (by kernel_rfl)))
     have HO674 := asd (Q_HO674 (hon 14 (by kernel_rfl)))
     refine value_ (w1 := w') (v := .tuple #[v673, .int .i64 t672]) (by rfl) rfl ?_ ?_
     ·go_simp
      (try simp only [i64_w])
      try rfl
     refine hK.out _ _ ⟨v663, v666, v669, v673, m14_, (.tuple #[v673, .int .i64 t672]), m16_, m18_, (by rw [ha.out]; exact putSel_upk 11 hb_ rfl rfl rfl), Q_BK660, Q_HB, Q_HO664, Q_HO667, Q_HO670, Q_HO674, Q_X14_, fun _ => rfl, fun h0_ => absurd ((hoff 16 (by kernel_rfl)).symm.trans h0_) (by decide), fun h0_ => absurd ((hoff 18 (by kernel_rfl)).symm.trans h0_) (by decide)⟩
    refine steps_cons ?_ ?_
    ·rintro b a w' ⟨v663, v666, v669, v673, m14_, m15_, m16_, m18_, ha, Q_BK660, Q_HB, Q_HO664, Q_HO667, Q_HO670, Q_HO674, Q_X14_, Q_X15_, Q_X16_, Q_X18_⟩ hb_ hon hoff
     refine ⟨_, rfl, fun K hK => ?_⟩
     have e12 : a.tmps[12]? = some (m15_) := by rw [ha]; exact putSel_on (e := (15, 12, m15_)) 11 rfl rfl (hon 15 (by kernel_rfl)) rfl
     rw [Q_X15_ (hon 15 (by kernel_rfl))] at e12
     replace ha := asd ha
     have BK660 := asd Q_BK660
     have HB := asd Q_HB
     have HO664 := asd (Q_HO664 (hon 6 (by kernel_rfl)))
     have HO667 := asd (Q_HO667 (hon 9 (by kernel_rfl)))
     have HO670 := asd (Q_HO670 (hon 10 (by kernel_rfl)))
     have HO674 := asd (Q_HO674 (hon 14 (by kernel_rfl)))
     obtain ⟨Ao16_0, co16_0, eo_⟩ := Kd.R_slice HO674.out
     subst eo_
     refine value_ (w1 := w') (v := .slice Ao16_0 t671.length co16_0) (by rfl) rfl ?_ ?_
     ·go_simp
      (try simp only [i64_w])
      try rfl
     refine hK.out _ _ ⟨v663, v666, v669, .slice Ao16_0 t671.length co16_0, m14_, m15_, (.slice Ao16_0 t671.length co16_0), m18_, (by rw [ha.out]; exact putSel_upk 12 hb_ rfl rfl rfl), Q_BK660, Q_HB, Q_HO664, Q_HO667, Q_HO670, Q_HO674, Q_X14_, Q_X15_, fun _ => rfl, fun h0_ => absurd ((hoff 18 (by kernel_rfl)).symm.trans h0_) (by decide)⟩
    refine steps_cons ?_ ?_
    ·rintro b a w' ⟨v663, v666, v669, v673, m14_, m15_, m16_, m18_, ha, Q_BK660, Q_HB, Q_HO664, Q_HO667, Q_HO670, Q_HO674, Q_X14_, Q_X15_, Q_X16_, Q_X18_⟩ hb_ hon hoff
     refine ⟨_, rfl, fun K hK => ?_⟩
     have e12 : a.tmps[12]? = some (m15_) := by rw [ha]; exact putSel_on (e := (15, 12, m15_)) 11 rfl rfl (hon 15 (by kernel_rfl)) rfl
     rw [Q_X15_ (hon 15 (by kernel_rfl))] at e12
     replace ha := asd ha
     have BK660 := asd Q_BK660
     have HB := asd Q_HB
     have HO664 := asd (Q_HO664 (hon 6 (by kernel_rfl)))
     have HO667 := asd (Q_HO667 (hon 9 (by kernel_rfl)))
     have HO670 := asd (Q_HO670 (hon 10 (by kernel_rfl)))
     have HO674 := asd (Q_HO674 (hon 14 (by kernel_rfl)))
     obtain ⟨Ao17_0, co17_0, eo_⟩ := Kd.R_slice HO674.out
     subst eo_
     refine value_ (w1 := w') (v := .int .i64 t672) (by rfl) rfl ?_ ?_
     ·go_simp
      (try simp only [i64_w])
      try rfl
     refine hK.out _ _ ⟨v663, v666, v669, .slice Ao17_0 t671.length co17_0, m14_, m15_, m16_, m18_, (by rw [ha.out]; exact putSel_upk 13 hb_ rfl rfl rfl), Q_BK660, Q_HB, Q_HO664, Q_HO667, Q_HO670, Q_HO674, Q_X14_, Q_X15_, Q_X16_, Q_X18_⟩
    refine steps_cons ?_ ?_
    ·rintro b a w' ⟨v663, v666, v669, v673, m14_, m15_, m16_, m18_, ha, Q_BK660, Q_HB, Q_HO664, Q_HO667, Q_HO670, Q_HO674, Q_X14_, Q_X15_, Q_X16_, Q_X18_⟩ hb_ hon hoff
     refine ⟨_, rfl, fun K hK => ?_⟩
     have e28 : a.tmps[28]? = some (m16_) := by rw [ha]; exact putSel_on (e := (16, 28, m16_)) 12 rfl rfl (hon 16 (by kernel_rfl)) rfl
     rw [Q_X16_ (hon 16 (by kernel_rfl))] at e28
     replace ha := asd ha
     have BK660 := asd Q_BK660
     have HB := asd Q_HB
     have HO664 := asd (Q_HO664 (hon 6 (by kernel_rfl)))
     have HO667 := asd (Q_HO667 (hon 9 (by kernel_rfl)))
     have HO670 := asd (Q_HO670 (hon 10 (by kernel_rfl)))
     have HO674 := asd (Q_HO674 (hon 14 (by kernel_rfl)))
     refine value_ (w1 := w') (v := v673) (by rfl) rfl ?_ ?_
     ·go_simp
      (try simp only [i64_w])
      try rfl
     refine hK.out _ _ ⟨v663, v666, v669, v673, m14_, m15_, m16_, (v673), (by rw [ha.out]; exact putSel_upk 14 hb_ rfl rfl rfl), Q_BK660, Q_HB, Q_HO664, Q_HO667, Q_HO670, Q_HO674, Q_X14_, Q_X15_, Q_X16_, fun _ => rfl⟩
    refine steps_cons ?_ ?_
    ·rintro b a w' ⟨v663, v666, v669, v673, m14_, m15_, m16_, m18_, ha, Q_BK660, Q_HB, Q_HO664, Q_HO667, Q_HO670, Q_HO674, Q_X14_, Q_X15_, Q_X16_, Q_X18_⟩ hb_ hon hoff
     refine ⟨_, rfl, fun K hK => ?_⟩
     have e29 : a.tmps[29]? = some (.int .i64 t672) := by rw [ha]; exact putSel_on (e := (17, 29, .int .i64 t672)) 13 rfl rfl (hon 17 (by kernel_rfl)) rfl
     replace ha := asd ha
     have BK660 := asd Q_BK660
     have HB := asd Q_HB
     have HO664 := asd (Q_HO664 (hon 6 (by kernel_rfl)))
     have HO667 := asd (Q_HO667 (hon 9 (by kernel_rfl)))
     have HO670 := asd (Q_HO670 (hon 10 (by kernel_rfl)))
     have HO674 := asd (Q_HO674 (hon 14 (by kernel_rfl)))
     refine value_ (w1 := w') (v := .int .i64 t672) (by rfl) rfl ?_ ?_
     ·go_simp
      (try simp only [i64_w])
      try rfl
     refine hK.out _ _ ⟨v663, v666, v669, v673, m14_, m15_, m16_, m18_, (by rw [ha.out]; exact putSel_upk 15 hb_ rfl rfl rfl), Q_BK660, Q_HB, Q_HO664, Q_HO667, Q_HO670, Q_HO674, Q_X14_, Q_X15_, Q_X16_, Q_X18_⟩
    exact steps_nil
   rintro b a w37 hall ⟨v663, v666, v669, v673, m14_, m15_, m16_, m18_, ha, Q_BK660, Q_HB, Q_HO664, Q_HO667, Q_HO670, Q_HO674, Q_X14_, Q_X15_, Q_X16_, Q_X18_⟩
   clear BK660 HB
   have hb1_ := hall 1 (by kernel_rfl)
   have hb2_ := hall 2 (by kernel_rfl)
   have hb4_ := hall 4 (by kernel_rfl)
   have hb5_ := hall 5 (by kernel_rfl)
   have hb6_ := hall 6 (by kernel_rfl)
   have hb8_ := hall 8 (by kernel_rfl)
   have hb9_ := hall 9 (by kernel_rfl)
   have hb10_ := hall 10 (by kernel_rfl)
   have hb12_ := hall 12 (by kernel_rfl)
   have hb13_ := hall 13 (by kernel_rfl)
   have hb14_ := hall 14 (by kernel_rfl)
   have hb15_ := hall 15 (by kernel_rfl)
   have hb16_ := hall 16 (by kernel_rfl)
   have hb17_ := hall 17 (by kernel_rfl)
   have hb18_ := hall 18 (by kernel_rfl)
   have hb19_ := hall 19 (by kernel_rfl)
   subst ha
   obtain rfl := Q_X14_ hb14_
   obtain rfl := Q_X15_ hb15_
   obtain rfl := Q_X16_ hb16_
   obtain rfl := Q_X18_ hb18_
   simp only [putSel, hb1_, hb2_, hb4_, hb5_, hb6_, hb8_, hb9_, hb10_, hb12_, hb13_, hb14_, hb15_, hb16_, hb17_, hb18_, hb19_, if_true, Act.put, List.setIfInBounds_toArray, List.set_cons_zero, List.set_cons_succ]
   have BK660 := asd Q_BK660
   clear Q_BK660
   have HB := asd Q_HB
   clear Q_HB
   have HO664 := asd (Q_HO664 hb6_)
   clear Q_HO664
   have HO667 := asd (Q_HO667 hb9_)
   clear Q_HO667
   have HO670 := asd (Q_HO670 hb10_)
   clear Q_HO670
   have HO674 := asd (Q_HO674 hb14_)
   clear Q_HO674
   clear hall hb1_ hb2_ hb4_ hb5_ hb6_ hb8_ hb9_ hb10_ hb12_ hb13_ hb14_ hb15_ hb16_ hb17_ hb18_ hb19_
   try go_wp2
   go_ret2
   exact ⟨_, by first | rfl | (simp [errW_none, errW_some] <;> rfl) | (simp [*, errW_none, errW_some] <;> rfl), by first | exact Kd.R_nil _ _ _ _ _ | exact Kd.N_nil _ _ _ _ _ | exact Kd.V_nil _ _ _ _ _ | exact Kd.Q_nil _ _ _ _ _ | exact Kd.S_nil _ _ _ _ _, bse HB⟩
 ·rw [if_neg c3] at H
  have c3b0 : (t661 == 0) = false := beq_eq_false_iff_ne.mpr c3
  have c3b1 : (t661 != 0) = true := bne_iff_ne.mpr c3
  simp only [Option.some.injEq, Prod.mk.injEq] at H
  obtain ⟨rfl, rfl⟩ := H
  go_enter Tryz.func14, Tryz.ntmps14
  go_wp2_with (first | ((with_reducible refine gate_dst (N := 1) rfl ?_); refine bx (N := 1) (cs := #[.int .i64 a0_0, .int .i64 a0_1, .int .u64 a0_2, .int .u16 a0_3]) (t := 43) ?_; intro gb660 hg w38 hbox hb; have BK660 := asd (hbox); have GW660 := bz HB hg; have GE660 := bz HB hg; replace HB := bs HB hb; clear hb hbox hg; have hcz39 := cf4 BK660) | ((with_reducible refine gate_callee (f := 48) rfl ?_); refine gL (some 8) Tryz.func48 #[.agg #[.int .i64 a0_0, .int .i64 a0_1, .int .u64 a0_2, .int .u16 a0_3]] ?_; (with_reducible refine (frame_Check.calls k a0_0 a0_1 a0_2 a0_3 t661 _ A2.out).mono ?_); rintro e w40 ⟨rfl, hb⟩; refine ⟨_, rfl, ?_⟩; replace BK660 := bb BK660 hb; replace HB := bs HB hb; (try clear hb)))
  go_ret2
  exact ⟨_, by first | rfl | (simp [errW_none, errW_some] <;> rfl) | (simp [*, errW_none, errW_some] <;> rfl), by first | exact Kd.R_nil _ _ _ _ _ | exact Kd.N_nil _ _ _ _ _ | exact Kd.V_nil _ _ _ _ _ | exact Kd.Q_nil _ _ _ _ _ | exact Kd.S_nil _ _ _ _ _, bse HB⟩


/-! ### palletlaw13_timers: function 18 -/
def palletlaw13_timers.l0 : Nat → List Int → List (S66) → Int → Int → Option (List Int)
 | 0, _, _, _, _ => none
 | k + 1, x3, x6, x7, x8 => if x8 < x7 then (if 0 ≤ x8 then (if x8 < (x6.length : Int) then (if ((rd_T66 x6 x8).f0) = 1 then (if x3.length < 17592186044416 then (palletlaw13_timers.l0 k (x3 ++ [(rd_T66 x6 x8).f1]) x6 x7 (wrap64 (x8 + 1))) else (none)) else (palletlaw13_timers.l0 k x3 x6 x7 (wrap64 (x8 + 1)))) else (none)) else (none)) else (some x3)
def palletlaw13_timers.f (k : Nat) (l0 : List (S66)) : Option (List Int) := palletlaw13_timers.l0 k ([] : List Int) l0 (l0.length : Int) 0
set_option maxHeartbeats 8000000 in
set_option maxRecDepth 100000 in
theorem palletlaw13_timers.calls (k : Nat) (A0 : Option Addr) (c0 : Nat) (l0 : List (S66)) (r : List Int) (w : World) (hr0 : Kd.C k66 w A0 l0.length l0) (hc0 : l0.length ≤ c0) (h : palletlaw13_timers.f k l0 = some r) :
  Calls Tryz.prog 18 #[.slice A0 l0.length c0] w fun e w' => ∃ v0_ : Value, e = .returned (v0_) ∧ Kd.R (Kd.int .i64) 2 w' w.heap.size (fun _ => True) v0_ r ∧ Below w.heap.size w w' := by
 have hu66 := Tryz.underlying66
 have HR0 := asd hr0
 have HC0 := asd hc0
 clear hr0 hc0
 have HB := asd (Below.refl w.heap.size w)
 have H : (palletlaw13_timers.l0 k ([] : List Int) l0 (l0.length : Int) 0) = some r := h
 clear h
 have H' := asd H
 clear H
 go_enter Tryz.func18, Tryz.ntmps18
 go_wp2
 go_loopg [3, 8] k (fun kq v3 v8 w' => ∃ (x3_1 : List Int) (x8_1 : Int), v8 = .int .i64 x8_1 ∧ Aside0 (palletlaw13_timers.l0 kq x3_1 l0 (l0.length : Int) x8_1 = some r) ∧ Aside0 (kq ≤ k) ∧ Aside0 (Kd.R (Kd.int .i64) 2 w' w.heap.size (fun _ => True) v3 x3_1) ∧ Aside0 (Below w.heap.size w w'))
 case atStart => exact ⟨(([] : List Int)), (0), (by first | rfl | (simp; done) | (simp [*]; done)), H', ⟨Nat.le_refl _⟩, ⟨by first | exact Kd.R_nil _ _ _ _ _ | exact Kd.N_nil _ _ _ _ _ | exact Kd.V_nil _ _ _ _ _ | exact Kd.Q_nil _ _ _ _ _ | exact Kd.S_nil _ _ _ _ _⟩, ⟨bse HB⟩⟩
 case round =>
  clear H'
  try clear c1
  obtain ⟨x3_1, x8_1, rfl, HA, HK1, HO_3, HB⟩ := hrel
  cases gk with
  | zero => exact absurd HA.out (by simp [palletlaw13_timers.l0])
  | succ k1 =>
   have H := HA.out
   clear HA
   simp only [palletlaw13_timers.l0] at H
   by_cases c2 : x8_1 < (l0.length : Int)
   ·rw [if_pos c2] at H
    have c2b0 : decide (x8_1 < (l0.length : Int)) = true := decide_eq_true c2
    clear c2
    by_cases c3 : 0 ≤ x8_1
    ·rw [if_pos c3] at H
     have c3b0 : decide (0 ≤ x8_1) = true := decide_eq_true c3
     clear c3
     by_cases c4 : x8_1 < (l0.length : Int)
     ·rw [if_pos c4] at H
      have c4b0 : decide (x8_1 < (l0.length : Int)) = true := decide_eq_true c4
      clear c4
      by_cases c5 : ((rd_T66 l0 x8_1).f0) = 1
      ·rw [if_pos c5] at H
       have c5b0 : (((rd_T66 l0 x8_1).f0) == 1) = true := beq_iff_eq.mpr c5
       have c5b1 : (((rd_T66 l0 x8_1).f0) != 1) = false := bne_eq_false_iff_eq.mpr c5
       clear c5
       by_cases c6 : x3_1.length < 17592186044416
       ·rw [if_pos c6] at H
        have LMc6 := asd c6
        clear c6
        obtain ⟨y681, hy681⟩ : ∃ y_ : List Int, y_ = (x3_1 ++ [(rd_T66 l0 x8_1).f1]) := ⟨_, rfl⟩
        replace H : (palletlaw13_timers.l0 k1 y681 l0 (l0.length : Int) (wrap64 (x8_1 + 1))) = some r := by first | (rw [hy681]; with_reducible exact H) | (have H2_ := (Option.bind_some _ _).symm.trans H; rw [hy681]; with_reducible exact H2_) | (have H2_ := (Option.bind_some _ _).symm.trans H; with_reducible exact H2_) | with_reducible exact H | (rw [hy681]; exact H) | exact H
        have Ny681 := asd hy681
        clear hy681
        have H' := asd H
        clear H
        have p679 : 0 ≤ (x8_1 : Int) := of_decide_eq_true (by first | (with_reducible assumption) | assumption)
        have q679 : x8_1 < (l0.length : Int) := of_decide_eq_true (by first | (with_reducible assumption) | assumption)
        obtain ⟨ad679, e679, hx679_0, hx679_1, hx679_2, hx679_3, hx679_4, hx679_5, hx679_6, hx679_7⟩ := at_T66 HR0.out x8_1 p679 q679
        cases e679
        replace hx679_0 := (HB.out.cell (World.block_lt_of_cell? w _ hx679_0)).trans hx679_0
        replace hx679_1 := (HB.out.cell (World.block_lt_of_cell? w _ hx679_1)).trans hx679_1
        replace hx679_2 := (HB.out.cell (World.block_lt_of_cell? w _ hx679_2)).trans hx679_2
        replace hx679_3 := (HB.out.cell (World.block_lt_of_cell? w _ hx679_3)).trans hx679_3
        replace hx679_4 := (HB.out.cell (World.block_lt_of_cell? w _ hx679_4)).trans hx679_4
        replace hx679_5 := (HB.out.cell (World.block_lt_of_cell? w _ hx679_5)).trans hx679_5
        replace hx679_6 := (HB.out.cell (World.block_lt_of_cell? w _ hx679_6)).trans hx679_6
        replace hx679_7 := (HB.out.cell (World.block_lt_of_cell? w _ hx679_7)).trans hx679_7
        replace p679 := eq_true p679
        replace q679 := eq_true q679
        go_wp2_with (first | ((with_reducible refine gate_dst (N := 5) rfl ?_); refine bx (N := 5) (cs := #[.int .i64 0, .int .i64 0, .int .i64 0, .int .i64 0, .int .u64 0, .int .u16 0, .int .i64 0, .int .i64 0]) (t := 66) ?_; intro gb680 hg w7 hbox hb; have BK680 := asd (hbox); have GW680 := bz HB hg; have GE680 := bz HB hg; replace HO_3 := rb HO_3 hb; replace HB := bs HB hb; clear hb hbox hg; have hcz8_0 : w7.cell? ⟨gb680, 0, none⟩ = some (.int .i64 0) := (blk_cell BK680.out 0).trans rfl; have hcz8_1 : w7.cell? ⟨gb680, 1, none⟩ = some (.int .i64 0) := (blk_cell BK680.out 1).trans rfl; have hcz8_2 : w7.cell? ⟨gb680, 2, none⟩ = some (.int .i64 0) := (blk_cell BK680.out 2).trans rfl; have hcz8_3 : w7.cell? ⟨gb680, 3, none⟩ = some (.int .i64 0) := (blk_cell BK680.out 3).trans rfl; have hcz8_4 : w7.cell? ⟨gb680, 4, none⟩ = some (.int .u64 0) := (blk_cell BK680.out 4).trans rfl; have hcz8_5 : w7.cell? ⟨gb680, 5, none⟩ = some (.int .u16 0) := (blk_cell BK680.out 5).trans rfl; have hcz8_6 : w7.cell? ⟨gb680, 6, none⟩ = some (.int .i64 0) := (blk_cell BK680.out 6).trans rfl; have hcz8_7 : w7.cell? ⟨gb680, 7, none⟩ = some (.int .i64 0) := (blk_cell BK680.out 7).trans rfl; have hfz8_0 := blk_frozen BK680.out 0; have hfz8_1 := blk_frozen BK680.out 1; have hfz8_2 := blk_frozen BK680.out 2; have hfz8_3 := blk_frozen BK680.out 3; have hfz8_4 := blk_frozen BK680.out 4; have hfz8_5 := blk_frozen BK680.out 5; have hfz8_6 := blk_frozen BK680.out 6; have hfz8_7 := blk_frozen BK680.out 7) | ((with_reducible refine gate_builtin (b := .append) (xs := #[.tmp 15, .tmp 18]) rfl ?_); at_builtin; refine Kd.R_append (Kd.int .i64) (w0 := w) w.heap.size rfl (.tmp 15) (.tmp 18) 30 2 (.int .i64 0) 8 rfl Tryz.underlying30 info2 rfl (by decide) (by omega) u3 x3_1 ((rd_T66 l0 x8_1).f1) [.int .i64 ((rd_T66 l0 x8_1).f1)] (fun _ => True) (fun _ => False) rfl (by first | (go_simp; done) | (go_simp; rfl)) ?aP (fun _ hk => hk.elim) ?aF ?aO ?aB ?aS ?aL ?_; (case aP => exact rfl); (case aB => exact (bse HB)); (case aF => exact (fun _ _ => trivial)); (case aO => exact (by (with_reducible repeat (first | apply Kd.R_alloc | apply Kd.R_drewN | apply Kd.R_drew)); exact Kd.R_mono (Kd.R_far (p := ⟨gb680, 7, none⟩) (Kd.R_far (p := ⟨gb680, 6, none⟩) (Kd.R_far (p := ⟨gb680, 5, none⟩) (Kd.R_far (p := ⟨gb680, 4, none⟩) (Kd.R_far (p := ⟨gb680, 3, none⟩) (Kd.R_far (p := ⟨gb680, 2, none⟩) (Kd.R_far (p := ⟨gb680, 1, none⟩) (Kd.R_far (p := ⟨gb680, 0, none⟩) (Kd.R_types HO_3.out BK680.out (by decide)) (fun _ hk => hk.2) (.int .i64 ((rd_T66 l0 x8_1).f0))) (fun _ hk => hk.2) (.int .i64 ((rd_T66 l0 x8_1).f1))) (fun _ hk => hk.2) (.int .i64 ((rd_T66 l0 x8_1).f2.f0))) (fun _ hk => hk.2) (.int .i64 ((rd_T66 l0 x8_1).f2.f1))) (fun _ hk => hk.2) (.int .u64 ((rd_T66 l0 x8_1).f2.f2))) (fun _ hk => hk.2) (.int .u16 ((rd_T66 l0 x8_1).f2.f3))) (fun _ hk => hk.2) (.int .i64 ((rd_T66 l0 x8_1).f3))) (fun _ hk => hk.2) (.int .i64 ((rd_T66 l0 x8_1).f4))) (fun _ hk => trivial))); (case aS => exact (below_size (bse HB))); (case aL => have := LMc6.out; omega); intro v682 w9 ho hb hg hat; rw [← Ny681.out] at ho; have n0_ := asd (blk_grown (g := gb680) (o := .cells #[.int .i64 ((rd_T66 l0 x8_1).f0), .int .i64 ((rd_T66 l0 x8_1).f1), .int .i64 ((rd_T66 l0 x8_1).f2.f0), .int .i64 ((rd_T66 l0 x8_1).f2.f1), .int .u64 ((rd_T66 l0 x8_1).f2.f2), .int .u16 ((rd_T66 l0 x8_1).f2.f3), .int .i64 ((rd_T66 l0 x8_1).f3), .int .i64 ((rd_T66 l0 x8_1).f4)] 66 (0, 0)) (by (with_reducible repeat (first | refine blk_drewN ?_ _ | refine blk_drew ?_ | refine blk_alloc ?_ _)); refine blk_put (cs := #[.int .i64 ((rd_T66 l0 x8_1).f0), .int .i64 ((rd_T66 l0 x8_1).f1), .int .i64 ((rd_T66 l0 x8_1).f2.f0), .int .i64 ((rd_T66 l0 x8_1).f2.f1), .int .u64 ((rd_T66 l0 x8_1).f2.f2), .int .u16 ((rd_T66 l0 x8_1).f2.f3), .int .i64 ((rd_T66 l0 x8_1).f3), .int .i64 0]) ?_ 7 _ rfl; (with_reducible repeat (first | refine blk_drewN ?_ _ | refine blk_drew ?_ | refine blk_alloc ?_ _)); refine blk_put (cs := #[.int .i64 ((rd_T66 l0 x8_1).f0), .int .i64 ((rd_T66 l0 x8_1).f1), .int .i64 ((rd_T66 l0 x8_1).f2.f0), .int .i64 ((rd_T66 l0 x8_1).f2.f1), .int .u64 ((rd_T66 l0 x8_1).f2.f2), .int .u16 ((rd_T66 l0 x8_1).f2.f3), .int .i64 0, .int .i64 0]) ?_ 6 _ rfl; (with_reducible repeat (first | refine blk_drewN ?_ _ | refine blk_drew ?_ | refine blk_alloc ?_ _)); refine blk_put (cs := #[.int .i64 ((rd_T66 l0 x8_1).f0), .int .i64 ((rd_T66 l0 x8_1).f1), .int .i64 ((rd_T66 l0 x8_1).f2.f0), .int .i64 ((rd_T66 l0 x8_1).f2.f1), .int .u64 ((rd_T66 l0 x8_1).f2.f2), .int .u16 0, .int .i64 0, .int .i64 0]) ?_ 5 _ rfl; (with_reducible repeat (first | refine blk_drewN ?_ _ | refine blk_drew ?_ | refine blk_alloc ?_ _)); refine blk_put (cs := #[.int .i64 ((rd_T66 l0 x8_1).f0), .int .i64 ((rd_T66 l0 x8_1).f1), .int .i64 ((rd_T66 l0 x8_1).f2.f0), .int .i64 ((rd_T66 l0 x8_1).f2.f1), .int .u64 0, .int .u16 0, .int .i64 0, .int .i64 0]) ?_ 4 _ rfl; (with_reducible repeat (first | refine blk_drewN ?_ _ | refine blk_drew ?_ | refine blk_alloc ?_ _)); refine blk_put (cs := #[.int .i64 ((rd_T66 l0 x8_1).f0), .int .i64 ((rd_T66 l0 x8_1).f1), .int .i64 ((rd_T66 l0 x8_1).f2.f0), .int .i64 0, .int .u64 0, .int .u16 0, .int .i64 0, .int .i64 0]) ?_ 3 _ rfl; (with_reducible repeat (first | refine blk_drewN ?_ _ | refine blk_drew ?_ | refine blk_alloc ?_ _)); refine blk_put (cs := #[.int .i64 ((rd_T66 l0 x8_1).f0), .int .i64 ((rd_T66 l0 x8_1).f1), .int .i64 0, .int .i64 0, .int .u64 0, .int .u16 0, .int .i64 0, .int .i64 0]) ?_ 2 _ rfl; (with_reducible repeat (first | refine blk_drewN ?_ _ | refine blk_drew ?_ | refine blk_alloc ?_ _)); refine blk_put (cs := #[.int .i64 ((rd_T66 l0 x8_1).f0), .int .i64 0, .int .i64 0, .int .i64 0, .int .u64 0, .int .u16 0, .int .i64 0, .int .i64 0]) ?_ 1 _ rfl; (with_reducible repeat (first | refine blk_drewN ?_ _ | refine blk_drew ?_ | refine blk_alloc ?_ _)); refine blk_put (cs := #[.int .i64 0, .int .i64 0, .int .i64 0, .int .i64 0, .int .u64 0, .int .u16 0, .int .i64 0, .int .i64 0]) ?_ 0 _ rfl; (with_reducible repeat (first | refine blk_drewN ?_ _ | refine blk_drew ?_ | refine blk_alloc ?_ _)); exact BK680.out) hg (Kd.R_ne HO_3.out BK680.out (by decide))); have n1_ := asd (hb); have n2_ := asd (ho); clear BK680 HB HO_3; have BK680 := n0_; have HB := n1_; have HO683 := n2_; clear n0_ n1_ n2_ ho hb hg hat))
        go_roundg k1
        case measure => have := HK1.out; omega
        case rel => exact ⟨(y681), (wrap64 (x8_1 + 1)), (by first | rfl | (simp; done) | (simp [*]; done)), H', ⟨by have := HK1.out; omega⟩, re HO683, ⟨bse HB⟩⟩
       ·rw [if_neg c6] at H
        exact absurd H (by simp)
      ·rw [if_neg c5] at H
       have c5b0 : (((rd_T66 l0 x8_1).f0) == 1) = false := beq_eq_false_iff_ne.mpr c5
       have c5b1 : (((rd_T66 l0 x8_1).f0) != 1) = true := bne_iff_ne.mpr c5
       have H' := asd H
       clear H
       have p679 : 0 ≤ (x8_1 : Int) := of_decide_eq_true (by first | (with_reducible assumption) | assumption)
       have q679 : x8_1 < (l0.length : Int) := of_decide_eq_true (by first | (with_reducible assumption) | assumption)
       obtain ⟨ad679, e679, hx679_0, hx679_1, hx679_2, hx679_3, hx679_4, hx679_5, hx679_6, hx679_7⟩ := at_T66 HR0.out x8_1 p679 q679
       cases e679
       replace hx679_0 := (HB.out.cell (World.block_lt_of_cell? w _ hx679_0)).trans hx679_0
       replace hx679_1 := (HB.out.cell (World.block_lt_of_cell? w _ hx679_1)).trans hx679_1
       replace hx679_2 := (HB.out.cell (World.block_lt_of_cell? w _ hx679_2)).trans hx679_2
       replace hx679_3 := (HB.out.cell (World.block_lt_of_cell? w _ hx679_3)).trans hx679_3
       replace hx679_4 := (HB.out.cell (World.block_lt_of_cell? w _ hx679_4)).trans hx679_4
       replace hx679_5 := (HB.out.cell (World.block_lt_of_cell? w _ hx679_5)).trans hx679_5
       replace hx679_6 := (HB.out.cell (World.block_lt_of_cell? w _ hx679_6)).trans hx679_6
       replace hx679_7 := (HB.out.cell (World.block_lt_of_cell? w _ hx679_7)).trans hx679_7
       replace p679 := eq_true p679
       replace q679 := eq_true q679
       go_wp2_with (first | ((with_reducible refine gate_dst (N := 5) rfl ?_); refine bx (N := 5) (cs := #[.int .i64 0, .int .i64 0, .int .i64 0, .int .i64 0, .int .u64 0, .int .u16 0, .int .i64 0, .int .i64 0]) (t := 66) ?_; intro gb680 hg w10 hbox hb; have BK680 := asd (hbox); have GW680 := bz HB hg; have GE680 := bz HB hg; replace HO_3 := rb HO_3 hb; replace HB := bs HB hb; clear hb hbox hg; have hcz11_0 : w10.cell? ⟨gb680, 0, none⟩ = some (.int .i64 0) := (blk_cell BK680.out 0).trans rfl; have hcz11_1 : w10.cell? ⟨gb680, 1, none⟩ = some (.int .i64 0) := (blk_cell BK680.out 1).trans rfl; have hcz11_2 : w10.cell? ⟨gb680, 2, none⟩ = some (.int .i64 0) := (blk_cell BK680.out 2).trans rfl; have hcz11_3 : w10.cell? ⟨gb680, 3, none⟩ = some (.int .i64 0) := (blk_cell BK680.out 3).trans rfl; have hcz11_4 : w10.cell? ⟨gb680, 4, none⟩ = some (.int .u64 0) := (blk_cell BK680.out 4).trans rfl; have hcz11_5 : w10.cell? ⟨gb680, 5, none⟩ = some (.int .u16 0) := (blk_cell BK680.out 5).trans rfl; have hcz11_6 : w10.cell? ⟨gb680, 6, none⟩ = some (.int .i64 0) := (blk_cell BK680.out 6).trans rfl; have hcz11_7 : w10.cell? ⟨gb680, 7, none⟩ = some (.int .i64 0) := (blk_cell BK680.out 7).trans rfl; have hfz11_0 := blk_frozen BK680.out 0; have hfz11_1 := blk_frozen BK680.out 1; have hfz11_2 := blk_frozen BK680.out 2; have hfz11_3 := blk_frozen BK680.out 3; have hfz11_4 := blk_frozen BK680.out 4; have hfz11_5 := blk_frozen BK680.out 5; have hfz11_6 := blk_frozen BK680.out 6; have hfz11_7 := blk_frozen BK680.out 7))
       go_roundg k1
       case measure => have := HK1.out; omega
       case rel => exact ⟨(x3_1), (wrap64 (x8_1 + 1)), (by first | rfl | (simp; done) | (simp [*]; done)), H', ⟨by have := HK1.out; omega⟩, ⟨by (with_reducible repeat (first | apply Kd.R_alloc | apply Kd.R_drewN | apply Kd.R_drew)); exact Kd.R_mono (Kd.R_far (p := ⟨gb680, 7, none⟩) (Kd.R_far (p := ⟨gb680, 6, none⟩) (Kd.R_far (p := ⟨gb680, 5, none⟩) (Kd.R_far (p := ⟨gb680, 4, none⟩) (Kd.R_far (p := ⟨gb680, 3, none⟩) (Kd.R_far (p := ⟨gb680, 2, none⟩) (Kd.R_far (p := ⟨gb680, 1, none⟩) (Kd.R_far (p := ⟨gb680, 0, none⟩) (Kd.R_types HO_3.out BK680.out (by decide)) (fun _ hk => hk.2) (.int .i64 ((rd_T66 l0 x8_1).f0))) (fun _ hk => hk.2) (.int .i64 ((rd_T66 l0 x8_1).f1))) (fun _ hk => hk.2) (.int .i64 ((rd_T66 l0 x8_1).f2.f0))) (fun _ hk => hk.2) (.int .i64 ((rd_T66 l0 x8_1).f2.f1))) (fun _ hk => hk.2) (.int .u64 ((rd_T66 l0 x8_1).f2.f2))) (fun _ hk => hk.2) (.int .u16 ((rd_T66 l0 x8_1).f2.f3))) (fun _ hk => hk.2) (.int .i64 ((rd_T66 l0 x8_1).f3))) (fun _ hk => hk.2) (.int .i64 ((rd_T66 l0 x8_1).f4))) (fun _ hk => trivial)⟩, ⟨bse HB⟩⟩
     ·rw [if_neg c4] at H
      exact absurd H (by simp)
    ·rw [if_neg c3] at H
     exact absurd H (by simp)
   ·rw [if_neg c2] at H
    have c2b0 : decide (x8_1 < (l0.length : Int)) = false := decide_eq_false c2
    clear c2
    obtain rfl := Option.some.inj H
    go_wp2
    go_ret
    exact ⟨_, by first | rfl | (simp [errW_none, errW_some] <;> rfl) | (simp [*, errW_none, errW_some] <;> rfl), by (with_reducible repeat (first | apply Kd.R_alloc | apply Kd.R_drewN | apply Kd.R_drew)); exact HO_3.out, bse HB⟩

end Go.Proofs.YtcofclkgfandfaaGreat.Print
