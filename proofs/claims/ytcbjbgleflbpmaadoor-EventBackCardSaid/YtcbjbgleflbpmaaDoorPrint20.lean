-- PRINTED by print.py (a twelfth state) out of the translation. Not trusted: Lean checks it.
import Derived.Test.YtcbjbgleflbpmaaDoorPrint0
import Derived.Test.YtcbjbgleflbpmaaDoorPrint1
import Derived.Test.YtcbjbgleflbpmaaDoorPrint12
import Derived.Test.YtcbjbgleflbpmaaDoorPrint17
import Derived.Test.YtcbjbgleflbpmaaDoorPrint18
import Derived.Test.YtcbjbgleflbpmaaDoorPrint19
namespace Go.Proofs.YtcbjbgleflbpmaaDoor.Print
open Go.RowKit Go.Proofs.YtcbjbgleflbpmaaDoorW.PrintWords Go.Proofs.YtcbjbgleflbpmaaDoorW.PrintLast Go.Proofs.YtcbjbgleflbpmaaDoorW.PrintMore Go.Proofs.YtcbjbgleflbpmaaDoorX
attribute [local go_sem] str_lss str_geq max2_int min2_int max_two min_two max_three min_three max_four min_four   -- for this text's walks alone
set_option linter.unusedVariables false
set_option linter.unusedSimpArgs false

attribute [local go_sem high] eqA30
/-! ### palletref19_Encode: function 17 -/
def palletref19_Encode.l0 : Nat → List Int → List (S30) → Int → Int → Option (List Int × Int)
 | 0, _, _, _, _ => none
 | k + 1, x5, x21, x22, x23 => if x23 < x22 then (if 0 ≤ x23 then (if x23 < (x21.length : Int) then ((palletref19_Write.f k ((rd_T30 x21 x23).f0) ((rd_T30 x21 x23).f1) ((rd_T30 x21 x23).f2) ((rd_T30 x21 x23).f3) ((rd_T30 x21 x23).f4)).bind fun bt379 => (if x5.length + bt379.1.length < 140737488355328 then (palletref19_Encode.l0 k (x5 ++ bt379.1) x21 x22 (wrap64 (x23 + 1))) else (none))) else (none)) else (none)) else ((palletref03_Seal32.f k x5).bind fun bt386 => (some (bt386.1, bt386.2)))
def palletref19_Encode.f (k : Nat) (l0 : List (S30)) : Option (List Int × Int) := (palletref19_Check.f k l0).bind fun t367 => (if t367 = 0 then ((palletref02_Vary.f k (([80, 76, 84, 76, 1] : List Int)) (([IntKind.u64.wrap ((l0.length : Int))] : List Int))).bind fun t374 => (palletref19_Encode.l0 k t374 l0 (l0.length : Int) 0)) else (some (([] : List Int), t367)))
theorem palletref19_Encode.mono_l : ∀ k, (∀ y0 y1 y2 y3, LeO (palletref19_Encode.l0 k y0 y1 y2 y3) (palletref19_Encode.l0 (k + 1) y0 y1 y2 y3))
 | 0 => fun _ _ _ _ r h => by simp [palletref19_Encode.l0] at h
 | k + 1 => by
  have ih0 := palletref19_Encode.mono_l k
  ·intro y0 y1 y2 y3
   unfold palletref19_Encode.l0
   repeat' first
   | (with_reducible exact ih0 _ _ _ _)
   | (with_reducible exact palletref02_Vary.mono _ _ _)
   | (with_reducible exact palletref03_Seal32.mono _ _)
   | (with_reducible exact palletref19_Check.mono _ _)
   | (with_reducible exact palletref19_Write.mono _ _ _ _ _ _)
   | (with_reducible exact LeO.refl _)
   | (with_reducible exact LeO.none _)
   | (with_reducible refine LeO.ite ?_ ?_)
   | (with_reducible refine LeO.bind ?_ (fun _ => ?_))
   | exact ih0 _ _ _ _
   | exact palletref02_Vary.mono _ _ _
   | exact palletref03_Seal32.mono _ _
   | exact palletref19_Check.mono _ _
   | exact palletref19_Write.mono _ _ _ _ _ _
   | exact LeO.none _
   | refine LeO.ite ?_ ?_
   | refine LeO.bind ?_ (fun _ => ?_)
theorem palletref19_Encode.mono : ∀ a0 k, LeO (palletref19_Encode.f k a0) (palletref19_Encode.f (k + 1) a0) := by
 intro a0 k
 have ih0 := palletref19_Encode.mono_l k
 unfold palletref19_Encode.f
 repeat' first
   | (with_reducible exact ih0 _ _ _ _)
   | (with_reducible exact palletref02_Vary.mono _ _ _)
   | (with_reducible exact palletref03_Seal32.mono _ _)
   | (with_reducible exact palletref19_Check.mono _ _)
   | (with_reducible exact palletref19_Write.mono _ _ _ _ _ _)
   | (with_reducible exact LeO.refl _)
   | (with_reducible exact LeO.none _)
   | (with_reducible refine LeO.ite ?_ ?_)
   | (with_reducible refine LeO.bind ?_ (fun _ => ?_))
   | exact ih0 _ _ _ _
   | exact palletref02_Vary.mono _ _ _
   | exact palletref03_Seal32.mono _ _
   | exact palletref19_Check.mono _ _
   | exact palletref19_Write.mono _ _ _ _ _ _
   | exact LeO.none _
   | refine LeO.ite ?_ ?_
   | refine LeO.bind ?_ (fun _ => ?_)
set_option maxHeartbeats 8000000 in
set_option maxRecDepth 100000 in
theorem palletref19_Encode.calls (k : Nat) (A0 : Option Addr) (c0 : Nat) (l0 : List (S30)) (r1 : List Int) (r2 : Int) (w : World) (hr0 : Kd.C k30 w A0 l0.length l0) (hc0 : l0.length ≤ c0) (h : palletref19_Encode.f k l0 = some (r1, r2)) :
  Calls Tryd.prog 17 #[.slice A0 l0.length c0] w fun e w' => ∃ v0_ : Value, e = .returned (.tuple #[v0_, .int .i64 r2]) ∧ Kd.R (Kd.int .u8) 5 w' w.heap.size (fun _ => True) v0_ r1 ∧ Below w.heap.size w w' := by
 have hu30 := Tryd.underlying30
 have HR0 := Aside0.mk hr0
 have HC0 := Aside0.mk hc0
 clear hr0 hc0
 have HB := Aside0.mk (Below.refl w.heap.size w)
 have H : ((palletref19_Check.f k l0).bind fun t367 => (if t367 = 0 then ((palletref02_Vary.f k (([80, 76, 84, 76, 1] : List Int)) (([IntKind.u64.wrap ((l0.length : Int))] : List Int))).bind fun t374 => (palletref19_Encode.l0 k t374 l0 (l0.length : Int) 0)) else (some (([] : List Int), t367)))) = some (r1, r2) := h
 clear h
 replace H := Option.bind_eq_some_iff.mp H
 obtain ⟨t367, A20, H⟩ := H
 replace H : (if t367 = 0 then ((palletref02_Vary.f k (([80, 76, 84, 76, 1] : List Int)) (([IntKind.u64.wrap ((l0.length : Int))] : List Int))).bind fun t374 => (palletref19_Encode.l0 k t374 l0 (l0.length : Int) 0)) else (some (([] : List Int), t367))) = some (r1, r2) := H
 have A2 := Aside0.mk A20
 clear A20
 by_cases c3 : t367 = 0
 ·rw [if_pos c3] at H
  have c3b0 : (t367 == 0) = true := beq_iff_eq.mpr c3
  have c3b1 : (t367 != 0) = false := bne_eq_false_iff_eq.mpr c3
  clear c3
  obtain ⟨y368, hy368⟩ : ∃ y_ : List Int, y_ = (([80, 76, 84, 76, 1] : List Int)) := ⟨_, rfl⟩
  replace H : ((palletref02_Vary.f k y368 (([IntKind.u64.wrap ((l0.length : Int))] : List Int))).bind fun t374 => (palletref19_Encode.l0 k t374 l0 (l0.length : Int) 0)) = some (r1, r2) := by first | (rw [hy368]; with_reducible exact H) | (have H2_ := (Option.bind_some _ _).symm.trans H; rw [hy368]; with_reducible exact H2_) | (have H2_ := (Option.bind_some _ _).symm.trans H; with_reducible exact H2_) | with_reducible exact H | (rw [hy368]; exact H) | exact H
  have Ny368 := Aside0.mk hy368
  clear hy368
  obtain ⟨y371, hy371⟩ : ∃ y_ : List Int, y_ = (([IntKind.u64.wrap ((l0.length : Int))] : List Int)) := ⟨_, rfl⟩
  replace H : ((palletref02_Vary.f k y368 y371).bind fun t374 => (palletref19_Encode.l0 k t374 l0 (l0.length : Int) 0)) = some (r1, r2) := by first | (rw [hy371]; with_reducible exact H) | (have H2_ := (Option.bind_some _ _).symm.trans H; rw [hy371]; with_reducible exact H2_) | (have H2_ := (Option.bind_some _ _).symm.trans H; with_reducible exact H2_) | with_reducible exact H | (rw [hy371]; exact H) | exact H
  have Ny371 := Aside0.mk hy371
  clear hy371
  replace H := Option.bind_eq_some_iff.mp H
  obtain ⟨t374, A40, H⟩ := H
  replace H : (palletref19_Encode.l0 k t374 l0 (l0.length : Int) 0) = some (r1, r2) := H
  have A4 := Aside0.mk A40
  clear A40
  have H' := Aside0.mk H
  clear H
  go_enter Tryd.func17, Tryd.ntmps17
  go_wp2_with (first | ((with_reducible refine gate_callee (f := 18) rfl ?_); refine goesL_ (some 11) rfl rfl Tryd.func18 (by kernel_rfl) rfl #[.slice A0 l0.length c0] rfl (by (try simp only [List.map_toArray, List.map_cons, List.map_nil]); first | done | rfl | (simp only [List.length_drop, List.length_take]; first | rfl | (rw [Nat.min_eq_left (Int.toNat_le.2 (of_decide_eq_true (by assumption)))]; rfl))) ?_; (with_reducible refine (palletref19_Check.calls k _ _ l0 t367 _ ?side1 ?side2 A2.out).mono ?_); (case side1 => repeat (first | exact HR0.out | (with_reducible refine Kd.C_alloc ?_ _) | (with_reducible refine Kd.C_drewN ?_ _) | (with_reducible refine Kd.C_drew ?_))); (case side2 => exact HC0.out); rintro e w5 ⟨rfl, hb⟩; refine ⟨_, rfl, ?_⟩; have n0_ := Aside0.mk (below_step (by repeat (first | (with_reducible first | exact HB.out | apply below_alloc | apply pw_below_drewN | apply below_drew1) | exact HB.out)) hb); clear HB; have HB := n0_; clear n0_; (try clear hb); (try clear hb2); (try clear hk); (try clear hi)) | ((with_reducible refine gate_dst (N := 15) rfl ?_); refine Kd.R_lit (Kd.int .u8) _ 5 ?hg (N := 15) ?hd (xs := ([80, 76, 84, 76, 1] : List Int)) (inner := [.int .u8 80, .int .u8 76, .int .u8 84, .int .u8 76, .int .u8 1]) (ok := fun _ => True) (okp := fun _ => True) ?hr ?hp (fun _ hk => hk) trivial (Below.refl _ _) (Nat.le_refl _) (by simp) ?_; (case hd => rfl); (case hg => rfl); (case hr => first | (go_simp; done) | (go_simp; rfl)); (case hp => exact (Reps.one (show Kd.M (Kd.int .u8) _ _ _ 80 [.int .u8 80] from rfl) (Reps.one (show Kd.M (Kd.int .u8) _ _ _ 76 [.int .u8 76] from rfl) (Reps.one (show Kd.M (Kd.int .u8) _ _ _ 84 [.int .u8 84] from rfl) (Reps.one (show Kd.M (Kd.int .u8) _ _ _ 76 [.int .u8 76] from rfl) (Reps.one (show Kd.M (Kd.int .u8) _ _ _ 1 [.int .u8 1] from rfl) (Reps.none _ _))))))); intro v369 w6 ho7 hb hg_ hnew_; clear hg_ hnew_; (first | rw [← Ny368.out] at ho7 | (simp only [Int.reduceToNat] at ho7; rw [← Ny368.out] at ho7)); have n0_ := Aside0.mk (Kd.R_lower ho7 (below_size (by repeat (first | (with_reducible first | exact HB.out | apply below_alloc | apply pw_below_drewN | apply below_drew1) | exact HB.out)))); have n1_ := Aside0.mk (below_step (by repeat (first | (with_reducible first | exact HB.out | apply below_alloc | apply pw_below_drewN | apply below_drew1) | exact HB.out)) hb); clear HB; have HO370 := n0_; have HB := n1_; clear n0_ n1_; clear hb ho7) | ((with_reducible refine gate_dst (N := 19) rfl ?_); refine Kd.R_lit (Kd.int .u64) _ 33 ?hg (N := 19) ?hd (xs := ([IntKind.u64.wrap ((l0.length : Int))] : List Int)) (inner := [.int .u64 (IntKind.u64.wrap ((l0.length : Int)))]) (ok := fun _ => True) (okp := fun _ => True) ?hr ?hp (fun _ hk => hk) trivial (Below.refl _ _) (Nat.le_refl _) (by simp) ?_; (case hd => rfl); (case hg => rfl); (case hr => first | (go_simp; done) | (go_simp; rfl)); (case hp => exact (Reps.one (show Kd.M (Kd.int .u64) _ _ _ (IntKind.u64.wrap ((l0.length : Int))) [.int .u64 (IntKind.u64.wrap ((l0.length : Int)))] from rfl) (Reps.none _ _))); intro v372 w8 ho9 hb hg_ hnew_; clear hg_ hnew_; (first | rw [← Ny371.out] at ho9 | (simp only [Int.reduceToNat] at ho9; rw [← Ny371.out] at ho9)); have n0_ := Aside0.mk (Kd.R_below (by (with_reducible repeat (first | apply Kd.R_alloc | apply Kd.R_drewN | apply Kd.R_drew)); first | exact HO370.out | exact Kd.R_mono HO370.out (fun _ _ => trivial)) hb); have n1_ := Aside0.mk (Kd.R_lower ho9 (below_size (by repeat (first | (with_reducible first | exact HB.out | apply below_alloc | apply pw_below_drewN | apply below_drew1) | exact HB.out)))); have n2_ := Aside0.mk (below_step (by repeat (first | (with_reducible first | exact HB.out | apply below_alloc | apply pw_below_drewN | apply below_drew1) | exact HB.out)) hb); clear HO370; clear HB; have HO370 := n0_; have HO373 := n1_; have HB := n2_; clear n0_ n1_ n2_; clear hb ho9; obtain ⟨Ao10, co10, eo10⟩ := Kd.R_slice HO370.out; subst eo10; obtain ⟨Ao11, co11, eo11⟩ := Kd.R_slice HO373.out; subst eo11) | ((with_reducible refine gate_callee (f := 14) rfl ?_); refine goesL_ (some 20) rfl rfl Tryd.func14 (by kernel_rfl) rfl #[.slice Ao10 y368.length co10, .slice Ao11 y371.length co11] rfl (by (try simp only [List.map_toArray, List.map_cons, List.map_nil]); first | done | rfl | (simp only [List.length_drop, List.length_take]; first | rfl | (rw [Nat.min_eq_left (Int.toNat_le.2 (of_decide_eq_true (by assumption)))]; rfl))) ?_; (with_reducible refine (palletref02_Vary.calls k _ _ y368 _ _ y371 t374 _ ?side1 ?side2 ?side3 ?side4 A4.out).mono ?_); (case side1 => repeat (first | exact (Kd.R_reads' HO370.out).2.2 | (with_reducible refine Kd.C_alloc ?_ _) | (with_reducible refine Kd.C_drewN ?_ _) | (with_reducible refine Kd.C_drew ?_))); (case side2 => exact (Kd.R_reads' HO370.out).2.1); (case side3 => repeat (first | exact (Kd.R_reads' HO373.out).2.2 | (with_reducible refine Kd.C_alloc ?_ _) | (with_reducible refine Kd.C_drewN ?_ _) | (with_reducible refine Kd.C_drew ?_))); (case side4 => exact (Kd.R_reads' HO373.out).2.1); rintro e w12 ⟨v375, rfl, ho0, hb⟩; refine ⟨_, rfl, ?_⟩; have n0_ := Aside0.mk (Kd.R_elder' (by (with_reducible repeat (first | apply Kd.R_alloc | apply Kd.R_drewN | apply Kd.R_drew)); first | exact HO370.out | exact Kd.R_mono HO370.out (fun _ _ => trivial)) (Kd.R_base ho0) hb); have n1_ := Aside0.mk (Kd.R_below (by (with_reducible repeat (first | apply Kd.R_alloc | apply Kd.R_drewN | apply Kd.R_drew)); first | exact HO373.out | exact Kd.R_mono HO373.out (fun _ _ => trivial)) hb); have n2_ := Aside0.mk (Kd.R_lower (Kd.R_new' ho0 (Kd.R_lt (by (with_reducible repeat (first | apply Kd.R_alloc | apply Kd.R_drewN | apply Kd.R_drew)); first | exact HO370.out | exact Kd.R_mono HO370.out (fun _ _ => trivial)))) (below_size (by repeat (first | (with_reducible first | exact HB.out | apply below_alloc | apply pw_below_drewN | apply below_drew1) | exact HB.out)))); have n3_ := Aside0.mk (below_step (by repeat (first | (with_reducible first | exact HB.out | apply below_alloc | apply pw_below_drewN | apply below_drew1) | exact HB.out)) hb); clear HO370; clear HO373; clear HB; have HO370 := n0_; have HO373 := n1_; have HO376 := n2_; have HB := n3_; clear n0_ n1_ n2_ n3_; (try clear hb); (try clear hb2); (try clear hk); (try clear hi); (try clear ho0)))
  go_loopg [5, 23] k (fun kq v5 v23 w' => ∃ (x5_1 : List Int) (x23_1 : Int), v23 = .int .i64 x23_1 ∧ Aside0 (palletref19_Encode.l0 kq x5_1 l0 (l0.length : Int) x23_1 = some (r1, r2)) ∧ Aside0 (kq ≤ k) ∧ Aside0 (Kd.R (Kd.int .u8) 5 w' w.heap.size (fun _ => True) v5 x5_1) ∧ Aside0 (Below w.heap.size w w'))
  case atStart => exact ⟨(t374), (0), (by first | rfl | (simp; done) | (simp [*]; done)), H', ⟨Nat.le_refl _⟩, ⟨by (with_reducible repeat (first | apply Kd.R_alloc | apply Kd.R_drewN | apply Kd.R_drew)); exact Kd.R_mono HO376.out (fun _ hk => trivial)⟩, ⟨by repeat (first | (with_reducible first | exact HB.out | apply below_alloc | apply pw_below_drewN | apply below_drew1) | exact HB.out)⟩⟩
  case round =>
   clear H'
   try clear c1
   try clear p2
   try clear c3
   try clear c3b0
   try clear c3b1
   obtain ⟨x5_1, x23_1, rfl, HA, HK1, HO_5, HB⟩ := hrel
   cases gk with
   | zero => exact absurd HA.out (by simp [palletref19_Encode.l0])
   | succ k1 =>
    have H := HA.out
    clear HA
    simp only [palletref19_Encode.l0] at H
    by_cases c13 : x23_1 < (l0.length : Int)
    ·rw [if_pos c13] at H
     have c13b0 : decide (x23_1 < (l0.length : Int)) = true := decide_eq_true c13
     clear c13
     by_cases c14 : 0 ≤ x23_1
     ·rw [if_pos c14] at H
      have c14b0 : decide (0 ≤ x23_1) = true := decide_eq_true c14
      clear c14
      by_cases c15 : x23_1 < (l0.length : Int)
      ·rw [if_pos c15] at H
       have c15b0 : decide (x23_1 < (l0.length : Int)) = true := decide_eq_true c15
       clear c15
       replace H := Option.bind_eq_some_iff.mp H
       obtain ⟨⟨t379, t382⟩, A160, H⟩ := H
       replace H : (if x5_1.length + t379.length < 140737488355328 then (palletref19_Encode.l0 k1 (x5_1 ++ t379) l0 (l0.length : Int) (wrap64 (x23_1 + 1))) else (none)) = some (r1, r2) := H
       have A16 := Aside0.mk A160
       clear A160
       by_cases c17 : x5_1.length + t379.length < 140737488355328
       ·rw [if_pos c17] at H
        have LMc17 := Aside0.mk c17
        clear c17
        obtain ⟨y383, hy383⟩ : ∃ y_ : List Int, y_ = (x5_1 ++ t379) := ⟨_, rfl⟩
        replace H : (palletref19_Encode.l0 k1 y383 l0 (l0.length : Int) (wrap64 (x23_1 + 1))) = some (r1, r2) := by first | (rw [hy383]; with_reducible exact H) | (have H2_ := (Option.bind_some _ _).symm.trans H; rw [hy383]; with_reducible exact H2_) | (have H2_ := (Option.bind_some _ _).symm.trans H; with_reducible exact H2_) | with_reducible exact H | (rw [hy383]; exact H) | exact H
        have Ny383 := Aside0.mk hy383
        clear hy383
        have H' := Aside0.mk H
        clear H
        have p377 : 0 ≤ (x23_1 : Int) := of_decide_eq_true (by first | (with_reducible assumption) | assumption)
        have q377 : x23_1 < (l0.length : Int) := of_decide_eq_true (by first | (with_reducible assumption) | assumption)
        obtain ⟨ad377, e377, hx377_0, hx377_1, hx377_2, hx377_3, hx377_4⟩ := at_T30 HR0.out x23_1 p377 q377
        cases e377
        replace hx377_0 := (HB.out.cell (World.block_lt_of_cell? w _ hx377_0)).trans hx377_0
        replace hx377_1 := (HB.out.cell (World.block_lt_of_cell? w _ hx377_1)).trans hx377_1
        replace hx377_2 := (HB.out.cell (World.block_lt_of_cell? w _ hx377_2)).trans hx377_2
        replace hx377_3 := (HB.out.cell (World.block_lt_of_cell? w _ hx377_3)).trans hx377_3
        replace hx377_4 := (HB.out.cell (World.block_lt_of_cell? w _ hx377_4)).trans hx377_4
        replace p377 := eq_true p377
        replace q377 := eq_true q377
        go_wp2_with (first | ((with_reducible refine gate_dst (N := 7) rfl ?_); refine box_event ?hg (N := 7) ?hd (cs := #[.int .i64 0, .int .i64 0, .int .i64 0, .int .i64 0, .int .i64 0]) (t := 30) ?hr ?_; (case hd => rfl); (case hg => rfl); (case hr => first | (go_simp; done) | (go_simp; rfl)); intro gb378 hg w18 hbox hb; have n0_ := Aside0.mk (Kd.R_below (by (with_reducible repeat (first | apply Kd.R_alloc | apply Kd.R_drewN | apply Kd.R_drew)); exact HO_5.out) hb); have n1_ := Aside0.mk (below_step (by repeat (first | (with_reducible first | exact HB.out | apply below_alloc | apply pw_below_drewN | apply below_drew1) | exact HB.out)) hb); have n2_ := Aside0.mk (hbox); have n3_ := Aside0.mk ((by rw [hg]; exact (below_size (by repeat (first | (with_reducible first | exact HB.out | apply below_alloc | apply pw_below_drewN | apply below_drew1) | exact HB.out))) : w.heap.size ≤ gb378)); have n4_ := Aside0.mk ((by rw [hg]; exact (below_size (by repeat (first | (with_reducible first | exact HB.out | apply below_alloc | apply pw_below_drewN | apply below_drew1) | exact HB.out))) : w.heap.size ≤ gb378)); clear HO_5; clear HB; have HO_5 := n0_; have HB := n1_; have BK378 := n2_; have GW378 := n3_; have GE378 := n4_; clear n0_ n1_ n2_ n3_ n4_; clear hb hbox hg; have hcz19_0 : w18.cell? ⟨gb378, 0, none⟩ = some (.int .i64 0) := (blk_cell BK378.out 0).trans rfl; have hcz19_1 : w18.cell? ⟨gb378, 1, none⟩ = some (.int .i64 0) := (blk_cell BK378.out 1).trans rfl; have hcz19_2 : w18.cell? ⟨gb378, 2, none⟩ = some (.int .i64 0) := (blk_cell BK378.out 2).trans rfl; have hcz19_3 : w18.cell? ⟨gb378, 3, none⟩ = some (.int .i64 0) := (blk_cell BK378.out 3).trans rfl; have hcz19_4 : w18.cell? ⟨gb378, 4, none⟩ = some (.int .i64 0) := (blk_cell BK378.out 4).trans rfl; have hfz19_0 := blk_frozen BK378.out 0; have hfz19_1 := blk_frozen BK378.out 1; have hfz19_2 := blk_frozen BK378.out 2; have hfz19_3 := blk_frozen BK378.out 3; have hfz19_4 := blk_frozen BK378.out 4) | ((with_reducible refine gate_callee (f := 16) rfl ?_); refine goesL_ (some 29) rfl rfl Tryd.func16 (by kernel_rfl) rfl #[.agg #[.int .i64 ((rd_T30 l0 x23_1).f0), .int .i64 ((rd_T30 l0 x23_1).f1), .int .i64 ((rd_T30 l0 x23_1).f2), .int .i64 ((rd_T30 l0 x23_1).f3), .int .i64 ((rd_T30 l0 x23_1).f4)]] rfl (by (try simp only [List.map_toArray, List.map_cons, List.map_nil]); first | done | rfl | (simp only [List.length_drop, List.length_take]; first | rfl | (rw [Nat.min_eq_left (Int.toNat_le.2 (of_decide_eq_true (by assumption)))]; rfl))) ?_; (with_reducible refine (palletref19_Write.calls k1 ((rd_T30 l0 x23_1).f0) ((rd_T30 l0 x23_1).f1) ((rd_T30 l0 x23_1).f2) ((rd_T30 l0 x23_1).f3) ((rd_T30 l0 x23_1).f4) t379 t382 _ A16.out).mono ?_); rintro e w20 ⟨v380, rfl, ho0, hb⟩; refine ⟨_, rfl, ?_⟩; have n0_ := Aside0.mk (Kd.R_elder' (by (with_reducible repeat (first | apply Kd.R_alloc | apply Kd.R_drewN | apply Kd.R_drew)); exact (Kd.R_mono (Kd.R_far (p := ⟨gb378, 4, none⟩) (Kd.R_far (p := ⟨gb378, 3, none⟩) (Kd.R_far (p := ⟨gb378, 2, none⟩) (Kd.R_far (p := ⟨gb378, 1, none⟩) (Kd.R_far (p := ⟨gb378, 0, none⟩) (Kd.R_types HO_5.out BK378.out (by decide)) (fun _ hk => hk.2) (.int .i64 ((rd_T30 l0 x23_1).f0))) (fun _ hk => hk.2) (.int .i64 ((rd_T30 l0 x23_1).f1))) (fun _ hk => hk.2) (.int .i64 ((rd_T30 l0 x23_1).f2))) (fun _ hk => hk.2) (.int .i64 ((rd_T30 l0 x23_1).f3))) (fun _ hk => hk.2) (.int .i64 ((rd_T30 l0 x23_1).f4))) (fun _ h_ => h_.1))) (Kd.R_base ho0) hb); have n1_ := Aside0.mk (Kd.R_lower (Kd.R_new' ho0 (Kd.R_lt (by (with_reducible repeat (first | apply Kd.R_alloc | apply Kd.R_drewN | apply Kd.R_drew)); exact (Kd.R_mono (Kd.R_far (p := ⟨gb378, 4, none⟩) (Kd.R_far (p := ⟨gb378, 3, none⟩) (Kd.R_far (p := ⟨gb378, 2, none⟩) (Kd.R_far (p := ⟨gb378, 1, none⟩) (Kd.R_far (p := ⟨gb378, 0, none⟩) (Kd.R_types HO_5.out BK378.out (by decide)) (fun _ hk => hk.2) (.int .i64 ((rd_T30 l0 x23_1).f0))) (fun _ hk => hk.2) (.int .i64 ((rd_T30 l0 x23_1).f1))) (fun _ hk => hk.2) (.int .i64 ((rd_T30 l0 x23_1).f2))) (fun _ hk => hk.2) (.int .i64 ((rd_T30 l0 x23_1).f3))) (fun _ hk => hk.2) (.int .i64 ((rd_T30 l0 x23_1).f4))) (fun _ h_ => h_.1))))) (below_size (by repeat (first | (with_reducible first | exact HB.out | apply below_alloc | apply pw_below_drewN | apply below_drew1 | refine below_set ?_ GE378.out) | exact HB.out)))); have n2_ := Aside0.mk (blk_below (g := gb378) (o := .cells #[.int .i64 ((rd_T30 l0 x23_1).f0), .int .i64 ((rd_T30 l0 x23_1).f1), .int .i64 ((rd_T30 l0 x23_1).f2), .int .i64 ((rd_T30 l0 x23_1).f3), .int .i64 ((rd_T30 l0 x23_1).f4)] 30 (0, 0)) (by (with_reducible repeat (first | refine blk_drewN ?_ _ | refine blk_drew ?_ | refine blk_alloc ?_ _)); refine blk_put (cs := #[.int .i64 ((rd_T30 l0 x23_1).f0), .int .i64 ((rd_T30 l0 x23_1).f1), .int .i64 ((rd_T30 l0 x23_1).f2), .int .i64 ((rd_T30 l0 x23_1).f3), .int .i64 0]) ?_ 4 _ rfl; (with_reducible repeat (first | refine blk_drewN ?_ _ | refine blk_drew ?_ | refine blk_alloc ?_ _)); refine blk_put (cs := #[.int .i64 ((rd_T30 l0 x23_1).f0), .int .i64 ((rd_T30 l0 x23_1).f1), .int .i64 ((rd_T30 l0 x23_1).f2), .int .i64 0, .int .i64 0]) ?_ 3 _ rfl; (with_reducible repeat (first | refine blk_drewN ?_ _ | refine blk_drew ?_ | refine blk_alloc ?_ _)); refine blk_put (cs := #[.int .i64 ((rd_T30 l0 x23_1).f0), .int .i64 ((rd_T30 l0 x23_1).f1), .int .i64 0, .int .i64 0, .int .i64 0]) ?_ 2 _ rfl; (with_reducible repeat (first | refine blk_drewN ?_ _ | refine blk_drew ?_ | refine blk_alloc ?_ _)); refine blk_put (cs := #[.int .i64 ((rd_T30 l0 x23_1).f0), .int .i64 0, .int .i64 0, .int .i64 0, .int .i64 0]) ?_ 1 _ rfl; (with_reducible repeat (first | refine blk_drewN ?_ _ | refine blk_drew ?_ | refine blk_alloc ?_ _)); refine blk_put (cs := #[.int .i64 0, .int .i64 0, .int .i64 0, .int .i64 0, .int .i64 0]) ?_ 0 _ rfl; (with_reducible repeat (first | refine blk_drewN ?_ _ | refine blk_drew ?_ | refine blk_alloc ?_ _)); exact BK378.out) hb); have n3_ := Aside0.mk (below_step (by repeat (first | (with_reducible first | exact HB.out | apply below_alloc | apply pw_below_drewN | apply below_drew1 | refine below_set ?_ GE378.out) | exact HB.out)) hb); clear HO_5; clear BK378; clear HB; have HO_5 := n0_; have HO381 := n1_; have BK378 := n2_; have HB := n3_; clear n0_ n1_ n2_ n3_; (try clear hb); (try clear hb2); (try clear hk); (try clear hi); (try clear ho0); obtain ⟨Ao22, co22, eo22⟩ := Kd.R_slice HO381.out; subst eo22) | ((with_reducible refine gate_builtin (b := .append) (xs := #[.tmp 32, .tmp 33]) rfl ?_); at_builtin; refine Kd.R_append_rows (Kd.int .u8) (w0 := w) w.heap.size rfl (.tmp 32) (.tmp 33) 26 5 (.int .u8 0) 1 rfl Tryd.underlying26 info5 rfl (by decide) (by omega) u5 x5_1 t379 _ _ _ (fun k_ => some k_ ≠ (.slice Ao22 t379.length co22 : Value).ownBlock) (fun _ => False) rfl rfl ?aO ?aR (fun _ _ h => h) (fun _ h => h.elim) ?aF ?aB ?aS ?aL ?_; (case aR => repeat (first | exact (Kd.R_reads' HO381.out).2.2 | (with_reducible refine Kd.C_alloc ?_ _) | (with_reducible refine Kd.C_drewN ?_ _) | (with_reducible refine Kd.C_drew ?_))); (case aB => exact (by repeat (first | (with_reducible first | exact HB.out | apply below_alloc | apply pw_below_drewN | apply below_drew1 | refine below_set ?_ GE378.out) | exact HB.out))); (case aF => exact (fun k_ hk => Kd.fresh' (Kd.R_lt (by (with_reducible repeat (first | apply Kd.R_alloc | apply Kd.R_drewN | apply Kd.R_drew)); first | exact HO381.out | exact Kd.R_mono HO381.out (fun _ _ => trivial))) k_ hk)); (case aO => exact (by (with_reducible repeat (first | apply Kd.R_alloc | apply Kd.R_drewN | apply Kd.R_drew)); exact Kd.R_mono HO_5.out (fun _ hk => hk.2))); (case aS => exact (below_size (by repeat (first | (with_reducible first | exact HB.out | apply below_alloc | apply pw_below_drewN | apply below_drew1 | refine below_set ?_ GE378.out) | exact HB.out)))); (case aL => have := LMc17.out; omega); intro v384 w21 ho hb hg hat; rw [← Ny383.out] at ho; have n0_ := Aside0.mk (blk_grown (g := gb378) (o := .cells #[.int .i64 ((rd_T30 l0 x23_1).f0), .int .i64 ((rd_T30 l0 x23_1).f1), .int .i64 ((rd_T30 l0 x23_1).f2), .int .i64 ((rd_T30 l0 x23_1).f3), .int .i64 ((rd_T30 l0 x23_1).f4)] 30 (0, 0)) (by (with_reducible repeat (first | refine blk_drewN ?_ _ | refine blk_drew ?_ | refine blk_alloc ?_ _)); exact BK378.out) hg (Kd.R_ne HO_5.out BK378.out (by decide))); have n1_ := Aside0.mk (Kd.R_after (ok := (fun _ => True)) (by (with_reducible repeat (first | apply Kd.R_alloc | apply Kd.R_drewN | apply Kd.R_drew)); first | exact HO381.out | exact Kd.R_mono HO381.out (fun _ _ => trivial)) hg hat); have n2_ := Aside0.mk (hb); have n3_ := Aside0.mk (ho); clear BK378; clear HO381; clear HB; clear HO_5; have BK378 := n0_; have HO381 := n1_; have HB := n2_; have HO385 := n3_; clear n0_ n1_ n2_ n3_; clear ho hb hg hat))
        go_roundg k1
        case measure => have := HK1.out; omega
        case rel => exact ⟨(y383), (wrap64 (x23_1 + 1)), (by first | rfl | (simp; done) | (simp [*]; done)), H', ⟨by have := HK1.out; omega⟩, ⟨by (with_reducible repeat (first | apply Kd.R_alloc | apply Kd.R_drewN | apply Kd.R_drew)); exact Kd.R_mono HO385.out (fun _ hk => trivial)⟩, ⟨by repeat (first | (with_reducible first | exact HB.out | apply below_alloc | apply pw_below_drewN | apply below_drew1 | refine below_set ?_ GE378.out) | exact HB.out)⟩⟩
       ·rw [if_neg c17] at H
        exact absurd H (by simp)
      ·rw [if_neg c15] at H
       exact absurd H (by simp)
     ·rw [if_neg c14] at H
      exact absurd H (by simp)
    ·rw [if_neg c13] at H
     have c13b0 : decide (x23_1 < (l0.length : Int)) = false := decide_eq_false c13
     clear c13
     replace H := Option.bind_eq_some_iff.mp H
     obtain ⟨⟨t386, t387⟩, A230, H⟩ := H
     replace H : (some (t386, t387)) = some (r1, r2) := H
     have A23 := Aside0.mk A230
     clear A230
     simp only [Option.some.injEq, Prod.mk.injEq] at H
     obtain ⟨rfl, rfl⟩ := H
     obtain ⟨Ao24, co24, eo24⟩ := Kd.R_slice HO_5.out
     subst eo24
     go_wp2_with (first | ((with_reducible refine gate_callee (f := 41) rfl ?_); refine goesL_ (some 37) rfl rfl Tryd.func41 (by kernel_rfl) rfl #[.slice Ao24 x5_1.length co24] rfl (by (try simp only [List.map_toArray, List.map_cons, List.map_nil]); first | done | rfl | (simp only [List.length_drop, List.length_take]; first | rfl | (rw [Nat.min_eq_left (Int.toNat_le.2 (of_decide_eq_true (by assumption)))]; rfl))) ?_; (with_reducible refine (palletref03_Seal32.calls k1 _ _ x5_1 t386 t387 _ ?side1 ?side2 A23.out).mono ?_); (case side1 => repeat (first | exact (Kd.R_reads' HO_5.out).2.2 | (with_reducible refine Kd.C_alloc ?_ _) | (with_reducible refine Kd.C_drewN ?_ _) | (with_reducible refine Kd.C_drew ?_))); (case side2 => exact (Kd.R_reads' HO_5.out).2.1); rintro e w25 ⟨v388, rfl, ho0, hb⟩; refine ⟨_, rfl, ?_⟩; have n0_ := Aside0.mk (Kd.R_elder' (by (with_reducible repeat (first | apply Kd.R_alloc | apply Kd.R_drewN | apply Kd.R_drew)); exact HO_5.out) (Kd.R_base ho0) hb); have n1_ := Aside0.mk (Kd.R_lower (Kd.R_new' ho0 (Kd.R_lt (by (with_reducible repeat (first | apply Kd.R_alloc | apply Kd.R_drewN | apply Kd.R_drew)); exact HO_5.out))) (below_size (by repeat (first | (with_reducible first | exact HB.out | apply below_alloc | apply pw_below_drewN | apply below_drew1) | exact HB.out)))); have n2_ := Aside0.mk (below_step (by repeat (first | (with_reducible first | exact HB.out | apply below_alloc | apply pw_below_drewN | apply below_drew1) | exact HB.out)) hb); clear HO_5; clear HB; have HO_5 := n0_; have HO389 := n1_; have HB := n2_; clear n0_ n1_ n2_; (try clear hb); (try clear hb2); (try clear hk); (try clear hi); (try clear ho0)))
     go_ret2
     exact ⟨_, by first | rfl | (simp [errW_none, errW_some] <;> rfl) | (simp [*, errW_none, errW_some] <;> rfl), by (with_reducible repeat (first | apply Kd.R_alloc | apply Kd.R_drewN | apply Kd.R_drew)); exact Kd.R_mono HO389.out (fun _ hk => trivial), by repeat (first | (with_reducible first | exact HB.out | apply below_alloc | apply pw_below_drewN | apply below_drew1) | exact HB.out)⟩
 ·rw [if_neg c3] at H
  have c3b0 : (t367 == 0) = false := beq_eq_false_iff_ne.mpr c3
  have c3b1 : (t367 != 0) = true := bne_iff_ne.mpr c3
  simp only [Option.some.injEq, Prod.mk.injEq] at H
  obtain ⟨rfl, rfl⟩ := H
  go_enter Tryd.func17, Tryd.ntmps17
  go_wp2_with (first | ((with_reducible refine gate_callee (f := 18) rfl ?_); refine goesL_ (some 11) rfl rfl Tryd.func18 (by kernel_rfl) rfl #[.slice A0 l0.length c0] rfl (by (try simp only [List.map_toArray, List.map_cons, List.map_nil]); first | done | rfl | (simp only [List.length_drop, List.length_take]; first | rfl | (rw [Nat.min_eq_left (Int.toNat_le.2 (of_decide_eq_true (by assumption)))]; rfl))) ?_; (with_reducible refine (palletref19_Check.calls k _ _ l0 t367 _ ?side1 ?side2 A2.out).mono ?_); (case side1 => repeat (first | exact HR0.out | (with_reducible refine Kd.C_alloc ?_ _) | (with_reducible refine Kd.C_drewN ?_ _) | (with_reducible refine Kd.C_drew ?_))); (case side2 => exact HC0.out); rintro e w26 ⟨rfl, hb⟩; refine ⟨_, rfl, ?_⟩; have n0_ := Aside0.mk (below_step (by repeat (first | (with_reducible first | exact HB.out | apply below_alloc | apply pw_below_drewN | apply below_drew1) | exact HB.out)) hb); clear HB; have HB := n0_; clear n0_; (try clear hb); (try clear hb2); (try clear hk); (try clear hi)))
  go_ret2
  exact ⟨_, by first | rfl | (simp [errW_none, errW_some] <;> rfl) | (simp [*, errW_none, errW_some] <;> rfl), by first | exact Kd.R_nil _ _ _ _ _ | exact Kd.N_nil _ _ _ _ _ | exact Kd.V_nil _ _ _ _ _ | exact Kd.Q_nil _ _ _ _ _ | exact Kd.S_nil _ _ _ _ _, by repeat (first | (with_reducible first | exact HB.out | apply below_alloc | apply pw_below_drewN | apply below_drew1) | exact HB.out)⟩

/-! ### slices_Equal_api_Event_api_Event: function 42 -/
def slices_Equal_api_Event_api_Event.l0 : Nat → List (S30) → List (S30) → Int → Int → Option (Bool)
 | 0, _, _, _, _ => none
 | k + 1, x0, x1, x12, x13 => if x13 < x12 then (if 0 ≤ x13 then (if x13 < (x0.length : Int) then (if x13 < (x1.length : Int) then (if (!(((rd_T30 x0 x13).f0) == ((rd_T30 x1 x13).f0)) || (!(((rd_T30 x0 x13).f1) == ((rd_T30 x1 x13).f1)) || (!(((rd_T30 x0 x13).f2) == ((rd_T30 x1 x13).f2)) || (!(((rd_T30 x0 x13).f3) == ((rd_T30 x1 x13).f3)) || (!(((rd_T30 x0 x13).f4) == ((rd_T30 x1 x13).f4))))))) = true then (some false) else (slices_Equal_api_Event_api_Event.l0 k x0 x1 x12 (wrap64 (x13 + 1)))) else (none)) else (none)) else (none)) else (some true)
def slices_Equal_api_Event_api_Event.f (k : Nat) (l0 : List (S30)) (l1 : List (S30)) : Option (Bool) := if (l0.length : Int) = (l1.length : Int) then (slices_Equal_api_Event_api_Event.l0 k l0 l1 (l0.length : Int) 0) else (some false)
theorem slices_Equal_api_Event_api_Event.mono_l : ∀ k, (∀ y0 y1 y2 y3, LeO (slices_Equal_api_Event_api_Event.l0 k y0 y1 y2 y3) (slices_Equal_api_Event_api_Event.l0 (k + 1) y0 y1 y2 y3))
 | 0 => fun _ _ _ _ r h => by simp [slices_Equal_api_Event_api_Event.l0] at h
 | k + 1 => by
  have ih0 := slices_Equal_api_Event_api_Event.mono_l k
  ·intro y0 y1 y2 y3
   unfold slices_Equal_api_Event_api_Event.l0
   repeat' first
   | (with_reducible exact ih0 _ _ _ _)
   | (with_reducible exact LeO.refl _)
   | (with_reducible exact LeO.none _)
   | (with_reducible refine LeO.ite ?_ ?_)
   | (with_reducible refine LeO.bind ?_ (fun _ => ?_))
   | exact ih0 _ _ _ _
   | exact LeO.none _
   | refine LeO.ite ?_ ?_
   | refine LeO.bind ?_ (fun _ => ?_)
theorem slices_Equal_api_Event_api_Event.mono : ∀ a0 a1 k, LeO (slices_Equal_api_Event_api_Event.f k a0 a1) (slices_Equal_api_Event_api_Event.f (k + 1) a0 a1) := by
 intro a0 a1 k
 have ih0 := slices_Equal_api_Event_api_Event.mono_l k
 unfold slices_Equal_api_Event_api_Event.f
 repeat' first
   | (with_reducible exact ih0 _ _ _ _)
   | (with_reducible exact LeO.refl _)
   | (with_reducible exact LeO.none _)
   | (with_reducible refine LeO.ite ?_ ?_)
   | (with_reducible refine LeO.bind ?_ (fun _ => ?_))
   | exact ih0 _ _ _ _
   | exact LeO.none _
   | refine LeO.ite ?_ ?_
   | refine LeO.bind ?_ (fun _ => ?_)
set_option maxHeartbeats 8000000 in
set_option maxRecDepth 100000 in
theorem slices_Equal_api_Event_api_Event.calls (k : Nat) (A0 : Option Addr) (c0 : Nat) (l0 : List (S30)) (A1 : Option Addr) (c1 : Nat) (l1 : List (S30)) (r : Bool) (w : World) (hr0 : Kd.C k30 w A0 l0.length l0) (hc0 : l0.length ≤ c0) (hr1 : Kd.C k30 w A1 l1.length l1) (hc1 : l1.length ≤ c1) (h : slices_Equal_api_Event_api_Event.f k l0 l1 = some r) :
  Calls Tryd.prog 42 #[.slice A0 l0.length c0, .slice A1 l1.length c1] w fun e w' => e = .returned (.bool r) ∧ Drawn0 w w' := by
 have hu30 := Tryd.underlying30
 have HR0 := Aside0.mk hr0
 have HC0 := Aside0.mk hc0
 clear hr0 hc0
 have HR1 := Aside0.mk hr1
 have HC1 := Aside0.mk hc1
 clear hr1 hc1
 have H : (if (l0.length : Int) = (l1.length : Int) then (slices_Equal_api_Event_api_Event.l0 k l0 l1 (l0.length : Int) 0) else (some false)) = some r := h
 clear h
 by_cases c3 : (l0.length : Int) = (l1.length : Int)
 ·rw [if_pos c3] at H
  have c3b0 : ((l0.length : Int) == (l1.length : Int)) = true := beq_iff_eq.mpr c3
  have c3b1 : ((l0.length : Int) != (l1.length : Int)) = false := bne_eq_false_iff_eq.mpr c3
  have c3b2 : (l0.length == l1.length) = true := by first | simpa using c3 | (simp at c3 ⊢; omega)
  clear c3
  have H' := Aside0.mk H
  clear H
  go_enter Tryd.func42, Tryd.ntmps42
  go_wp2
  repeat (go_quiet (fail); try go_wp2)
  go_loopg [13] k (fun kq v13 w' => ∃ (x13_1 : Int), v13 = .int .i64 x13_1 ∧ Aside0 (slices_Equal_api_Event_api_Event.l0 kq l0 l1 (l0.length : Int) x13_1 = some r) ∧ Aside0 (kq ≤ k) ∧ Drawn0 w w')
  case atStart => exact ⟨(0), (by first | rfl | (simp; done) | (simp [*]; done)), H', ⟨Nat.le_refl _⟩, by repeat (first | exact Drawn0.refl _ | apply Drawn0.step)⟩
  case round =>
   clear H'
   try clear c1
   try clear p2
   try clear c3
   try clear c3b0
   try clear c3b1
   try clear c3b2
   obtain ⟨x13_1, rfl, HA, HK1, ⟨m1, rfl⟩⟩ := hrel
   cases gk with
   | zero => exact absurd HA.out (by simp [slices_Equal_api_Event_api_Event.l0])
   | succ k1 =>
    have H := HA.out
    clear HA
    simp only [slices_Equal_api_Event_api_Event.l0] at H
    by_cases c4 : x13_1 < (l0.length : Int)
    ·rw [if_pos c4] at H
     have c4b0 : decide (x13_1 < (l0.length : Int)) = true := decide_eq_true c4
     clear c4
     by_cases c5 : 0 ≤ x13_1
     ·rw [if_pos c5] at H
      have c5b0 : decide (0 ≤ x13_1) = true := decide_eq_true c5
      clear c5
      by_cases c6 : x13_1 < (l0.length : Int)
      ·rw [if_pos c6] at H
       have c6b0 : decide (x13_1 < (l0.length : Int)) = true := decide_eq_true c6
       clear c6
       by_cases c7 : x13_1 < (l1.length : Int)
       ·rw [if_pos c7] at H
        have c7b0 : decide (x13_1 < (l1.length : Int)) = true := decide_eq_true c7
        clear c7
        by_cases c8 : (!(((rd_T30 l0 x13_1).f0) == ((rd_T30 l1 x13_1).f0)) || (!(((rd_T30 l0 x13_1).f1) == ((rd_T30 l1 x13_1).f1)) || (!(((rd_T30 l0 x13_1).f2) == ((rd_T30 l1 x13_1).f2)) || (!(((rd_T30 l0 x13_1).f3) == ((rd_T30 l1 x13_1).f3)) || (!(((rd_T30 l0 x13_1).f4) == ((rd_T30 l1 x13_1).f4))))))) = true
        ·rw [if_pos c8] at H
         have c8b0 : (!(((rd_T30 l0 x13_1).f0) == ((rd_T30 l1 x13_1).f0)) || (!(((rd_T30 l0 x13_1).f1) == ((rd_T30 l1 x13_1).f1)) || (!(((rd_T30 l0 x13_1).f2) == ((rd_T30 l1 x13_1).f2)) || (!(((rd_T30 l0 x13_1).f3) == ((rd_T30 l1 x13_1).f3)) || (!(((rd_T30 l0 x13_1).f4) == ((rd_T30 l1 x13_1).f4))))))) = true := c8
         clear c8
         obtain rfl := Option.some.inj H
         have p390 : 0 ≤ (x13_1 : Int) := of_decide_eq_true (by first | (with_reducible assumption) | assumption)
         have q390 : x13_1 < (l0.length : Int) := of_decide_eq_true (by first | (with_reducible assumption) | assumption)
         obtain ⟨ad390, e390, hx390_0, hx390_1, hx390_2, hx390_3, hx390_4⟩ := at_T30 HR0.out x13_1 p390 q390
         cases e390
         replace p390 := eq_true p390
         replace q390 := eq_true q390
         have p391 : 0 ≤ (x13_1 : Int) := of_decide_eq_true (by first | (with_reducible assumption) | assumption)
         have q391 : x13_1 < (l1.length : Int) := of_decide_eq_true (by first | (with_reducible assumption) | assumption)
         obtain ⟨ad391, e391, hx391_0, hx391_1, hx391_2, hx391_3, hx391_4⟩ := at_T30 HR1.out x13_1 p391 q391
         cases e391
         replace p391 := eq_true p391
         replace q391 := eq_true q391
         go_wp2
         repeat (go_quiet (fail); try go_wp2)
         go_ret
         exact ⟨by first | rfl | (simp; done) | (simp [*]; done), by repeat (first | exact Drawn0.refl _ | apply Drawn0.step)⟩
        ·rw [if_neg c8] at H
         have c8b0 : (!(((rd_T30 l0 x13_1).f0) == ((rd_T30 l1 x13_1).f0)) || (!(((rd_T30 l0 x13_1).f1) == ((rd_T30 l1 x13_1).f1)) || (!(((rd_T30 l0 x13_1).f2) == ((rd_T30 l1 x13_1).f2)) || (!(((rd_T30 l0 x13_1).f3) == ((rd_T30 l1 x13_1).f3)) || (!(((rd_T30 l0 x13_1).f4) == ((rd_T30 l1 x13_1).f4))))))) = false := by simpa using c8
         clear c8
         have H' := Aside0.mk H
         clear H
         have p390 : 0 ≤ (x13_1 : Int) := of_decide_eq_true (by first | (with_reducible assumption) | assumption)
         have q390 : x13_1 < (l0.length : Int) := of_decide_eq_true (by first | (with_reducible assumption) | assumption)
         obtain ⟨ad390, e390, hx390_0, hx390_1, hx390_2, hx390_3, hx390_4⟩ := at_T30 HR0.out x13_1 p390 q390
         cases e390
         replace p390 := eq_true p390
         replace q390 := eq_true q390
         have p391 : 0 ≤ (x13_1 : Int) := of_decide_eq_true (by first | (with_reducible assumption) | assumption)
         have q391 : x13_1 < (l1.length : Int) := of_decide_eq_true (by first | (with_reducible assumption) | assumption)
         obtain ⟨ad391, e391, hx391_0, hx391_1, hx391_2, hx391_3, hx391_4⟩ := at_T30 HR1.out x13_1 p391 q391
         cases e391
         replace p391 := eq_true p391
         replace q391 := eq_true q391
         go_wp2
         repeat (go_quiet (fail); try go_wp2)
         go_roundg k1
         case measure => have := HK1.out; omega
         case rel => exact ⟨(wrap64 (x13_1 + 1)), (by first | rfl | (simp; done) | (simp [*]; done)), H', ⟨by have := HK1.out; omega⟩, by repeat (first | exact Drawn0.refl _ | apply Drawn0.step)⟩
       ·rw [if_neg c7] at H
        exact absurd H (by simp)
      ·rw [if_neg c6] at H
       exact absurd H (by simp)
     ·rw [if_neg c5] at H
      exact absurd H (by simp)
    ·rw [if_neg c4] at H
     have c4b0 : decide (x13_1 < (l0.length : Int)) = false := decide_eq_false c4
     clear c4
     obtain rfl := Option.some.inj H
     go_wp2
     repeat (go_quiet (fail); try go_wp2)
     go_ret
     exact ⟨by first | rfl | (simp; done) | (simp [*]; done), by repeat (first | exact Drawn0.refl _ | apply Drawn0.step)⟩
 ·rw [if_neg c3] at H
  have c3b0 : ((l0.length : Int) == (l1.length : Int)) = false := beq_eq_false_iff_ne.mpr c3
  have c3b1 : ((l0.length : Int) != (l1.length : Int)) = true := bne_iff_ne.mpr c3
  have c3b2 : (l0.length == l1.length) = false := by first | simpa using c3 | (simp at c3 ⊢; omega)
  obtain rfl := Option.some.inj H
  go_enter Tryd.func42, Tryd.ntmps42
  go_wp2
  repeat (go_quiet (fail); try go_wp2)
  go_ret
  exact ⟨by first | rfl | (simp; done) | (simp [*]; done), by repeat (first | exact Drawn0.refl _ | apply Drawn0.step)⟩

/-! ### event_Same: function 19 -/
def event_Same.f (k : Nat) (l0 : List (S30)) (l1 : List (S30)) : Option (Bool) := (slices_Equal_api_Event_api_Event.f k l0 l1).bind fun t392 => (some t392)
theorem event_Same.mono : ∀ a0 a1 k, LeO (event_Same.f k a0 a1) (event_Same.f (k + 1) a0 a1) := by
 intro a0 a1 k
 unfold event_Same.f
 repeat' first
   | (with_reducible exact slices_Equal_api_Event_api_Event.mono _ _ _)
   | (with_reducible exact LeO.refl _)
   | (with_reducible exact LeO.none _)
   | (with_reducible refine LeO.ite ?_ ?_)
   | (with_reducible refine LeO.bind ?_ (fun _ => ?_))
   | exact slices_Equal_api_Event_api_Event.mono _ _ _
   | exact LeO.none _
   | refine LeO.ite ?_ ?_
   | refine LeO.bind ?_ (fun _ => ?_)
set_option maxHeartbeats 8000000 in
set_option maxRecDepth 100000 in
theorem event_Same.calls (k : Nat) (A0 : Option Addr) (c0 : Nat) (l0 : List (S30)) (A1 : Option Addr) (c1 : Nat) (l1 : List (S30)) (r : Bool) (w : World) (hr0 : Kd.C k30 w A0 l0.length l0) (hc0 : l0.length ≤ c0) (hr1 : Kd.C k30 w A1 l1.length l1) (hc1 : l1.length ≤ c1) (h : event_Same.f k l0 l1 = some r) :
  Calls Tryd.prog 19 #[.slice A0 l0.length c0, .slice A1 l1.length c1] w fun e w' => e = .returned (.bool r) ∧ Drawn0 w w' := by
 have HR0 := Aside0.mk hr0
 have HC0 := Aside0.mk hc0
 clear hr0 hc0
 have HR1 := Aside0.mk hr1
 have HC1 := Aside0.mk hc1
 clear hr1 hc1
 have H : ((slices_Equal_api_Event_api_Event.f k l0 l1).bind fun t392 => (some t392)) = some r := h
 clear h
 replace H := Option.bind_eq_some_iff.mp H
 obtain ⟨t392, A30, H⟩ := H
 replace H : (some t392) = some r := H
 have A3 := Aside0.mk A30
 clear A30
 obtain rfl := Option.some.inj H
 go_enter Tryd.func19, Tryd.ntmps19
 go_wp2_with (first | ((with_reducible refine gate_callee (f := 42) rfl ?_); refine goesL_ (some 7) rfl rfl Tryd.func42 (by kernel_rfl) rfl #[.slice A0 l0.length c0, .slice A1 l1.length c1] rfl (by (try simp only [List.map_toArray, List.map_cons, List.map_nil]); first | done | rfl | (simp only [List.length_drop, List.length_take]; first | rfl | (rw [Nat.min_eq_left (Int.toNat_le.2 (of_decide_eq_true (by assumption)))]; rfl))) ?_; (with_reducible refine (slices_Equal_api_Event_api_Event.calls k _ _ l0 _ _ l1 t392 _ ?side1 ?side2 ?side3 ?side4 A3.out).mono ?_); (case side1 => repeat (first | exact HR0.out | (with_reducible refine Kd.C_alloc ?_ _) | (with_reducible refine Kd.C_drewN ?_ _) | (with_reducible refine Kd.C_drew ?_))); (case side2 => exact HC0.out); (case side3 => repeat (first | exact HR1.out | (with_reducible refine Kd.C_alloc ?_ _) | (with_reducible refine Kd.C_drewN ?_ _) | (with_reducible refine Kd.C_drew ?_))); (case side4 => exact HC1.out); rintro e w' ⟨rfl, ⟨nd, rfl⟩⟩; refine ⟨_, rfl, ?_⟩))
 go_ret
 exact ⟨by first | rfl | (simp; done) | (simp [*]; done), by repeat (first | exact Drawn0.refl _ | apply Drawn0.step)⟩

end Go.Proofs.YtcbjbgleflbpmaaDoor.Print
