-- PRINTED by print.py (a twelfth state) out of the translation. Not trusted: Lean checks it.
import Derived.Test.YtcbjbgleflbpmaaPrint0
import Derived.Test.YtcbjbgleflbpmaaPrint2
import Derived.Test.YtcbjbgleflbpmaaPrint6
import Derived.Test.YtcbjbgleflbpmaaPrint15
import Derived.Test.YtcbjbgleflbpmaaPrint23
namespace Go.Proofs.Ytcbjbgleflbpmaa.Print
open Go.RowKit Go.Proofs.YtcbjbgleflbpmaaW.PrintWords Go.Proofs.YtcbjbgleflbpmaaW.PrintLast Go.Proofs.YtcbjbgleflbpmaaW.PrintMore Go.Proofs.YtcbjbgleflbpmaaX
attribute [local go_sem] str_lss str_geq max2_int min2_int max_two min_two max_three min_three max_four min_four   -- for this text's walks alone
set_option linter.unusedVariables false
set_option linter.unusedSimpArgs false

attribute [local go_sem high] eqA27
/-! ### palletlaw23_DiffLogs: function 3 -/
def palletlaw23_DiffLogs.j0 : Nat → List Int → List Int → Bool → Bool → Option (Bool)
 | 0, _, _, _, _ => none
 | k + 1, x0, x1, x5, x24 => if x24 = true then (some x5) else ((diff_Logs.f k x0 x1).bind fun bt367 => ((palletref23_Logs.f k x0 x1).bind fun bt383 => (if x5 = true then (if (bt367.1 == bt383.1 && (bt367.2.1 == bt383.2.1 && ((bt367.2.2.1 == bt383.2.2.1 && (bt367.2.2.2.1 == bt383.2.2.2.1 && (bt367.2.2.2.2.1 == bt383.2.2.2.2.1 && (bt367.2.2.2.2.2.1 == bt383.2.2.2.2.2.1 && (bt367.2.2.2.2.2.2.1 == bt383.2.2.2.2.2.2.1))))) && ((bt367.2.2.2.2.2.2.2.1 == bt383.2.2.2.2.2.2.2.1 && (bt367.2.2.2.2.2.2.2.2.1 == bt383.2.2.2.2.2.2.2.2.1 && (bt367.2.2.2.2.2.2.2.2.2.1 == bt383.2.2.2.2.2.2.2.2.2.1 && (bt367.2.2.2.2.2.2.2.2.2.2.1 == bt383.2.2.2.2.2.2.2.2.2.2.1 && (bt367.2.2.2.2.2.2.2.2.2.2.2.1 == bt383.2.2.2.2.2.2.2.2.2.2.2.1))))))))) = true then (if bt367.2.2.2.2.2.2.2.2.2.2.2.2.1 = bt383.2.2.2.2.2.2.2.2.2.2.2.2.1 then (if bt367.2.2.2.2.2.2.2.2.2.2.2.2.2.1 = bt383.2.2.2.2.2.2.2.2.2.2.2.2.2.1 then (some (bt367.2.2.2.2.2.2.2.2.2.2.2.2.2.2 == bt383.2.2.2.2.2.2.2.2.2.2.2.2.2.2)) else (some false)) else (some false)) else (some false)) else (some false))))
def palletlaw23_DiffLogs.f (k : Nat) (l0 : List Int) (l1 : List Int) : Option (Bool) := (palletlaw23_live.f k).bind fun t366 => (if t366 = true then (if (l0.length : Int) > 5000 then (palletlaw23_DiffLogs.j0 k l0 l1 t366 true) else (palletlaw23_DiffLogs.j0 k l0 l1 t366 (decide ((l1.length : Int) > 5000)))) else (some false))
theorem palletlaw23_DiffLogs.mono_l : ∀ k, (∀ y0 y1 y2 y3, LeO (palletlaw23_DiffLogs.j0 k y0 y1 y2 y3) (palletlaw23_DiffLogs.j0 (k + 1) y0 y1 y2 y3))
 | 0 => fun _ _ _ _ r h => by simp [palletlaw23_DiffLogs.j0] at h
 | k + 1 => by
  have ih0 := palletlaw23_DiffLogs.mono_l k
  ·intro y0 y1 y2 y3
   unfold palletlaw23_DiffLogs.j0
   repeat' first
   | (with_reducible exact ih0 _ _ _ _)
   | (with_reducible exact diff_Logs.mono _ _ _)
   | (with_reducible exact palletlaw23_live.mono _)
   | (with_reducible exact palletref23_Logs.mono _ _ _)
   | (with_reducible exact LeO.refl _)
   | (with_reducible exact LeO.none _)
   | (with_reducible refine LeO.ite ?_ ?_)
   | (with_reducible refine LeO.bind ?_ (fun _ => ?_))
   | exact ih0 _ _ _ _
   | exact diff_Logs.mono _ _ _
   | exact palletlaw23_live.mono _
   | exact palletref23_Logs.mono _ _ _
   | exact LeO.none _
   | refine LeO.ite ?_ ?_
   | refine LeO.bind ?_ (fun _ => ?_)
theorem palletlaw23_DiffLogs.mono : ∀ a0 a1 k, LeO (palletlaw23_DiffLogs.f k a0 a1) (palletlaw23_DiffLogs.f (k + 1) a0 a1) := by
 intro a0 a1 k
 have ih0 := palletlaw23_DiffLogs.mono_l k
 unfold palletlaw23_DiffLogs.f
 repeat' first
   | (with_reducible exact ih0 _ _ _ _)
   | (with_reducible exact diff_Logs.mono _ _ _)
   | (with_reducible exact palletlaw23_live.mono _)
   | (with_reducible exact palletref23_Logs.mono _ _ _)
   | (with_reducible exact LeO.refl _)
   | (with_reducible exact LeO.none _)
   | (with_reducible refine LeO.ite ?_ ?_)
   | (with_reducible refine LeO.bind ?_ (fun _ => ?_))
   | exact ih0 _ _ _ _
   | exact diff_Logs.mono _ _ _
   | exact palletlaw23_live.mono _
   | exact palletref23_Logs.mono _ _ _
   | exact LeO.none _
   | refine LeO.ite ?_ ?_
   | refine LeO.bind ?_ (fun _ => ?_)
set_option maxHeartbeats 8000000 in
set_option maxRecDepth 100000 in
theorem palletlaw23_DiffLogs.calls (k : Nat) (A0 : Option Addr) (c0 : Nat) (l0 : List Int) (A1 : Option Addr) (c1 : Nat) (l1 : List Int) (r : Bool) (w : World) (hr0 : Kd.C (Kd.int .u8) w A0 l0.length l0) (hc0 : l0.length ≤ c0) (hr1 : Kd.C (Kd.int .u8) w A1 l1.length l1) (hc1 : l1.length ≤ c1) (hr_ : Aside0 (r = true)) (h : palletlaw23_DiffLogs.f k l0 l1 = some r) :
  Calls Try.prog 3 #[.slice A0 l0.length c0, .slice A1 l1.length c1] w fun e w' => e = .returned (.bool r) ∧ Below w.heap.size w w' := by
 have hu27 := Try.underlying27
 have HR0 := Aside0.mk hr0
 have HC0 := Aside0.mk hc0
 clear hr0 hc0
 have HR1 := Aside0.mk hr1
 have HC1 := Aside0.mk hc1
 clear hr1 hc1
 have HB := Aside0.mk (Below.refl w.heap.size w)
 have H : ((palletlaw23_live.f k).bind fun t366 => (if t366 = true then (if (l0.length : Int) > 5000 then (palletlaw23_DiffLogs.j0 k l0 l1 t366 true) else (palletlaw23_DiffLogs.j0 k l0 l1 t366 (decide ((l1.length : Int) > 5000)))) else (some false))) = some r := h
 clear h
 replace H := Option.bind_eq_some_iff.mp H
 obtain ⟨t366, A30, H⟩ := H
 replace H : (if t366 = true then (if (l0.length : Int) > 5000 then (palletlaw23_DiffLogs.j0 k l0 l1 t366 true) else (palletlaw23_DiffLogs.j0 k l0 l1 t366 (decide ((l1.length : Int) > 5000)))) else (some false)) = some r := H
 have A3 := Aside0.mk A30
 clear A30
 by_cases c4 : t366 = true
 ·subst c4
  have H1 : (if (l0.length : Int) > 5000 then (palletlaw23_DiffLogs.j0 k l0 l1 true true) else (palletlaw23_DiffLogs.j0 k l0 l1 true (decide ((l1.length : Int) > 5000)))) = some r := by rw [if_pos rfl] at H; exact H
  clear H
  have H := H1
  clear H1
  have HC5 := Aside0.mk H
  clear H
  go_enter Try.func3, Try.ntmps3
  go_upto_region 4 with (first | ((with_reducible refine gate_callee (f := 4) rfl ?_); refine goesL_ (some 14) rfl rfl Try.func4 (by kernel_rfl) rfl #[] rfl (by (try simp only [List.map_toArray, List.map_cons, List.map_nil]); first | done | rfl | (simp only [List.length_drop, List.length_take]; first | rfl | (rw [Nat.min_eq_left (Int.toNat_le.2 (of_decide_eq_true (by assumption)))]; rfl))) ?_; (with_reducible refine (palletlaw23_live.calls k  true _ A3.out).mono ?_); rintro e w6 ⟨rfl, hb⟩; refine ⟨_, rfl, ?_⟩; have n0_ := Aside0.mk (below_step (by repeat (first | (with_reducible first | exact HB.out | apply below_alloc | apply pw_below_drewN | apply below_drew1) | exact HB.out)) hb); clear HB; have HB := n0_; clear n0_; (try clear hb); (try clear hb2); (try clear hk); (try clear hi)))
  (try simp only [Act.put, List.setIfInBounds_toArray, List.set_cons_zero, List.set_cons_succ])
  go_cut [24] (fun v24 wc => ∃ (kq : Nat) (x24_4 : Bool), v24 = .bool x24_4 ∧ Aside0 (palletlaw23_DiffLogs.j0 kq l0 l1 true x24_4 = some r) ∧ Aside0 (kq ≤ k) ∧ Aside0 (Below w.heap.size w wc))
  case first =>
   have H := HC5.out
   clear HC5
   by_cases c7 : (l0.length : Int) > 5000
   ·rw [if_pos c7] at H
    have c7b0 : decide (5000 < (l0.length : Int)) = true := decide_eq_true c7
    have c7b1 : decide (5000 < l0.length) = true := decide_eq_true (by omega)
    clear c7
    (first | rw [c7b0] | (simp only [i64_w, i32_w]; rw [c7b0]) | skip)
    have H' := Aside0.mk H
    clear H
    go_wp2
    go_meet
    case rel => exact ⟨_, (true), (by first | rfl | (simp; done) | (simp [*]; done)), H', ⟨by first | omega | exact Nat.le_refl _⟩, ⟨by repeat (first | (with_reducible first | exact HB.out | apply below_alloc | apply pw_below_drewN | apply below_drew1) | exact HB.out)⟩⟩
   ·rw [if_neg c7] at H
    have c7b0 : decide (5000 < (l0.length : Int)) = false := decide_eq_false c7
    have c7b1 : decide (5000 < l0.length) = false := decide_eq_false (by omega)
    clear c7
    (first | rw [c7b0] | (simp only [i64_w, i32_w]; rw [c7b0]) | skip)
    have H' := Aside0.mk H
    clear H
    go_wp2
    go_meet
    case rel => exact ⟨_, (decide ((l1.length : Int) > 5000)), (by first | rfl | (simp; done) | (simp [*]; done)), H', ⟨by first | omega | exact Nat.le_refl _⟩, ⟨by repeat (first | (with_reducible first | exact HB.out | apply below_alloc | apply pw_below_drewN | apply below_drew1) | exact HB.out)⟩⟩
  case rest =>
   clear HC5
   try clear c1
   try clear p2
   try clear c3
   try clear c4
   try clear c7
   try clear c7b0
   try clear c7b1
   obtain ⟨kq, x24_4, rfl, HA, HJ4, HB⟩ := hcut
   cases kq with
   | zero => exact absurd HA.out (by simp [palletlaw23_DiffLogs.j0])
   | succ kj4 =>
    have H := HA.out
    clear HA
    simp only [palletlaw23_DiffLogs.j0] at H
    by_cases c8 : x24_4 = true
    ·subst c8
     have H1 : (some true) = some r := by rw [if_pos rfl] at H; exact H
     clear H
     have H := H1
     clear H1
     obtain rfl := Option.some.inj H
     go_wp2
     go_ret
     exact ⟨by first | rfl | (simp [errW_none, errW_some] <;> rfl) | (simp [*, errW_none, errW_some] <;> rfl), by repeat (first | (with_reducible first | exact HB.out | apply below_alloc | apply pw_below_drewN | apply below_drew1) | exact HB.out)⟩
    ·replace c8 := Bool.eq_false_iff.mpr c8
     subst c8
     have H1 : ((diff_Logs.f kj4 l0 l1).bind fun bt367 => ((palletref23_Logs.f kj4 l0 l1).bind fun bt383 => (if true = true then (if (bt367.1 == bt383.1 && (bt367.2.1 == bt383.2.1 && ((bt367.2.2.1 == bt383.2.2.1 && (bt367.2.2.2.1 == bt383.2.2.2.1 && (bt367.2.2.2.2.1 == bt383.2.2.2.2.1 && (bt367.2.2.2.2.2.1 == bt383.2.2.2.2.2.1 && (bt367.2.2.2.2.2.2.1 == bt383.2.2.2.2.2.2.1))))) && ((bt367.2.2.2.2.2.2.2.1 == bt383.2.2.2.2.2.2.2.1 && (bt367.2.2.2.2.2.2.2.2.1 == bt383.2.2.2.2.2.2.2.2.1 && (bt367.2.2.2.2.2.2.2.2.2.1 == bt383.2.2.2.2.2.2.2.2.2.1 && (bt367.2.2.2.2.2.2.2.2.2.2.1 == bt383.2.2.2.2.2.2.2.2.2.2.1 && (bt367.2.2.2.2.2.2.2.2.2.2.2.1 == bt383.2.2.2.2.2.2.2.2.2.2.2.1))))))))) = true then (if bt367.2.2.2.2.2.2.2.2.2.2.2.2.1 = bt383.2.2.2.2.2.2.2.2.2.2.2.2.1 then (if bt367.2.2.2.2.2.2.2.2.2.2.2.2.2.1 = bt383.2.2.2.2.2.2.2.2.2.2.2.2.2.1 then (some (bt367.2.2.2.2.2.2.2.2.2.2.2.2.2.2 == bt383.2.2.2.2.2.2.2.2.2.2.2.2.2.2)) else (some false)) else (some false)) else (some false)) else (some false)))) = some r := by rw [if_neg (show ¬ (false = true) by decide)] at H; exact H
     clear H
     have H := H1
     clear H1
     replace H := Option.bind_eq_some_iff.mp H
     obtain ⟨⟨t367, t368, t369, t370, t371, t372, t373, t374, t375, t376, t377, t378, t379, t380, t381⟩, A90, H⟩ := H
     replace H : ((palletref23_Logs.f kj4 l0 l1).bind fun bt383 => (if true = true then (if (t367 == bt383.1 && (t368 == bt383.2.1 && ((t369 == bt383.2.2.1 && (t370 == bt383.2.2.2.1 && (t371 == bt383.2.2.2.2.1 && (t372 == bt383.2.2.2.2.2.1 && (t373 == bt383.2.2.2.2.2.2.1))))) && ((t374 == bt383.2.2.2.2.2.2.2.1 && (t375 == bt383.2.2.2.2.2.2.2.2.1 && (t376 == bt383.2.2.2.2.2.2.2.2.2.1 && (t377 == bt383.2.2.2.2.2.2.2.2.2.2.1 && (t378 == bt383.2.2.2.2.2.2.2.2.2.2.2.1))))))))) = true then (if t379 = bt383.2.2.2.2.2.2.2.2.2.2.2.2.1 then (if t380 = bt383.2.2.2.2.2.2.2.2.2.2.2.2.2.1 then (some (t381 == bt383.2.2.2.2.2.2.2.2.2.2.2.2.2.2)) else (some false)) else (some false)) else (some false)) else (some false))) = some r := H
     have A9 := Aside0.mk A90
     clear A90
     replace H := Option.bind_eq_some_iff.mp H
     obtain ⟨⟨t383, t384, t385, t386, t387, t388, t389, t390, t391, t392, t393, t394, t395, t396, t397⟩, A100, H⟩ := H
     replace H : (if true = true then (if (t367 == t383 && (t368 == t384 && ((t369 == t385 && (t370 == t386 && (t371 == t387 && (t372 == t388 && (t373 == t389))))) && ((t374 == t390 && (t375 == t391 && (t376 == t392 && (t377 == t393 && (t378 == t394))))))))) = true then (if t379 = t395 then (if t380 = t396 then (some (t381 == t397)) else (some false)) else (some false)) else (some false)) else (some false)) = some r := H
     have A10 := Aside0.mk A100
     clear A100
     have H1 : (if (t367 == t383 && (t368 == t384 && ((t369 == t385 && (t370 == t386 && (t371 == t387 && (t372 == t388 && (t373 == t389))))) && ((t374 == t390 && (t375 == t391 && (t376 == t392 && (t377 == t393 && (t378 == t394))))))))) = true then (if t379 = t395 then (if t380 = t396 then (some (t381 == t397)) else (some false)) else (some false)) else (some false)) = some r := by first | (rw [if_pos rfl] at H; exact H) | exact H
     clear H
     have H := H1
     clear H1
     by_cases c11 : (t367 == t383 && (t368 == t384 && ((t369 == t385 && (t370 == t386 && (t371 == t387 && (t372 == t388 && (t373 == t389))))) && ((t374 == t390 && (t375 == t391 && (t376 == t392 && (t377 == t393 && (t378 == t394))))))))) = true
     ·rw [if_pos c11] at H
      have c11b0 : (t367 == t383 && (t368 == t384 && ((t369 == t385 && (t370 == t386 && (t371 == t387 && (t372 == t388 && (t373 == t389))))) && ((t374 == t390 && (t375 == t391 && (t376 == t392 && (t377 == t393 && (t378 == t394))))))))) = true := c11
      (try (have c11b1 : decide (t367 = t383 && (t368 == t384 && ((t369 == t385 && (t370 == t386 && (t371 == t387 && (t372 == t388 && (t373 == t389))))) && ((t374 == t390 && (t375 == t391 && (t376 == t392 && (t377 == t393 && (t378 == t394))))))))) = true := by simpa using c11))
      (try (have c11b2 : (t367 == t383 && (t368 == t384 && ((t369 == t385 && (t370 == t386 && (t371 == t387 && (t372 == t388 && (t373 == t389))))) && ((t374 == t390 && (t375 == t391 && (t376 == t392 && (t377 == t393 && (t378 == t394))))))))) = true := by simpa using c11))
      clear c11
      by_cases c12 : t379 = t395
      ·rw [if_pos c12] at H
       have c12b0 : (t379 == t395) = true := beq_iff_eq.mpr c12
       have c12b1 : (t379 != t395) = false := bne_eq_false_iff_eq.mpr c12
       clear c12
       by_cases c13 : t380 = t396
       ·rw [if_pos c13] at H
        have c13b0 : (t380 == t396) = true := beq_iff_eq.mpr c13
        have c13b1 : (t380 != t396) = false := bne_eq_false_iff_eq.mpr c13
        clear c13
        obtain rfl := Option.some.inj H
        go_wp2_with (first | ((with_reducible refine gate_callee (f := 5) rfl ?_); refine goesL_ (some 29) rfl rfl Try.func5 (by kernel_rfl) rfl #[.slice A0 l0.length c0, .slice A1 l1.length c1] rfl (by (try simp only [List.map_toArray, List.map_cons, List.map_nil]); first | done | rfl | (simp only [List.length_drop, List.length_take]; first | rfl | (rw [Nat.min_eq_left (Int.toNat_le.2 (of_decide_eq_true (by assumption)))]; rfl))) ?_; (with_reducible refine (diff_Logs.calls kj4 _ _ l0 _ _ l1 t367 t368 t369 t370 t371 t372 t373 t374 t375 t376 t377 t378 t379 t380 t381 _ ?side1 ?side2 ?side3 ?side4 A9.out).mono ?_); (case side1 => repeat (first | exact (Kd.C_below HR0.out HB.out) | (with_reducible refine Kd.C_alloc ?_ _) | (with_reducible refine Kd.C_drewN ?_ _) | (with_reducible refine Kd.C_drew ?_))); (case side2 => exact HC0.out); (case side3 => repeat (first | exact (Kd.C_below HR1.out HB.out) | (with_reducible refine Kd.C_alloc ?_ _) | (with_reducible refine Kd.C_drewN ?_ _) | (with_reducible refine Kd.C_drew ?_))); (case side4 => exact HC1.out); rintro e w14 ⟨rfl, hb⟩; refine ⟨_, rfl, ?_⟩; have n0_ := Aside0.mk (below_step (by repeat (first | (with_reducible first | exact HB.out | apply below_alloc | apply pw_below_drewN | apply below_drew1) | exact HB.out)) hb); clear HB; have HB := n0_; clear n0_; (try clear hb); (try clear hb2); (try clear hk); (try clear hi)) | ((with_reducible refine gate_dst (N := 6) rfl ?_); (try (refine gate_guard (by rfl) ?_; dsimp only)); refine box_event ?hg (N := 6) ?hd (cs := #[.int .i64 0, .int .i64 0, .int .i64 0, .int .i64 0, .int .i64 0, .int .i64 0, .int .i64 0, .int .i64 0, .int .i64 0, .int .i64 0, .int .i64 0, .int .i64 0]) (t := 27) ?hr ?_; (case hd => rfl); (case hg => rfl); (case hr => first | (go_simp; done) | (go_simp; rfl)); intro gb382 hg w15 hbox hb; have n0_ := Aside0.mk (below_step (by repeat (first | (with_reducible first | exact HB.out | apply below_alloc | apply pw_below_drewN | apply below_drew1) | exact HB.out)) hb); have n1_ := Aside0.mk (hbox); have n2_ := Aside0.mk ((by rw [hg]; exact (below_size (by repeat (first | (with_reducible first | exact HB.out | apply below_alloc | apply pw_below_drewN | apply below_drew1) | exact HB.out))) : w.heap.size ≤ gb382)); have n3_ := Aside0.mk ((by rw [hg]; exact (below_size (by repeat (first | (with_reducible first | exact HB.out | apply below_alloc | apply pw_below_drewN | apply below_drew1) | exact HB.out))) : w.heap.size ≤ gb382)); clear HB; have HB := n0_; have BK382 := n1_; have GW382 := n2_; have GE382 := n3_; clear n0_ n1_ n2_ n3_; clear hb hbox hg; have hcz16_0 : w15.cell? ⟨gb382, 0, none⟩ = some (.int .i64 0) := (blk_cell BK382.out 0).trans rfl; have hcz16_1 : w15.cell? ⟨gb382, 1, none⟩ = some (.int .i64 0) := (blk_cell BK382.out 1).trans rfl; have hcz16_2 : w15.cell? ⟨gb382, 2, none⟩ = some (.int .i64 0) := (blk_cell BK382.out 2).trans rfl; have hcz16_3 : w15.cell? ⟨gb382, 3, none⟩ = some (.int .i64 0) := (blk_cell BK382.out 3).trans rfl; have hcz16_4 : w15.cell? ⟨gb382, 4, none⟩ = some (.int .i64 0) := (blk_cell BK382.out 4).trans rfl; have hcz16_5 : w15.cell? ⟨gb382, 5, none⟩ = some (.int .i64 0) := (blk_cell BK382.out 5).trans rfl; have hcz16_6 : w15.cell? ⟨gb382, 6, none⟩ = some (.int .i64 0) := (blk_cell BK382.out 6).trans rfl; have hcz16_7 : w15.cell? ⟨gb382, 7, none⟩ = some (.int .i64 0) := (blk_cell BK382.out 7).trans rfl; have hcz16_8 : w15.cell? ⟨gb382, 8, none⟩ = some (.int .i64 0) := (blk_cell BK382.out 8).trans rfl; have hcz16_9 : w15.cell? ⟨gb382, 9, none⟩ = some (.int .i64 0) := (blk_cell BK382.out 9).trans rfl; have hcz16_10 : w15.cell? ⟨gb382, 10, none⟩ = some (.int .i64 0) := (blk_cell BK382.out 10).trans rfl; have hcz16_11 : w15.cell? ⟨gb382, 11, none⟩ = some (.int .i64 0) := (blk_cell BK382.out 11).trans rfl; have hfz16_0 := blk_frozen BK382.out 0; have hfz16_1 := blk_frozen BK382.out 1; have hfz16_2 := blk_frozen BK382.out 2; have hfz16_3 := blk_frozen BK382.out 3; have hfz16_4 := blk_frozen BK382.out 4; have hfz16_5 := blk_frozen BK382.out 5; have hfz16_6 := blk_frozen BK382.out 6; have hfz16_7 := blk_frozen BK382.out 7; have hfz16_8 := blk_frozen BK382.out 8; have hfz16_9 := blk_frozen BK382.out 9; have hfz16_10 := blk_frozen BK382.out 10; have hfz16_11 := blk_frozen BK382.out 11) | ((with_reducible refine gate_callee (f := 6) rfl ?_); refine goesL_ (some 37) rfl rfl Try.func6 (by kernel_rfl) rfl #[.slice A0 l0.length c0, .slice A1 l1.length c1] rfl (by (try simp only [List.map_toArray, List.map_cons, List.map_nil]); first | done | rfl | (simp only [List.length_drop, List.length_take]; first | rfl | (rw [Nat.min_eq_left (Int.toNat_le.2 (of_decide_eq_true (by assumption)))]; rfl))) ?_; (with_reducible refine (palletref23_Logs.calls kj4 _ _ l0 _ _ l1 t383 t384 t385 t386 t387 t388 t389 t390 t391 t392 t393 t394 t395 t396 t397 _ ?side1 ?side2 ?side3 ?side4 A10.out).mono ?_); (case side1 => exact Kd.C_below HR0.out (by repeat (first | (with_reducible first | exact HB.out | apply below_alloc | apply pw_below_drewN | apply below_drew1 | refine below_set ?_ GE382.out) | exact HB.out))); (case side2 => exact HC0.out); (case side3 => exact Kd.C_below HR1.out (by repeat (first | (with_reducible first | exact HB.out | apply below_alloc | apply pw_below_drewN | apply below_drew1 | refine below_set ?_ GE382.out) | exact HB.out))); (case side4 => exact HC1.out); rintro e w17 ⟨rfl, hb⟩; refine ⟨_, rfl, ?_⟩; have n0_ := Aside0.mk (blk_below (g := gb382) (o := .cells #[.int .i64 t367, .int .i64 t368, .int .i64 t369, .int .i64 t370, .int .i64 t371, .int .i64 t372, .int .i64 t373, .int .i64 t374, .int .i64 t375, .int .i64 t376, .int .i64 t377, .int .i64 t378] 27 (0, 0)) (by (with_reducible repeat (first | refine blk_drewN ?_ _ | refine blk_drew ?_ | refine blk_alloc ?_ _)); refine blk_put (cs := #[.int .i64 t367, .int .i64 t368, .int .i64 t369, .int .i64 t370, .int .i64 t371, .int .i64 t372, .int .i64 t373, .int .i64 t374, .int .i64 t375, .int .i64 t376, .int .i64 t377, .int .i64 0]) ?_ 11 _ rfl; (with_reducible repeat (first | refine blk_drewN ?_ _ | refine blk_drew ?_ | refine blk_alloc ?_ _)); refine blk_put (cs := #[.int .i64 t367, .int .i64 t368, .int .i64 t369, .int .i64 t370, .int .i64 t371, .int .i64 t372, .int .i64 t373, .int .i64 t374, .int .i64 t375, .int .i64 t376, .int .i64 0, .int .i64 0]) ?_ 10 _ rfl; (with_reducible repeat (first | refine blk_drewN ?_ _ | refine blk_drew ?_ | refine blk_alloc ?_ _)); refine blk_put (cs := #[.int .i64 t367, .int .i64 t368, .int .i64 t369, .int .i64 t370, .int .i64 t371, .int .i64 t372, .int .i64 t373, .int .i64 t374, .int .i64 t375, .int .i64 0, .int .i64 0, .int .i64 0]) ?_ 9 _ rfl; (with_reducible repeat (first | refine blk_drewN ?_ _ | refine blk_drew ?_ | refine blk_alloc ?_ _)); refine blk_put (cs := #[.int .i64 t367, .int .i64 t368, .int .i64 t369, .int .i64 t370, .int .i64 t371, .int .i64 t372, .int .i64 t373, .int .i64 t374, .int .i64 0, .int .i64 0, .int .i64 0, .int .i64 0]) ?_ 8 _ rfl; (with_reducible repeat (first | refine blk_drewN ?_ _ | refine blk_drew ?_ | refine blk_alloc ?_ _)); refine blk_put (cs := #[.int .i64 t367, .int .i64 t368, .int .i64 t369, .int .i64 t370, .int .i64 t371, .int .i64 t372, .int .i64 t373, .int .i64 0, .int .i64 0, .int .i64 0, .int .i64 0, .int .i64 0]) ?_ 7 _ rfl; (with_reducible repeat (first | refine blk_drewN ?_ _ | refine blk_drew ?_ | refine blk_alloc ?_ _)); refine blk_put (cs := #[.int .i64 t367, .int .i64 t368, .int .i64 t369, .int .i64 t370, .int .i64 t371, .int .i64 t372, .int .i64 0, .int .i64 0, .int .i64 0, .int .i64 0, .int .i64 0, .int .i64 0]) ?_ 6 _ rfl; (with_reducible repeat (first | refine blk_drewN ?_ _ | refine blk_drew ?_ | refine blk_alloc ?_ _)); refine blk_put (cs := #[.int .i64 t367, .int .i64 t368, .int .i64 t369, .int .i64 t370, .int .i64 t371, .int .i64 0, .int .i64 0, .int .i64 0, .int .i64 0, .int .i64 0, .int .i64 0, .int .i64 0]) ?_ 5 _ rfl; (with_reducible repeat (first | refine blk_drewN ?_ _ | refine blk_drew ?_ | refine blk_alloc ?_ _)); refine blk_put (cs := #[.int .i64 t367, .int .i64 t368, .int .i64 t369, .int .i64 t370, .int .i64 0, .int .i64 0, .int .i64 0, .int .i64 0, .int .i64 0, .int .i64 0, .int .i64 0, .int .i64 0]) ?_ 4 _ rfl; (with_reducible repeat (first | refine blk_drewN ?_ _ | refine blk_drew ?_ | refine blk_alloc ?_ _)); refine blk_put (cs := #[.int .i64 t367, .int .i64 t368, .int .i64 t369, .int .i64 0, .int .i64 0, .int .i64 0, .int .i64 0, .int .i64 0, .int .i64 0, .int .i64 0, .int .i64 0, .int .i64 0]) ?_ 3 _ rfl; (with_reducible repeat (first | refine blk_drewN ?_ _ | refine blk_drew ?_ | refine blk_alloc ?_ _)); refine blk_put (cs := #[.int .i64 t367, .int .i64 t368, .int .i64 0, .int .i64 0, .int .i64 0, .int .i64 0, .int .i64 0, .int .i64 0, .int .i64 0, .int .i64 0, .int .i64 0, .int .i64 0]) ?_ 2 _ rfl; (with_reducible repeat (first | refine blk_drewN ?_ _ | refine blk_drew ?_ | refine blk_alloc ?_ _)); refine blk_put (cs := #[.int .i64 t367, .int .i64 0, .int .i64 0, .int .i64 0, .int .i64 0, .int .i64 0, .int .i64 0, .int .i64 0, .int .i64 0, .int .i64 0, .int .i64 0, .int .i64 0]) ?_ 1 _ rfl; (with_reducible repeat (first | refine blk_drewN ?_ _ | refine blk_drew ?_ | refine blk_alloc ?_ _)); refine blk_put (cs := #[.int .i64 0, .int .i64 0, .int .i64 0, .int .i64 0, .int .i64 0, .int .i64 0, .int .i64 0, .int .i64 0, .int .i64 0, .int .i64 0, .int .i64 0, .int .i64 0]) ?_ 0 _ rfl; (with_reducible repeat (first | refine blk_drewN ?_ _ | refine blk_drew ?_ | refine blk_alloc ?_ _)); exact BK382.out) hb); have n1_ := Aside0.mk (below_step (by repeat (first | (with_reducible first | exact HB.out | apply below_alloc | apply pw_below_drewN | apply below_drew1 | refine below_set ?_ GE382.out) | exact HB.out)) hb); clear BK382; clear HB; have BK382 := n0_; have HB := n1_; clear n0_ n1_; (try clear hb); (try clear hb2); (try clear hk); (try clear hi)) | ((with_reducible refine gate_dst (N := 10) rfl ?_); (try (refine gate_guard (by rfl) ?_; dsimp only)); refine box_event ?hg (N := 10) ?hd (cs := #[.int .i64 0, .int .i64 0, .int .i64 0, .int .i64 0, .int .i64 0, .int .i64 0, .int .i64 0, .int .i64 0, .int .i64 0, .int .i64 0, .int .i64 0, .int .i64 0]) (t := 27) ?hr ?_; (case hd => rfl); (case hg => rfl); (case hr => first | (go_simp; done) | (go_simp; rfl)); intro gb398 hg w18 hbox hb; have n0_ := Aside0.mk (blk_below (g := gb382) (o := .cells #[.int .i64 t367, .int .i64 t368, .int .i64 t369, .int .i64 t370, .int .i64 t371, .int .i64 t372, .int .i64 t373, .int .i64 t374, .int .i64 t375, .int .i64 t376, .int .i64 t377, .int .i64 t378] 27 (0, 0)) (by (with_reducible repeat (first | refine blk_drewN ?_ _ | refine blk_drew ?_ | refine blk_alloc ?_ _)); exact BK382.out) hb); have n1_ := Aside0.mk (below_step (by repeat (first | (with_reducible first | exact HB.out | apply below_alloc | apply pw_below_drewN | apply below_drew1 | refine below_set ?_ GE382.out) | exact HB.out)) hb); have n2_ := Aside0.mk (hbox); have n3_ := Aside0.mk ((by rw [hg]; exact (below_size (by repeat (first | (with_reducible first | exact HB.out | apply below_alloc | apply pw_below_drewN | apply below_drew1 | refine below_set ?_ GE382.out) | exact HB.out))) : w.heap.size ≤ gb398)); have n4_ := Aside0.mk ((by rw [hg]; exact (below_size (by repeat (first | (with_reducible first | exact HB.out | apply below_alloc | apply pw_below_drewN | apply below_drew1 | refine below_set ?_ GE382.out) | exact HB.out))) : w.heap.size ≤ gb398)); have n5_ := Aside0.mk ((by rw [hg]; exact Nat.ne_of_lt (blk_lt (g := gb382) (o := .cells #[.int .i64 t367, .int .i64 t368, .int .i64 t369, .int .i64 t370, .int .i64 t371, .int .i64 t372, .int .i64 t373, .int .i64 t374, .int .i64 t375, .int .i64 t376, .int .i64 t377, .int .i64 t378] 27 (0, 0)) (by (with_reducible repeat (first | refine blk_drewN ?_ _ | refine blk_drew ?_ | refine blk_alloc ?_ _)); exact BK382.out)) : gb382 ≠ gb398)); have n6_ := Aside0.mk ((by rw [hg]; exact Nat.ne_of_gt (blk_lt (g := gb382) (o := .cells #[.int .i64 t367, .int .i64 t368, .int .i64 t369, .int .i64 t370, .int .i64 t371, .int .i64 t372, .int .i64 t373, .int .i64 t374, .int .i64 t375, .int .i64 t376, .int .i64 t377, .int .i64 t378] 27 (0, 0)) (by (with_reducible repeat (first | refine blk_drewN ?_ _ | refine blk_drew ?_ | refine blk_alloc ?_ _)); exact BK382.out)) : gb398 ≠ gb382)); clear BK382; clear HB; have BK382 := n0_; have HB := n1_; have BK398 := n2_; have GW398 := n3_; have GE398 := n4_; have NB382_398 := n5_; have NB398_382 := n6_; clear n0_ n1_ n2_ n3_ n4_ n5_ n6_; clear hb hbox hg; have hnb19 := NB398_382.out; have hnc19 := NB382_398.out; have hcz20_0 : w18.cell? ⟨gb398, 0, none⟩ = some (.int .i64 0) := (blk_cell BK398.out 0).trans rfl; have hcz20_1 : w18.cell? ⟨gb398, 1, none⟩ = some (.int .i64 0) := (blk_cell BK398.out 1).trans rfl; have hcz20_2 : w18.cell? ⟨gb398, 2, none⟩ = some (.int .i64 0) := (blk_cell BK398.out 2).trans rfl; have hcz20_3 : w18.cell? ⟨gb398, 3, none⟩ = some (.int .i64 0) := (blk_cell BK398.out 3).trans rfl; have hcz20_4 : w18.cell? ⟨gb398, 4, none⟩ = some (.int .i64 0) := (blk_cell BK398.out 4).trans rfl; have hcz20_5 : w18.cell? ⟨gb398, 5, none⟩ = some (.int .i64 0) := (blk_cell BK398.out 5).trans rfl; have hcz20_6 : w18.cell? ⟨gb398, 6, none⟩ = some (.int .i64 0) := (blk_cell BK398.out 6).trans rfl; have hcz20_7 : w18.cell? ⟨gb398, 7, none⟩ = some (.int .i64 0) := (blk_cell BK398.out 7).trans rfl; have hcz20_8 : w18.cell? ⟨gb398, 8, none⟩ = some (.int .i64 0) := (blk_cell BK398.out 8).trans rfl; have hcz20_9 : w18.cell? ⟨gb398, 9, none⟩ = some (.int .i64 0) := (blk_cell BK398.out 9).trans rfl; have hcz20_10 : w18.cell? ⟨gb398, 10, none⟩ = some (.int .i64 0) := (blk_cell BK398.out 10).trans rfl; have hcz20_11 : w18.cell? ⟨gb398, 11, none⟩ = some (.int .i64 0) := (blk_cell BK398.out 11).trans rfl; have hfz20_0 := blk_frozen BK398.out 0; have hfz20_1 := blk_frozen BK398.out 1; have hfz20_2 := blk_frozen BK398.out 2; have hfz20_3 := blk_frozen BK398.out 3; have hfz20_4 := blk_frozen BK398.out 4; have hfz20_5 := blk_frozen BK398.out 5; have hfz20_6 := blk_frozen BK398.out 6; have hfz20_7 := blk_frozen BK398.out 7; have hfz20_8 := blk_frozen BK398.out 8; have hfz20_9 := blk_frozen BK398.out 9; have hfz20_10 := blk_frozen BK398.out 10; have hfz20_11 := blk_frozen BK398.out 11; have hcz21_0 : w18.cell? ⟨gb382, 0, none⟩ = some (.int .i64 t367) := (blk_cell BK382.out 0).trans rfl; have hcz21_1 : w18.cell? ⟨gb382, 1, none⟩ = some (.int .i64 t368) := (blk_cell BK382.out 1).trans rfl; have hcz21_2 : w18.cell? ⟨gb382, 2, none⟩ = some (.int .i64 t369) := (blk_cell BK382.out 2).trans rfl; have hcz21_3 : w18.cell? ⟨gb382, 3, none⟩ = some (.int .i64 t370) := (blk_cell BK382.out 3).trans rfl; have hcz21_4 : w18.cell? ⟨gb382, 4, none⟩ = some (.int .i64 t371) := (blk_cell BK382.out 4).trans rfl; have hcz21_5 : w18.cell? ⟨gb382, 5, none⟩ = some (.int .i64 t372) := (blk_cell BK382.out 5).trans rfl; have hcz21_6 : w18.cell? ⟨gb382, 6, none⟩ = some (.int .i64 t373) := (blk_cell BK382.out 6).trans rfl; have hcz21_7 : w18.cell? ⟨gb382, 7, none⟩ = some (.int .i64 t374) := (blk_cell BK382.out 7).trans rfl; have hcz21_8 : w18.cell? ⟨gb382, 8, none⟩ = some (.int .i64 t375) := (blk_cell BK382.out 8).trans rfl; have hcz21_9 : w18.cell? ⟨gb382, 9, none⟩ = some (.int .i64 t376) := (blk_cell BK382.out 9).trans rfl; have hcz21_10 : w18.cell? ⟨gb382, 10, none⟩ = some (.int .i64 t377) := (blk_cell BK382.out 10).trans rfl; have hcz21_11 : w18.cell? ⟨gb382, 11, none⟩ = some (.int .i64 t378) := (blk_cell BK382.out 11).trans rfl; have hfz21_0 := blk_frozen BK382.out 0; have hfz21_1 := blk_frozen BK382.out 1; have hfz21_2 := blk_frozen BK382.out 2; have hfz21_3 := blk_frozen BK382.out 3; have hfz21_4 := blk_frozen BK382.out 4; have hfz21_5 := blk_frozen BK382.out 5; have hfz21_6 := blk_frozen BK382.out 6; have hfz21_7 := blk_frozen BK382.out 7; have hfz21_8 := blk_frozen BK382.out 8; have hfz21_9 := blk_frozen BK382.out 9; have hfz21_10 := blk_frozen BK382.out 10; have hfz21_11 := blk_frozen BK382.out 11))
        go_ret
        exact ⟨by first | rfl | (simp [errW_none, errW_some] <;> rfl) | (simp [*, errW_none, errW_some] <;> rfl), by repeat (first | (with_reducible first | exact HB.out | apply below_alloc | apply pw_below_drewN | apply below_drew1 | refine below_set ?_ GE382.out | refine below_set ?_ GE398.out) | exact HB.out)⟩
       ·rw [if_neg c13] at H
        have c13b0 : (t380 == t396) = false := beq_eq_false_iff_ne.mpr c13
        have c13b1 : (t380 != t396) = true := bne_iff_ne.mpr c13
        obtain rfl := Option.some.inj H
        exact absurd hr_.out (by decide)
      ·rw [if_neg c12] at H
       have c12b0 : (t379 == t395) = false := beq_eq_false_iff_ne.mpr c12
       have c12b1 : (t379 != t395) = true := bne_iff_ne.mpr c12
       obtain rfl := Option.some.inj H
       exact absurd hr_.out (by decide)
     ·rw [if_neg c11] at H
      have c11b0 : (t367 == t383 && (t368 == t384 && ((t369 == t385 && (t370 == t386 && (t371 == t387 && (t372 == t388 && (t373 == t389))))) && ((t374 == t390 && (t375 == t391 && (t376 == t392 && (t377 == t393 && (t378 == t394))))))))) = false := by simpa using c11
      (try (have c11b1 : decide (t367 = t383 && (t368 == t384 && ((t369 == t385 && (t370 == t386 && (t371 == t387 && (t372 == t388 && (t373 == t389))))) && ((t374 == t390 && (t375 == t391 && (t376 == t392 && (t377 == t393 && (t378 == t394))))))))) = false := by simpa using c11))
      (try (have c11b2 : (t367 == t383 && (t368 == t384 && ((t369 == t385 && (t370 == t386 && (t371 == t387 && (t372 == t388 && (t373 == t389))))) && ((t374 == t390 && (t375 == t391 && (t376 == t392 && (t377 == t393 && (t378 == t394))))))))) = false := by simpa using c11))
      (try (have c11b3 : ¬ (t367 = t383 && (t368 == t384 && ((t369 == t385 && (t370 == t386 && (t371 == t387 && (t372 == t388 && (t373 == t389))))) && ((t374 == t390 && (t375 == t391 && (t376 == t392 && (t377 == t393 && (t378 == t394))))))))) := by simpa using c11))
      clear c11
      obtain rfl := Option.some.inj H
      exact absurd hr_.out (by decide)
 ·replace c4 := Bool.eq_false_iff.mpr c4
  subst c4
  have H1 : (some false) = some r := by rw [if_neg (show ¬ (false = true) by decide)] at H; exact H
  clear H
  have H := H1
  clear H1
  obtain rfl := Option.some.inj H
  exact absurd hr_.out (by decide)

end Go.Proofs.Ytcbjbgleflbpmaa.Print
