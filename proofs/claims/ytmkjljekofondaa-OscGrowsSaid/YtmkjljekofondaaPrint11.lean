-- PRINTED by print.py (a twelfth state) out of the translation. Not trusted: Lean checks it.
import Derived.Test.YtmkjljekofondaaPrint0
import Derived.Test.YtmkjljekofondaaPrint2
import Derived.Test.YtmkjljekofondaaPrint3
import Derived.Test.YtmkjljekofondaaPrint10
namespace Go.Proofs.Ytmkjljekofondaa.Print
open Go.RowKit Go.Proofs.YtmkjljekofondaaW.PrintWords Go.Proofs.YtmkjljekofondaaW.PrintLast Go.Proofs.YtmkjljekofondaaW.PrintMore Go.Proofs.YtmkjljekofondaaX
attribute [local go_sem] max2_int min2_int max_two min_two max_three min_three max_four min_four   -- for this text's walks alone
set_option linter.unusedVariables false
set_option linter.unusedSimpArgs false

/-! ### osc_Ticks: function 19 -/
def osc_Ticks.j0 : Nat → Int → Int → Bool → Int → Int → Int → Option (Int × Int)
 | 0, _, _, _, _, _, _ => none
 | k + 1, x1, x6, x29, x227000, x227001, x227002 => if x29 = true then (some (0, 1)) else ((bits_Mul64.f (IntKind.u64.wrap ((IntKind.u64.wrap (x1)) + 1)) 1000000000).bind fun bt233 => (if (IntKind.u64.wrap (bt233.1 - (sub64Hi bt233.2 (IntKind.u64.wrap ((IntKind.u64.wrap (x227002)) + 1))))) ≥ (IntKind.u64.wrap (x6)) then (some (1099511627776, 0)) else ((bits_Div64.f k (IntKind.u64.wrap (bt233.1 - (sub64Hi bt233.2 (IntKind.u64.wrap ((IntKind.u64.wrap (x227002)) + 1))))) (sub64Lo bt233.2 (IntKind.u64.wrap ((IntKind.u64.wrap (x227002)) + 1))) (IntKind.u64.wrap (x6))).bind fun bt235 => (some (wrap64 (mn bt235.1 1099511627776), 0)))))
def osc_Ticks.f (k : Nat) (a0_0 : Int) (a0_1 : Int) (a0_2 : Int) (a1 : Int) : Option (Int × Int) := (osc_Rate.f a0_0 a0_1 a0_2).bind fun bt227 => (if bt227.2 = 0 then (if a1 < 0 then (osc_Ticks.j0 k a1 bt227.1 true a0_0 a0_1 a0_2) else ((pico_May.f k (([a1] : List Int))).bind fun t232 => (osc_Ticks.j0 k a1 bt227.1 (!t232) a0_0 a0_1 a0_2))) else (osc_Ticks.j0 k a1 bt227.1 true a0_0 a0_1 a0_2))
theorem osc_Ticks.mono_l : ∀ k, (∀ y0 y1 y2 y3 y4 y5, LeO (osc_Ticks.j0 k y0 y1 y2 y3 y4 y5) (osc_Ticks.j0 (k + 1) y0 y1 y2 y3 y4 y5))
 | 0 => fun _ _ _ _ _ _ r h => by simp [osc_Ticks.j0] at h
 | k + 1 => by
  have ih0 := osc_Ticks.mono_l k
  ·intro y0 y1 y2 y3 y4 y5
   unfold osc_Ticks.j0
   repeat' first
   | (with_reducible exact ih0 _ _ _ _ _ _)
   | (with_reducible exact bits_Div64.mono _ _ _ _)
   | (with_reducible exact pico_May.mono _ _)
   | (with_reducible exact LeO.refl _)
   | (with_reducible exact LeO.none _)
   | (with_reducible refine LeO.ite ?_ ?_)
   | (with_reducible refine LeO.bind ?_ (fun _ => ?_))
   | exact ih0 _ _ _ _ _ _
   | exact bits_Div64.mono _ _ _ _
   | exact pico_May.mono _ _
   | exact LeO.none _
   | refine LeO.ite ?_ ?_
   | refine LeO.bind ?_ (fun _ => ?_)
theorem osc_Ticks.mono : ∀ a0 a1 a2 a3 k, LeO (osc_Ticks.f k a0 a1 a2 a3) (osc_Ticks.f (k + 1) a0 a1 a2 a3) := by
 intro a0 a1 a2 a3 k
 have ih0 := osc_Ticks.mono_l k
 unfold osc_Ticks.f
 repeat' first
   | (with_reducible exact ih0 _ _ _ _ _ _)
   | (with_reducible exact bits_Div64.mono _ _ _ _)
   | (with_reducible exact pico_May.mono _ _)
   | (with_reducible exact LeO.refl _)
   | (with_reducible exact LeO.none _)
   | (with_reducible refine LeO.ite ?_ ?_)
   | (with_reducible refine LeO.bind ?_ (fun _ => ?_))
   | exact ih0 _ _ _ _ _ _
   | exact bits_Div64.mono _ _ _ _
   | exact pico_May.mono _ _
   | exact LeO.none _
   | refine LeO.ite ?_ ?_
   | refine LeO.bind ?_ (fun _ => ?_)
set_option maxHeartbeats 8000000 in
set_option maxRecDepth 100000 in
theorem osc_Ticks.calls (k : Nat) (a0_0 : Int) (a0_1 : Int) (a0_2 : Int) (a1 : Int) (r1 : Int) (r2 : Int) (w : World) (h : osc_Ticks.f k a0_0 a0_1 a0_2 a1 = some (r1, r2)) :
  Calls Try.prog 19 #[.agg #[.int .i64 a0_0, .int .i64 a0_1, .int .i64 a0_2], .int .i64 a1] w fun e w' => e = .returned (.tuple #[.int .i64 r1, .int .i64 r2]) ∧ Below w.heap.size w w' := by
 have hext38 := bits_Sub64.run
 have hu23 := Try.underlying23
 have HB := Aside0.mk (Below.refl w.heap.size w)
 have H : ((osc_Rate.f a0_0 a0_1 a0_2).bind fun bt227 => (if bt227.2 = 0 then (if a1 < 0 then (osc_Ticks.j0 k a1 bt227.1 true a0_0 a0_1 a0_2) else ((pico_May.f k (([a1] : List Int))).bind fun t232 => (osc_Ticks.j0 k a1 bt227.1 (!t232) a0_0 a0_1 a0_2))) else (osc_Ticks.j0 k a1 bt227.1 true a0_0 a0_1 a0_2))) = some (r1, r2) := h
 clear h
 replace H := Option.bind_eq_some_iff.mp H
 obtain ⟨⟨t227, t228⟩, A30, H⟩ := H
 replace H : (if t228 = 0 then (if a1 < 0 then (osc_Ticks.j0 k a1 t227 true a0_0 a0_1 a0_2) else ((pico_May.f k (([a1] : List Int))).bind fun t232 => (osc_Ticks.j0 k a1 t227 (!t232) a0_0 a0_1 a0_2))) else (osc_Ticks.j0 k a1 t227 true a0_0 a0_1 a0_2)) = some (r1, r2) := H
 have A3 := Aside0.mk A30
 clear A30
 have HC4 := Aside0.mk H
 clear H
 go_enter Try.func19, Try.ntmps19
 go_upto_region 2 with (first | ((with_reducible refine gate_dst (N := 2) rfl ?_); (try (refine gate_guard (by rfl) ?_; dsimp only)); refine box_event ?hg (N := 2) ?hd (cs := #[.int .i64 a0_0, .int .i64 a0_1, .int .i64 a0_2]) (t := 23) ?hr ?_; (case hd => rfl); (case hg => rfl); (case hr => first | (go_simp; done) | (go_simp; rfl)); intro gb226 hg w5 hbox hb; have n0_ := Aside0.mk (below_step (by repeat (first | (with_reducible first | exact HB.out | apply below_alloc | apply pw_below_drewN | apply below_drew1) | exact HB.out)) hb); have n1_ := Aside0.mk (hbox); have n2_ := Aside0.mk ((by rw [hg]; exact (below_size (by repeat (first | (with_reducible first | exact HB.out | apply below_alloc | apply pw_below_drewN | apply below_drew1) | exact HB.out))) : w.heap.size ≤ gb226)); have n3_ := Aside0.mk ((by rw [hg]; exact (below_size (by repeat (first | (with_reducible first | exact HB.out | apply below_alloc | apply pw_below_drewN | apply below_drew1) | exact HB.out))) : w.heap.size ≤ gb226)); clear HB; have HB := n0_; have BK226 := n1_; have GW226 := n2_; have GE226 := n3_; clear n0_ n1_ n2_ n3_; clear hb hbox hg; have hcz6_0 : w5.cell? ⟨gb226, 0, none⟩ = some (.int .i64 a0_0) := (blk_cell BK226.out 0).trans rfl; have hcz6_1 : w5.cell? ⟨gb226, 1, none⟩ = some (.int .i64 a0_1) := (blk_cell BK226.out 1).trans rfl; have hcz6_2 : w5.cell? ⟨gb226, 2, none⟩ = some (.int .i64 a0_2) := (blk_cell BK226.out 2).trans rfl; have hfz6_0 := blk_frozen BK226.out 0; have hfz6_1 := blk_frozen BK226.out 1; have hfz6_2 := blk_frozen BK226.out 2) | ((with_reducible refine gate_callee (f := 34) rfl ?_); refine goesL_ (some 15) rfl rfl Try.func34 (by kernel_rfl) rfl #[.agg #[.int .i64 a0_0, .int .i64 a0_1, .int .i64 a0_2]] rfl (by (try simp only [List.map_toArray, List.map_cons, List.map_nil]); first | done | rfl | (simp only [List.length_drop, List.length_take]; rfl)) ?_; (with_reducible refine (osc_Rate.calls a0_0 a0_1 a0_2 t227 t228 _ A3.out).mono ?_); rintro e w7 ⟨rfl, hb⟩; refine ⟨_, rfl, ?_⟩; have n0_ := Aside0.mk (blk_below (g := gb226) (o := .cells #[.int .i64 a0_0, .int .i64 a0_1, .int .i64 a0_2] 23 (0, 0)) (by (with_reducible repeat (first | refine blk_drewN ?_ _ | refine blk_drew ?_ | refine blk_alloc ?_ _)); exact BK226.out) hb); have n1_ := Aside0.mk (below_step (by repeat (first | (with_reducible first | exact HB.out | apply below_alloc | apply pw_below_drewN | apply below_drew1 | refine below_set ?_ GE226.out) | exact HB.out)) hb); clear BK226; clear HB; have BK226 := n0_; have HB := n1_; clear n0_ n1_; (try clear hb); (try clear hb2); (try clear hk); (try clear hi)))
 (try simp only [Act.put, List.setIfInBounds_toArray, List.set_cons_zero, List.set_cons_succ])
 go_cut [29] (fun v29 wc => ∃ (kq : Nat) (x29_3 : Bool), v29 = .bool x29_3 ∧ Aside0 (osc_Ticks.j0 kq a1 t227 x29_3 a0_0 a0_1 a0_2 = some (r1, r2)) ∧ Aside0 (kq ≤ k) ∧ Aside0 (wc.heap[gb226]? = some (.cells #[.int .i64 a0_0, .int .i64 a0_1, .int .i64 a0_2] 23 (0, 0))) ∧ Aside0 (Below w.heap.size w wc))
 case first =>
  have H := HC4.out
  clear HC4
  by_cases c8 : t228 = 0
  ·rw [if_pos c8] at H
   have c8b0 : (t228 == 0) = true := beq_iff_eq.mpr c8
   have c8b1 : (t228 != 0) = false := bne_eq_false_iff_eq.mpr c8
   clear c8
   (first | rw [c8b0] | (simp only [i64_w, i32_w]; rw [c8b0]) | skip)
   by_cases c9 : a1 < 0
   ·rw [if_pos c9] at H
    have c9b0 : decide (a1 < 0) = true := decide_eq_true c9
    clear c9
    have H' := Aside0.mk H
    clear H
    go_wp2
    go_meet
    case rel => exact ⟨_, (true), (by first | rfl | (simp; done) | (simp [*]; done)), H', ⟨by first | omega | exact Nat.le_refl _⟩, ⟨by (with_reducible repeat (first | refine blk_drewN ?_ _ | refine blk_drew ?_ | refine blk_alloc ?_ _)); exact BK226.out⟩, ⟨by repeat (first | (with_reducible first | exact HB.out | apply below_alloc | apply pw_below_drewN | apply below_drew1 | refine below_set ?_ GE226.out) | exact HB.out)⟩⟩
   ·rw [if_neg c9] at H
    have c9b0 : decide (a1 < 0) = false := decide_eq_false c9
    clear c9
    obtain ⟨y229, hy229⟩ : ∃ y_ : List Int, y_ = (([a1] : List Int)) := ⟨_, rfl⟩
    replace H : ((pico_May.f k y229).bind fun t232 => (osc_Ticks.j0 k a1 t227 (!t232) a0_0 a0_1 a0_2)) = some (r1, r2) := by first | (rw [hy229]; with_reducible exact H) | (have H2_ := (Option.bind_some _ _).symm.trans H; rw [hy229]; with_reducible exact H2_) | (have H2_ := (Option.bind_some _ _).symm.trans H; with_reducible exact H2_) | with_reducible exact H | (rw [hy229]; exact H) | exact H
    have Ny229 := Aside0.mk hy229
    clear hy229
    replace H := Option.bind_eq_some_iff.mp H
    obtain ⟨t232, A100, H⟩ := H
    replace H : (osc_Ticks.j0 k a1 t227 (!t232) a0_0 a0_1 a0_2) = some (r1, r2) := H
    have A10 := Aside0.mk A100
    clear A100
    have H' := Aside0.mk H
    clear H
    go_wp2_with (first | ((with_reducible refine gate_dst (N := 26) rfl ?_); (try (refine gate_guard (by rfl) ?_; dsimp only)); refine Kd.R_lit (Kd.int .i64) _ 2 ?hg (N := 26) ?hd (xs := ([a1] : List Int)) (inner := [.int .i64 a1]) (ok := fun _ => True) (okp := fun _ => True) ?hr ?hp (fun _ hk => hk) trivial (Below.refl _ _) (Nat.le_refl _) (by simp) ?_; (case hd => rfl); (case hg => rfl); (case hr => first | (go_simp; done) | (go_simp; rfl)); (case hp => exact (Reps.one (show Kd.M (Kd.int .i64) _ _ _ a1 [.int .i64 a1] from rfl) (Reps.none _ _))); intro v230 w11 ho12 hb hg_ hnew_; clear hg_ hnew_; (first | rw [← Ny229.out] at ho12 | (simp only [Int.reduceToNat] at ho12; rw [← Ny229.out] at ho12)); have n0_ := Aside0.mk (Kd.R_lower ho12 (below_size (by repeat (first | (with_reducible first | exact HB.out | apply below_alloc | apply pw_below_drewN | apply below_drew1 | refine below_set ?_ GE226.out) | exact HB.out)))); have n1_ := Aside0.mk (blk_below (g := gb226) (o := .cells #[.int .i64 a0_0, .int .i64 a0_1, .int .i64 a0_2] 23 (0, 0)) (by (with_reducible repeat (first | refine blk_drewN ?_ _ | refine blk_drew ?_ | refine blk_alloc ?_ _)); exact BK226.out) hb); have n2_ := Aside0.mk (below_step (by repeat (first | (with_reducible first | exact HB.out | apply below_alloc | apply pw_below_drewN | apply below_drew1 | refine below_set ?_ GE226.out) | exact HB.out)) hb); clear BK226; clear HB; have HO231 := n0_; have BK226 := n1_; have HB := n2_; clear n0_ n1_ n2_; clear hb ho12; obtain ⟨Ao13, co13, eo13⟩ := Kd.R_slice HO231.out; subst eo13) | (go_at_call 29; (with_reducible refine (pico_May.calls k _ _ y229 t232 _ ?side1 ?side2 A10.out).mono ?_); (case side1 => repeat (first | exact (Kd.R_reads' HO231.out).2.2 | (with_reducible refine Kd.C_alloc ?_ _) | (with_reducible refine Kd.C_drewN ?_ _) | (with_reducible refine Kd.C_drew ?_))); (case side2 => exact (Kd.R_reads' HO231.out).2.1); rintro e w14 ⟨rfl, hb⟩; have n0_ := Aside0.mk (Kd.R_below (by (with_reducible repeat (first | apply Kd.R_alloc | apply Kd.R_drewN | apply Kd.R_drew)); exact HO231.out) hb); have n1_ := Aside0.mk (blk_below (g := gb226) (o := .cells #[.int .i64 a0_0, .int .i64 a0_1, .int .i64 a0_2] 23 (0, 0)) (by (with_reducible repeat (first | refine blk_drewN ?_ _ | refine blk_drew ?_ | refine blk_alloc ?_ _)); exact BK226.out) hb); have n2_ := Aside0.mk (below_step (by repeat (first | (with_reducible first | exact HB.out | apply below_alloc | apply pw_below_drewN | apply below_drew1 | refine below_set ?_ GE226.out) | exact HB.out)) hb); clear HO231; clear BK226; clear HB; have HO231 := n0_; have BK226 := n1_; have HB := n2_; clear n0_ n1_ n2_; (try clear hb); (try clear hb2); (try clear hk); (try clear hi)))
    go_meet
    case rel => exact ⟨_, (!t232), (by first | rfl | (simp; done) | (simp [*]; done)), H', ⟨by first | omega | exact Nat.le_refl _⟩, ⟨by (with_reducible repeat (first | refine blk_drewN ?_ _ | refine blk_drew ?_ | refine blk_alloc ?_ _)); exact BK226.out⟩, ⟨by repeat (first | (with_reducible first | exact HB.out | apply below_alloc | apply pw_below_drewN | apply below_drew1 | refine below_set ?_ GE226.out) | exact HB.out)⟩⟩
  ·rw [if_neg c8] at H
   have c8b0 : (t228 == 0) = false := beq_eq_false_iff_ne.mpr c8
   have c8b1 : (t228 != 0) = true := bne_iff_ne.mpr c8
   (first | rw [c8b0] | (simp only [i64_w, i32_w]; rw [c8b0]) | skip)
   have H' := Aside0.mk H
   clear H
   go_wp2
   go_meet
   case rel => exact ⟨_, (true), (by first | rfl | (simp; done) | (simp [*]; done)), H', ⟨by first | omega | exact Nat.le_refl _⟩, ⟨by (with_reducible repeat (first | refine blk_drewN ?_ _ | refine blk_drew ?_ | refine blk_alloc ?_ _)); exact BK226.out⟩, ⟨by repeat (first | (with_reducible first | exact HB.out | apply below_alloc | apply pw_below_drewN | apply below_drew1 | refine below_set ?_ GE226.out) | exact HB.out)⟩⟩
 case rest =>
  clear HC4
  try clear c1
  try clear p2
  try clear c3
  try clear c8
  try clear c8b0
  try clear c8b1
  try clear c9
  try clear c9b0
  try clear hcz6_0
  try clear hcz6_1
  try clear hcz6_2
  try clear hfz6_0
  try clear hfz6_1
  try clear hfz6_2
  obtain ⟨kq, x29_3, rfl, HA, HJ3, BK226, HB⟩ := hcut
  cases kq with
  | zero => exact absurd HA.out (by simp [osc_Ticks.j0])
  | succ kj3 =>
   have H := HA.out
   clear HA
   simp only [osc_Ticks.j0] at H
   by_cases c15 : x29_3 = true
   ·subst c15
    have H1 : (some (0, 1)) = some (r1, r2) := by rw [if_pos rfl] at H; exact H
    clear H
    have H := H1
    clear H1
    simp only [Option.some.injEq, Prod.mk.injEq] at H
    obtain ⟨rfl, rfl⟩ := H
    go_wp2
    go_ret2
    exact ⟨by first | rfl | (simp [errW_none, errW_some] <;> rfl) | (simp [*, errW_none, errW_some] <;> rfl), by repeat (first | (with_reducible first | exact HB.out | apply below_alloc | apply pw_below_drewN | apply below_drew1 | refine below_set ?_ GE226.out) | exact HB.out)⟩
   ·replace c15 := Bool.eq_false_iff.mpr c15
    subst c15
    have H1 : ((bits_Mul64.f (IntKind.u64.wrap ((IntKind.u64.wrap (a1)) + 1)) 1000000000).bind fun bt233 => (if (IntKind.u64.wrap (bt233.1 - (sub64Hi bt233.2 (IntKind.u64.wrap ((IntKind.u64.wrap (a0_2)) + 1))))) ≥ (IntKind.u64.wrap (t227)) then (some (1099511627776, 0)) else ((bits_Div64.f kj3 (IntKind.u64.wrap (bt233.1 - (sub64Hi bt233.2 (IntKind.u64.wrap ((IntKind.u64.wrap (a0_2)) + 1))))) (sub64Lo bt233.2 (IntKind.u64.wrap ((IntKind.u64.wrap (a0_2)) + 1))) (IntKind.u64.wrap (t227))).bind fun bt235 => (some (wrap64 (mn bt235.1 1099511627776), 0))))) = some (r1, r2) := by rw [if_neg (show ¬ (false = true) by decide)] at H; exact H
    clear H
    have H := H1
    clear H1
    replace H := Option.bind_eq_some_iff.mp H
    obtain ⟨⟨t233, t234⟩, A160, H⟩ := H
    replace H : (if (IntKind.u64.wrap (t233 - (sub64Hi t234 (IntKind.u64.wrap ((IntKind.u64.wrap (a0_2)) + 1))))) ≥ (IntKind.u64.wrap (t227)) then (some (1099511627776, 0)) else ((bits_Div64.f kj3 (IntKind.u64.wrap (t233 - (sub64Hi t234 (IntKind.u64.wrap ((IntKind.u64.wrap (a0_2)) + 1))))) (sub64Lo t234 (IntKind.u64.wrap ((IntKind.u64.wrap (a0_2)) + 1))) (IntKind.u64.wrap (t227))).bind fun bt235 => (some (wrap64 (mn bt235.1 1099511627776), 0)))) = some (r1, r2) := H
    have A16 := Aside0.mk A160
    clear A160
    by_cases c17 : (IntKind.u64.wrap (t233 - (sub64Hi t234 (IntKind.u64.wrap ((IntKind.u64.wrap (a0_2)) + 1))))) ≥ (IntKind.u64.wrap (t227))
    ·rw [if_pos c17] at H
     have c17b0 : decide ((IntKind.u64.wrap (t227)) ≤ (IntKind.u64.wrap (t233 - (sub64Hi t234 (IntKind.u64.wrap ((IntKind.u64.wrap (a0_2)) + 1)))))) = true := decide_eq_true c17
     clear c17
     simp only [Option.some.injEq, Prod.mk.injEq] at H
     obtain ⟨rfl, rfl⟩ := H
     go_wp2_with (first | ((with_reducible refine gate_callee (f := 35) rfl ?_); refine goesL_ (some 34) rfl rfl Try.func35 (by kernel_rfl) rfl #[.int .u64 (IntKind.u64.wrap ((IntKind.u64.wrap (a1)) + 1)), .int .u64 1000000000] rfl (by (try simp only [List.map_toArray, List.map_cons, List.map_nil]); first | done | rfl | (simp only [List.length_drop, List.length_take]; rfl)) ?_; (with_reducible refine (bits_Mul64.calls (IntKind.u64.wrap ((IntKind.u64.wrap (a1)) + 1)) 1000000000 t233 t234 _ A16.out).mono ?_); rintro e w' ⟨rfl, ⟨nd, rfl⟩⟩; refine ⟨_, rfl, ?_⟩; have hcz18_0 : wc.cell? ⟨gb226, 0, none⟩ = some (.int .i64 a0_0) := (blk_cell BK226.out 0).trans rfl; have hcz18_1 : wc.cell? ⟨gb226, 1, none⟩ = some (.int .i64 a0_1) := (blk_cell BK226.out 1).trans rfl; have hcz18_2 : wc.cell? ⟨gb226, 2, none⟩ = some (.int .i64 a0_2) := (blk_cell BK226.out 2).trans rfl; have hfz18_0 := blk_frozen BK226.out 0; have hfz18_1 := blk_frozen BK226.out 1; have hfz18_2 := blk_frozen BK226.out 2))
     go_ret2
     exact ⟨by first | rfl | (simp [errW_none, errW_some] <;> rfl) | (simp [*, errW_none, errW_some] <;> rfl), by repeat (first | (with_reducible first | exact HB.out | apply below_alloc | apply pw_below_drewN | apply below_drew1 | refine below_set ?_ GE226.out) | exact HB.out)⟩
    ·rw [if_neg c17] at H
     have c17b0 : decide ((IntKind.u64.wrap (t227)) ≤ (IntKind.u64.wrap (t233 - (sub64Hi t234 (IntKind.u64.wrap ((IntKind.u64.wrap (a0_2)) + 1)))))) = false := decide_eq_false c17
     clear c17
     replace H := Option.bind_eq_some_iff.mp H
     obtain ⟨⟨t235, t236⟩, A190, H⟩ := H
     replace H : (some (wrap64 (mn t235 1099511627776), 0)) = some (r1, r2) := H
     have A19 := Aside0.mk A190
     clear A190
     obtain ⟨ji20, hji20⟩ : ∃ j_ : Int, (mn t235 1099511627776) = j_ := ⟨_, rfl⟩
     replace H : (some (wrap64 (ji20), 0)) = some (r1, r2) := by first | (rw [hji20] at H; exact H) | (simp only [hji20] at H ⊢; exact H)
     (try rw [hji20] at A16)
     (try rw [hji20] at A19)
     (try (have hji20h : ji20 ≤ 1099511627776 := by (rw [← hji20]; unfold mn; (repeat' split) <;> omega)))
     (try (have hji20g : ji20 ≤ 64 := by omega))
     have hji20_ : (if 1099511627776 < t235 then 1099511627776 else t235) = ji20 := hji20
     simp only [Option.some.injEq, Prod.mk.injEq] at H
     obtain ⟨rfl, rfl⟩ := H
     go_wp2_with (first | ((with_reducible refine gate_callee (f := 35) rfl ?_); refine goesL_ (some 34) rfl rfl Try.func35 (by kernel_rfl) rfl #[.int .u64 (IntKind.u64.wrap ((IntKind.u64.wrap (a1)) + 1)), .int .u64 1000000000] rfl (by (try simp only [List.map_toArray, List.map_cons, List.map_nil]); first | done | rfl | (simp only [List.length_drop, List.length_take]; rfl)) ?_; (with_reducible refine (bits_Mul64.calls (IntKind.u64.wrap ((IntKind.u64.wrap (a1)) + 1)) 1000000000 t233 t234 _ A16.out).mono ?_); rintro e w' ⟨rfl, ⟨nd, rfl⟩⟩; refine ⟨_, rfl, ?_⟩; have hcz21_0 : wc.cell? ⟨gb226, 0, none⟩ = some (.int .i64 a0_0) := (blk_cell BK226.out 0).trans rfl; have hcz21_1 : wc.cell? ⟨gb226, 1, none⟩ = some (.int .i64 a0_1) := (blk_cell BK226.out 1).trans rfl; have hcz21_2 : wc.cell? ⟨gb226, 2, none⟩ = some (.int .i64 a0_2) := (blk_cell BK226.out 2).trans rfl; have hfz21_0 := blk_frozen BK226.out 0; have hfz21_1 := blk_frozen BK226.out 1; have hfz21_2 := blk_frozen BK226.out 2) | ((with_reducible refine gate_callee (f := 37) rfl ?_); refine goesL_ (some 58) rfl rfl Try.func37 (by kernel_rfl) rfl #[.int .u64 (IntKind.u64.wrap (t233 - (sub64Hi t234 (IntKind.u64.wrap ((IntKind.u64.wrap (a0_2)) + 1))))), .int .u64 (sub64Lo t234 (IntKind.u64.wrap ((IntKind.u64.wrap (a0_2)) + 1))), .int .u64 (IntKind.u64.wrap (t227))] rfl (by (try simp only [List.map_toArray, List.map_cons, List.map_nil]); first | done | rfl | (simp only [List.length_drop, List.length_take]; rfl)) ?_; (with_reducible refine (bits_Div64.calls kj3 (IntKind.u64.wrap (t233 - (sub64Hi t234 (IntKind.u64.wrap ((IntKind.u64.wrap (a0_2)) + 1))))) (sub64Lo t234 (IntKind.u64.wrap ((IntKind.u64.wrap (a0_2)) + 1))) (IntKind.u64.wrap (t227)) t235 t236 _ A19.out).mono ?_); rintro e w' ⟨rfl, ⟨nd, rfl⟩⟩; refine ⟨_, rfl, ?_⟩))
     go_ret2
     exact ⟨by first | rfl | (simp [errW_none, errW_some] <;> rfl) | (simp only [← hji20]; first | rfl | (simp [errW_none, errW_some] <;> rfl)) | (simp [*, errW_none, errW_some] <;> rfl), by repeat (first | (with_reducible first | exact HB.out | apply below_alloc | apply pw_below_drewN | apply below_drew1 | refine below_set ?_ GE226.out) | exact HB.out)⟩

end Go.Proofs.Ytmkjljekofondaa.Print
