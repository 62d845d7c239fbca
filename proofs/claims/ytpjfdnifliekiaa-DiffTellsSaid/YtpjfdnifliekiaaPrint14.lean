-- PRINTED by print.py (a twelfth state) out of the translation. Not trusted: Lean checks it.
import Derived.Test.YtpjfdnifliekiaaPrint0
import Derived.Test.YtpjfdnifliekiaaPrint2
import Derived.Test.YtpjfdnifliekiaaPrint4
import Derived.Test.YtpjfdnifliekiaaPrint5
import Derived.Test.YtpjfdnifliekiaaPrint6
import Derived.Test.YtpjfdnifliekiaaPrint10
import Derived.Test.YtpjfdnifliekiaaPrint11
import Derived.Test.YtpjfdnifliekiaaPrint12
import Derived.Test.YtpjfdnifliekiaaPrint13
namespace Go.Proofs.Ytpjfdnifliekiaa.Print
open Go.RowKit Go.Proofs.YtpjfdnifliekiaaW.PrintWords Go.Proofs.YtpjfdnifliekiaaW.PrintLast Go.Proofs.YtpjfdnifliekiaaW.PrintMore Go.Proofs.YtpjfdnifliekiaaX
attribute [local go_sem] max2_int min2_int max_two min_two max_three min_three max_four min_four   -- for this text's walks alone
set_option linter.unusedVariables false
set_option linter.unusedSimpArgs false

attribute [local go_sem high] eqA27
/-! ### palletlaw23_DiffTells: function 5 -/
def palletlaw23_DiffTells.j0 : Nat → List (S25) → List (S25) → Bool → Bool → Int → Int → Int → Int → Int → Int → Int → Int → Int → Int → Int → Int → Option (Bool)
 | 0, _, _, _, _, _, _, _, _, _, _, _, _, _, _, _, _ => none
 | k + 1, x0, x1, x7, x18, x242000, x242001, x242002, x242003, x242004, x242005, x242006, x242007, x242008, x242009, x242010, x242011 => if x18 = true then (some x7) else (if x7 = true then ((diff_Prefix.f k x0 x1).bind fun t243 => ((palletref23_Prefix.f k x0 x1).bind fun t244 => (if t243 = t244 then ((diff_Events.f k x0 x1).bind fun bt245 => ((palletref23_Events.f k x0 x1).bind fun bt257 => (if (bt245.1 == bt257.1 && (bt245.2.1 == bt257.2.1 && ((bt245.2.2.1 == bt257.2.2.1 && (bt245.2.2.2.1 == bt257.2.2.2.1 && (bt245.2.2.2.2.1 == bt257.2.2.2.2.1 && (bt245.2.2.2.2.2.1 == bt257.2.2.2.2.2.1 && (bt245.2.2.2.2.2.2.1 == bt257.2.2.2.2.2.2.1))))) && ((bt245.2.2.2.2.2.2.2.1 == bt257.2.2.2.2.2.2.2.1 && (bt245.2.2.2.2.2.2.2.2.1 == bt257.2.2.2.2.2.2.2.2.1 && (bt245.2.2.2.2.2.2.2.2.2.1 == bt257.2.2.2.2.2.2.2.2.2.1 && (bt245.2.2.2.2.2.2.2.2.2.2.1 == bt257.2.2.2.2.2.2.2.2.2.2.1 && (bt245.2.2.2.2.2.2.2.2.2.2.2 == bt257.2.2.2.2.2.2.2.2.2.2.2))))))))) = true then ((diff_Back.f x242000 x242001 x242002 x242003 x242004 x242005 x242006 x242007 x242008 x242009 x242010 x242011).bind fun bt269 => ((palletref23_Back.f k x242000 x242001 x242002 x242003 x242004 x242005 x242006 x242007 x242008 x242009 x242010 x242011).bind fun bt281 => (some (bt269.1 == bt281.1 && (bt269.2.1 == bt281.2.1 && ((bt269.2.2.1 == bt281.2.2.1 && (bt269.2.2.2.1 == bt281.2.2.2.1 && (bt269.2.2.2.2.1 == bt281.2.2.2.2.1 && (bt269.2.2.2.2.2.1 == bt281.2.2.2.2.2.1 && (bt269.2.2.2.2.2.2.1 == bt281.2.2.2.2.2.2.1))))) && ((bt269.2.2.2.2.2.2.2.1 == bt281.2.2.2.2.2.2.2.1 && (bt269.2.2.2.2.2.2.2.2.1 == bt281.2.2.2.2.2.2.2.2.1 && (bt269.2.2.2.2.2.2.2.2.2.1 == bt281.2.2.2.2.2.2.2.2.2.1 && (bt269.2.2.2.2.2.2.2.2.2.2.1 == bt281.2.2.2.2.2.2.2.2.2.2.1 && (bt269.2.2.2.2.2.2.2.2.2.2.2 == bt281.2.2.2.2.2.2.2.2.2.2.2)))))))))))) else (some false)))) else (some false)))) else (some false))
def palletlaw23_DiffTells.f (k : Nat) (l0 : List (S25)) (l1 : List (S25)) (a2_0 : Int) (a2_1 : Int) (a2_2 : Int) (a2_3 : Int) (a2_4 : Int) (a2_5 : Int) (a2_6 : Int) (a2_7 : Int) (a2_8 : Int) (a2_9 : Int) (a2_10 : Int) (a2_11 : Int) : Option (Bool) := (palletlaw23_live.f k).bind fun t242 => (if t242 = true then (if (l0.length : Int) > 300 then (palletlaw23_DiffTells.j0 k l0 l1 t242 true a2_0 a2_1 a2_2 a2_3 a2_4 a2_5 a2_6 a2_7 a2_8 a2_9 a2_10 a2_11) else (palletlaw23_DiffTells.j0 k l0 l1 t242 (decide ((l1.length : Int) > 300)) a2_0 a2_1 a2_2 a2_3 a2_4 a2_5 a2_6 a2_7 a2_8 a2_9 a2_10 a2_11)) else (some false))
theorem palletlaw23_DiffTells.mono_l : ∀ k, (∀ y0 y1 y2 y3 y4 y5 y6 y7 y8 y9 y10 y11 y12 y13 y14 y15, LeO (palletlaw23_DiffTells.j0 k y0 y1 y2 y3 y4 y5 y6 y7 y8 y9 y10 y11 y12 y13 y14 y15) (palletlaw23_DiffTells.j0 (k + 1) y0 y1 y2 y3 y4 y5 y6 y7 y8 y9 y10 y11 y12 y13 y14 y15))
 | 0 => fun _ _ _ _ _ _ _ _ _ _ _ _ _ _ _ _ r h => by simp [palletlaw23_DiffTells.j0] at h
 | k + 1 => by
  have ih0 := palletlaw23_DiffTells.mono_l k
  ·intro y0 y1 y2 y3 y4 y5 y6 y7 y8 y9 y10 y11 y12 y13 y14 y15
   unfold palletlaw23_DiffTells.j0
   repeat' first
   | (with_reducible exact ih0 _ _ _ _ _ _ _ _ _ _ _ _ _ _ _ _)
   | (with_reducible exact diff_Events.mono _ _ _)
   | (with_reducible exact diff_Prefix.mono _ _ _)
   | (with_reducible exact palletlaw23_live.mono _)
   | (with_reducible exact palletref23_Back.mono _ _ _ _ _ _ _ _ _ _ _ _ _)
   | (with_reducible exact palletref23_Events.mono _ _ _)
   | (with_reducible exact palletref23_Prefix.mono _ _ _)
   | (with_reducible exact LeO.refl _)
   | (with_reducible exact LeO.none _)
   | (with_reducible refine LeO.ite ?_ ?_)
   | (with_reducible refine LeO.bind ?_ (fun _ => ?_))
   | exact ih0 _ _ _ _ _ _ _ _ _ _ _ _ _ _ _ _
   | exact diff_Events.mono _ _ _
   | exact diff_Prefix.mono _ _ _
   | exact palletlaw23_live.mono _
   | exact palletref23_Back.mono _ _ _ _ _ _ _ _ _ _ _ _ _
   | exact palletref23_Events.mono _ _ _
   | exact palletref23_Prefix.mono _ _ _
   | exact LeO.none _
   | refine LeO.ite ?_ ?_
   | refine LeO.bind ?_ (fun _ => ?_)
theorem palletlaw23_DiffTells.mono : ∀ a0 a1 a2 a3 a4 a5 a6 a7 a8 a9 a10 a11 a12 a13 k, LeO (palletlaw23_DiffTells.f k a0 a1 a2 a3 a4 a5 a6 a7 a8 a9 a10 a11 a12 a13) (palletlaw23_DiffTells.f (k + 1) a0 a1 a2 a3 a4 a5 a6 a7 a8 a9 a10 a11 a12 a13) := by
 intro a0 a1 a2 a3 a4 a5 a6 a7 a8 a9 a10 a11 a12 a13 k
 have ih0 := palletlaw23_DiffTells.mono_l k
 unfold palletlaw23_DiffTells.f
 repeat' first
   | (with_reducible exact ih0 _ _ _ _ _ _ _ _ _ _ _ _ _ _ _ _)
   | (with_reducible exact diff_Events.mono _ _ _)
   | (with_reducible exact diff_Prefix.mono _ _ _)
   | (with_reducible exact palletlaw23_live.mono _)
   | (with_reducible exact palletref23_Back.mono _ _ _ _ _ _ _ _ _ _ _ _ _)
   | (with_reducible exact palletref23_Events.mono _ _ _)
   | (with_reducible exact palletref23_Prefix.mono _ _ _)
   | (with_reducible exact LeO.refl _)
   | (with_reducible exact LeO.none _)
   | (with_reducible refine LeO.ite ?_ ?_)
   | (with_reducible refine LeO.bind ?_ (fun _ => ?_))
   | exact ih0 _ _ _ _ _ _ _ _ _ _ _ _ _ _ _ _
   | exact diff_Events.mono _ _ _
   | exact diff_Prefix.mono _ _ _
   | exact palletlaw23_live.mono _
   | exact palletref23_Back.mono _ _ _ _ _ _ _ _ _ _ _ _ _
   | exact palletref23_Events.mono _ _ _
   | exact palletref23_Prefix.mono _ _ _
   | exact LeO.none _
   | refine LeO.ite ?_ ?_
   | refine LeO.bind ?_ (fun _ => ?_)
def palletlaw23_DiffTells.T6 : Bool × List (List Nat × List Nat) := (true, [([], []), ([0], [0]), ([1], [1]), ([1], [1]), ([2, 3, 1, 1], [1, 2, 3]), ([1], [1]), ([1], [1]), ([5, 6, 4, 1], [1, 5, 6]), ([4, 7, 1], [1, 4, 7]), ([1, 8], [1, 8]), ([9, 7], [9]), ([10], [10]), ([10], [10]), ([11, 12, 10, 10], [10, 11, 12]), ([10], [10]), ([10], [10]), ([14, 15, 13, 10], [10, 14, 15]), ([13, 16, 10], [10, 13, 16]), ([10, 17], [10, 17]), ([18, 16], [18]), ([19], [19]), ([20, 19, 19], [19, 20]), ([19], [19]), ([22, 21, 19], [19, 22]), ([21, 23, 19], [19, 21, 23]), ([19, 24], [19, 24]), ([25, 23, 0, 1, 2, 3, 4, 5, 6, 7, 8, 9, 10, 11, 12, 13, 14, 15, 16, 17, 18, 19, 20, 21, 22, 23, 24, 25], [25])])
def palletlaw23_DiffTells.B6 : List Nat := [0, 1, 3, 3, 15, 3, 3, 127, 255, 511, 1023, 2047, 2047, 8191, 2047, 2047, 65535, 131071, 262143, 524287, 1048575, 2097151, 1048575, 8388607, 16777215, 33554431, 67108863]
theorem palletlaw23_DiffTells.tab6 : rtab .any (opsOf Try.f5 6) = palletlaw23_DiffTells.T6 := by kernel_rfl
theorem palletlaw23_DiffTells.bits6 : waitsOk palletlaw23_DiffTells.T6.2 palletlaw23_DiffTells.B6 = true := by kernel_rfl
set_option maxHeartbeats 8000000 in
set_option maxRecDepth 100000 in
theorem palletlaw23_DiffTells.calls (k : Nat) (A0 : Option Addr) (c0 : Nat) (l0 : List (S25)) (A1 : Option Addr) (c1 : Nat) (l1 : List (S25)) (a2_0 : Int) (a2_1 : Int) (a2_2 : Int) (a2_3 : Int) (a2_4 : Int) (a2_5 : Int) (a2_6 : Int) (a2_7 : Int) (a2_8 : Int) (a2_9 : Int) (a2_10 : Int) (a2_11 : Int) (r : Bool) (w : World) (hr0 : Kd.C k25 w A0 l0.length l0) (hc0 : l0.length ≤ c0) (hr1 : Kd.C k25 w A1 l1.length l1) (hc1 : l1.length ≤ c1) (hr_ : Aside0 (r = true)) (h : palletlaw23_DiffTells.f k l0 l1 a2_0 a2_1 a2_2 a2_3 a2_4 a2_5 a2_6 a2_7 a2_8 a2_9 a2_10 a2_11 = some r) :
  Calls Try.prog 5 #[.slice A0 l0.length c0, .slice A1 l1.length c1, .agg #[.int .i64 a2_0, .int .i64 a2_1, .int .i64 a2_2, .int .i64 a2_3, .int .i64 a2_4, .int .i64 a2_5, .int .i64 a2_6, .int .i64 a2_7, .int .i64 a2_8, .int .i64 a2_9, .int .i64 a2_10, .int .i64 a2_11]] w fun e w' => e = .returned (.bool r) ∧ Below w.heap.size w w' := by
 have hu27 := Try.underlying27
 have HR0 := Aside0.mk hr0
 have HC0 := Aside0.mk hc0
 clear hr0 hc0
 have HR1 := Aside0.mk hr1
 have HC1 := Aside0.mk hc1
 clear hr1 hc1
 have HB := Aside0.mk (Below.refl w.heap.size w)
 have H : ((palletlaw23_live.f k).bind fun t242 => (if t242 = true then (if (l0.length : Int) > 300 then (palletlaw23_DiffTells.j0 k l0 l1 t242 true a2_0 a2_1 a2_2 a2_3 a2_4 a2_5 a2_6 a2_7 a2_8 a2_9 a2_10 a2_11) else (palletlaw23_DiffTells.j0 k l0 l1 t242 (decide ((l1.length : Int) > 300)) a2_0 a2_1 a2_2 a2_3 a2_4 a2_5 a2_6 a2_7 a2_8 a2_9 a2_10 a2_11)) else (some false))) = some r := h
 clear h
 replace H := Option.bind_eq_some_iff.mp H
 obtain ⟨t242, A40, H⟩ := H
 replace H : (if t242 = true then (if (l0.length : Int) > 300 then (palletlaw23_DiffTells.j0 k l0 l1 t242 true a2_0 a2_1 a2_2 a2_3 a2_4 a2_5 a2_6 a2_7 a2_8 a2_9 a2_10 a2_11) else (palletlaw23_DiffTells.j0 k l0 l1 t242 (decide ((l1.length : Int) > 300)) a2_0 a2_1 a2_2 a2_3 a2_4 a2_5 a2_6 a2_7 a2_8 a2_9 a2_10 a2_11)) else (some false)) = some r := H
 have A4 := Aside0.mk A40
 clear A40
 by_cases c5 : t242 = true
 ·subst c5
  have H1 : (if (l0.length : Int) > 300 then (palletlaw23_DiffTells.j0 k l0 l1 true true a2_0 a2_1 a2_2 a2_3 a2_4 a2_5 a2_6 a2_7 a2_8 a2_9 a2_10 a2_11) else (palletlaw23_DiffTells.j0 k l0 l1 true (decide ((l1.length : Int) > 300)) a2_0 a2_1 a2_2 a2_3 a2_4 a2_5 a2_6 a2_7 a2_8 a2_9 a2_10 a2_11)) = some r := by rw [if_pos rfl] at H; exact H
  clear H
  have H := H1
  clear H1
  have HC6 := Aside0.mk H
  clear H
  go_enter Try.func5, Try.ntmps5
  go_upto_region 4 with (first | ((with_reducible refine gate_dst (N := 5) rfl ?_); (try (refine gate_guard (by rfl) ?_; dsimp only)); refine box_event ?hg (N := 5) ?hd (cs := #[.int .i64 a2_0, .int .i64 a2_1, .int .i64 a2_2, .int .i64 a2_3, .int .i64 a2_4, .int .i64 a2_5, .int .i64 a2_6, .int .i64 a2_7, .int .i64 a2_8, .int .i64 a2_9, .int .i64 a2_10, .int .i64 a2_11]) (t := 27) ?hr ?_; (case hd => rfl); (case hg => rfl); (case hr => first | (go_simp; done) | (go_simp; rfl)); intro gb241 hg w7 hbox hb; have n0_ := Aside0.mk (below_step (by repeat (first | (with_reducible first | exact HB.out | apply below_alloc | apply pw_below_drewN | apply below_drew1) | exact HB.out)) hb); have n1_ := Aside0.mk (hbox); have n2_ := Aside0.mk ((by rw [hg]; exact (below_size (by repeat (first | (with_reducible first | exact HB.out | apply below_alloc | apply pw_below_drewN | apply below_drew1) | exact HB.out))) : w.heap.size ≤ gb241)); have n3_ := Aside0.mk ((by rw [hg]; exact (below_size (by repeat (first | (with_reducible first | exact HB.out | apply below_alloc | apply pw_below_drewN | apply below_drew1) | exact HB.out))) : w.heap.size ≤ gb241)); clear HB; have HB := n0_; have BK241 := n1_; have GW241 := n2_; have GE241 := n3_; clear n0_ n1_ n2_ n3_; clear hb hbox hg) | ((with_reducible refine gate_callee (f := 7) rfl ?_); refine goesL_ (some 8) rfl rfl Try.func7 (by kernel_rfl) rfl #[] rfl (by (try simp only [List.map_toArray, List.map_cons, List.map_nil]); first | done | rfl | (simp only [List.length_drop, List.length_take]; rfl)) ?_; (with_reducible refine (palletlaw23_live.calls k  true _ A4.out).mono ?_); rintro e w8 ⟨rfl, hb⟩; refine ⟨_, rfl, ?_⟩; have n0_ := Aside0.mk (blk_below (g := gb241) (o := .cells #[.int .i64 a2_0, .int .i64 a2_1, .int .i64 a2_2, .int .i64 a2_3, .int .i64 a2_4, .int .i64 a2_5, .int .i64 a2_6, .int .i64 a2_7, .int .i64 a2_8, .int .i64 a2_9, .int .i64 a2_10, .int .i64 a2_11] 27 (0, 0)) (by (with_reducible repeat (first | refine blk_drewN ?_ _ | refine blk_drew ?_ | refine blk_alloc ?_ _)); exact BK241.out) hb); have n1_ := Aside0.mk (below_step (by repeat (first | (with_reducible first | exact HB.out | apply below_alloc | apply pw_below_drewN | apply below_drew1 | refine below_set ?_ GE241.out) | exact HB.out)) hb); clear BK241; clear HB; have BK241 := n0_; have HB := n1_; clear n0_ n1_; (try clear hb); (try clear hb2); (try clear hk); (try clear hi)))
  (try simp only [Act.put, List.setIfInBounds_toArray, List.set_cons_zero, List.set_cons_succ])
  go_cut [18] (fun v18 wc => ∃ (kq : Nat) (x18_5 : Bool), v18 = .bool x18_5 ∧ Aside0 (palletlaw23_DiffTells.j0 kq l0 l1 true x18_5 a2_0 a2_1 a2_2 a2_3 a2_4 a2_5 a2_6 a2_7 a2_8 a2_9 a2_10 a2_11 = some r) ∧ Aside0 (kq ≤ k) ∧ Aside0 (wc.heap[gb241]? = some (.cells #[.int .i64 a2_0, .int .i64 a2_1, .int .i64 a2_2, .int .i64 a2_3, .int .i64 a2_4, .int .i64 a2_5, .int .i64 a2_6, .int .i64 a2_7, .int .i64 a2_8, .int .i64 a2_9, .int .i64 a2_10, .int .i64 a2_11] 27 (0, 0))) ∧ Aside0 (Below w.heap.size w wc))
  case first =>
   have H := HC6.out
   clear HC6
   by_cases c9 : (l0.length : Int) > 300
   ·rw [if_pos c9] at H
    have c9b0 : decide (300 < (l0.length : Int)) = true := decide_eq_true c9
    have c9b1 : decide (300 < l0.length) = true := decide_eq_true (by omega)
    clear c9
    (first | rw [c9b0] | (simp only [i64_w, i32_w]; rw [c9b0]) | skip)
    have H' := Aside0.mk H
    clear H
    go_wp2
    go_meet
    case rel => exact ⟨_, (true), (by first | rfl | (simp; done) | (simp [*]; done)), H', ⟨by first | omega | exact Nat.le_refl _⟩, ⟨by (with_reducible repeat (first | refine blk_drewN ?_ _ | refine blk_drew ?_ | refine blk_alloc ?_ _)); exact BK241.out⟩, ⟨by repeat (first | (with_reducible first | exact HB.out | apply below_alloc | apply pw_below_drewN | apply below_drew1 | refine below_set ?_ GE241.out) | exact HB.out)⟩⟩
   ·rw [if_neg c9] at H
    have c9b0 : decide (300 < (l0.length : Int)) = false := decide_eq_false c9
    have c9b1 : decide (300 < l0.length) = false := decide_eq_false (by omega)
    clear c9
    (first | rw [c9b0] | (simp only [i64_w, i32_w]; rw [c9b0]) | skip)
    have H' := Aside0.mk H
    clear H
    go_wp2
    go_meet
    case rel => exact ⟨_, (decide ((l1.length : Int) > 300)), (by first | rfl | (simp; done) | (simp [*]; done)), H', ⟨by first | omega | exact Nat.le_refl _⟩, ⟨by (with_reducible repeat (first | refine blk_drewN ?_ _ | refine blk_drew ?_ | refine blk_alloc ?_ _)); exact BK241.out⟩, ⟨by repeat (first | (with_reducible first | exact HB.out | apply below_alloc | apply pw_below_drewN | apply below_drew1 | refine below_set ?_ GE241.out) | exact HB.out)⟩⟩
  case rest =>
   clear HC6
   try clear c1
   try clear p2
   try clear c5
   try clear c7
   try clear c9
   try clear c9b0
   try clear c9b1
   obtain ⟨kq, x18_5, rfl, HA, HJ5, BK241, HB⟩ := hcut
   cases kq with
   | zero => exact absurd HA.out (by simp [palletlaw23_DiffTells.j0])
   | succ kj5 =>
    have H := HA.out
    clear HA
    simp only [palletlaw23_DiffTells.j0] at H
    by_cases c10 : x18_5 = true
    ·subst c10
     have H1 : (some true) = some r := by rw [if_pos rfl] at H; exact H
     clear H
     have H := H1
     clear H1
     obtain rfl := Option.some.inj H
     go_wp2
     go_ret
     exact ⟨by first | rfl | (simp [errW_none, errW_some] <;> rfl) | (simp [*, errW_none, errW_some] <;> rfl), by repeat (first | (with_reducible first | exact HB.out | apply below_alloc | apply pw_below_drewN | apply below_drew1 | refine below_set ?_ GE241.out) | exact HB.out)⟩
    ·replace c10 := Bool.eq_false_iff.mpr c10
     subst c10
     have H1 : (if true = true then ((diff_Prefix.f kj5 l0 l1).bind fun t243 => ((palletref23_Prefix.f kj5 l0 l1).bind fun t244 => (if t243 = t244 then ((diff_Events.f kj5 l0 l1).bind fun bt245 => ((palletref23_Events.f kj5 l0 l1).bind fun bt257 => (if (bt245.1 == bt257.1 && (bt245.2.1 == bt257.2.1 && ((bt245.2.2.1 == bt257.2.2.1 && (bt245.2.2.2.1 == bt257.2.2.2.1 && (bt245.2.2.2.2.1 == bt257.2.2.2.2.1 && (bt245.2.2.2.2.2.1 == bt257.2.2.2.2.2.1 && (bt245.2.2.2.2.2.2.1 == bt257.2.2.2.2.2.2.1))))) && ((bt245.2.2.2.2.2.2.2.1 == bt257.2.2.2.2.2.2.2.1 && (bt245.2.2.2.2.2.2.2.2.1 == bt257.2.2.2.2.2.2.2.2.1 && (bt245.2.2.2.2.2.2.2.2.2.1 == bt257.2.2.2.2.2.2.2.2.2.1 && (bt245.2.2.2.2.2.2.2.2.2.2.1 == bt257.2.2.2.2.2.2.2.2.2.2.1 && (bt245.2.2.2.2.2.2.2.2.2.2.2 == bt257.2.2.2.2.2.2.2.2.2.2.2))))))))) = true then ((diff_Back.f a2_0 a2_1 a2_2 a2_3 a2_4 a2_5 a2_6 a2_7 a2_8 a2_9 a2_10 a2_11).bind fun bt269 => ((palletref23_Back.f kj5 a2_0 a2_1 a2_2 a2_3 a2_4 a2_5 a2_6 a2_7 a2_8 a2_9 a2_10 a2_11).bind fun bt281 => (some (bt269.1 == bt281.1 && (bt269.2.1 == bt281.2.1 && ((bt269.2.2.1 == bt281.2.2.1 && (bt269.2.2.2.1 == bt281.2.2.2.1 && (bt269.2.2.2.2.1 == bt281.2.2.2.2.1 && (bt269.2.2.2.2.2.1 == bt281.2.2.2.2.2.1 && (bt269.2.2.2.2.2.2.1 == bt281.2.2.2.2.2.2.1))))) && ((bt269.2.2.2.2.2.2.2.1 == bt281.2.2.2.2.2.2.2.1 && (bt269.2.2.2.2.2.2.2.2.1 == bt281.2.2.2.2.2.2.2.2.1 && (bt269.2.2.2.2.2.2.2.2.2.1 == bt281.2.2.2.2.2.2.2.2.2.1 && (bt269.2.2.2.2.2.2.2.2.2.2.1 == bt281.2.2.2.2.2.2.2.2.2.2.1 && (bt269.2.2.2.2.2.2.2.2.2.2.2 == bt281.2.2.2.2.2.2.2.2.2.2.2)))))))))))) else (some false)))) else (some false)))) else (some false)) = some r := by rw [if_neg (show ¬ (false = true) by decide)] at H; exact H
     clear H
     have H := H1
     clear H1
     have H1 : ((diff_Prefix.f kj5 l0 l1).bind fun t243 => ((palletref23_Prefix.f kj5 l0 l1).bind fun t244 => (if t243 = t244 then ((diff_Events.f kj5 l0 l1).bind fun bt245 => ((palletref23_Events.f kj5 l0 l1).bind fun bt257 => (if (bt245.1 == bt257.1 && (bt245.2.1 == bt257.2.1 && ((bt245.2.2.1 == bt257.2.2.1 && (bt245.2.2.2.1 == bt257.2.2.2.1 && (bt245.2.2.2.2.1 == bt257.2.2.2.2.1 && (bt245.2.2.2.2.2.1 == bt257.2.2.2.2.2.1 && (bt245.2.2.2.2.2.2.1 == bt257.2.2.2.2.2.2.1))))) && ((bt245.2.2.2.2.2.2.2.1 == bt257.2.2.2.2.2.2.2.1 && (bt245.2.2.2.2.2.2.2.2.1 == bt257.2.2.2.2.2.2.2.2.1 && (bt245.2.2.2.2.2.2.2.2.2.1 == bt257.2.2.2.2.2.2.2.2.2.1 && (bt245.2.2.2.2.2.2.2.2.2.2.1 == bt257.2.2.2.2.2.2.2.2.2.2.1 && (bt245.2.2.2.2.2.2.2.2.2.2.2 == bt257.2.2.2.2.2.2.2.2.2.2.2))))))))) = true then ((diff_Back.f a2_0 a2_1 a2_2 a2_3 a2_4 a2_5 a2_6 a2_7 a2_8 a2_9 a2_10 a2_11).bind fun bt269 => ((palletref23_Back.f kj5 a2_0 a2_1 a2_2 a2_3 a2_4 a2_5 a2_6 a2_7 a2_8 a2_9 a2_10 a2_11).bind fun bt281 => (some (bt269.1 == bt281.1 && (bt269.2.1 == bt281.2.1 && ((bt269.2.2.1 == bt281.2.2.1 && (bt269.2.2.2.1 == bt281.2.2.2.1 && (bt269.2.2.2.2.1 == bt281.2.2.2.2.1 && (bt269.2.2.2.2.2.1 == bt281.2.2.2.2.2.1 && (bt269.2.2.2.2.2.2.1 == bt281.2.2.2.2.2.2.1))))) && ((bt269.2.2.2.2.2.2.2.1 == bt281.2.2.2.2.2.2.2.1 && (bt269.2.2.2.2.2.2.2.2.1 == bt281.2.2.2.2.2.2.2.2.1 && (bt269.2.2.2.2.2.2.2.2.2.1 == bt281.2.2.2.2.2.2.2.2.2.1 && (bt269.2.2.2.2.2.2.2.2.2.2.1 == bt281.2.2.2.2.2.2.2.2.2.2.1 && (bt269.2.2.2.2.2.2.2.2.2.2.2 == bt281.2.2.2.2.2.2.2.2.2.2.2)))))))))))) else (some false)))) else (some false)))) = some r := by first | (rw [if_pos rfl] at H; exact H) | exact H
     clear H
     have H := H1
     clear H1
     replace H := Option.bind_eq_some_iff.mp H
     obtain ⟨t243, A110, H⟩ := H
     replace H : ((palletref23_Prefix.f kj5 l0 l1).bind fun t244 => (if t243 = t244 then ((diff_Events.f kj5 l0 l1).bind fun bt245 => ((palletref23_Events.f kj5 l0 l1).bind fun bt257 => (if (bt245.1 == bt257.1 && (bt245.2.1 == bt257.2.1 && ((bt245.2.2.1 == bt257.2.2.1 && (bt245.2.2.2.1 == bt257.2.2.2.1 && (bt245.2.2.2.2.1 == bt257.2.2.2.2.1 && (bt245.2.2.2.2.2.1 == bt257.2.2.2.2.2.1 && (bt245.2.2.2.2.2.2.1 == bt257.2.2.2.2.2.2.1))))) && ((bt245.2.2.2.2.2.2.2.1 == bt257.2.2.2.2.2.2.2.1 && (bt245.2.2.2.2.2.2.2.2.1 == bt257.2.2.2.2.2.2.2.2.1 && (bt245.2.2.2.2.2.2.2.2.2.1 == bt257.2.2.2.2.2.2.2.2.2.1 && (bt245.2.2.2.2.2.2.2.2.2.2.1 == bt257.2.2.2.2.2.2.2.2.2.2.1 && (bt245.2.2.2.2.2.2.2.2.2.2.2 == bt257.2.2.2.2.2.2.2.2.2.2.2))))))))) = true then ((diff_Back.f a2_0 a2_1 a2_2 a2_3 a2_4 a2_5 a2_6 a2_7 a2_8 a2_9 a2_10 a2_11).bind fun bt269 => ((palletref23_Back.f kj5 a2_0 a2_1 a2_2 a2_3 a2_4 a2_5 a2_6 a2_7 a2_8 a2_9 a2_10 a2_11).bind fun bt281 => (some (bt269.1 == bt281.1 && (bt269.2.1 == bt281.2.1 && ((bt269.2.2.1 == bt281.2.2.1 && (bt269.2.2.2.1 == bt281.2.2.2.1 && (bt269.2.2.2.2.1 == bt281.2.2.2.2.1 && (bt269.2.2.2.2.2.1 == bt281.2.2.2.2.2.1 && (bt269.2.2.2.2.2.2.1 == bt281.2.2.2.2.2.2.1))))) && ((bt269.2.2.2.2.2.2.2.1 == bt281.2.2.2.2.2.2.2.1 && (bt269.2.2.2.2.2.2.2.2.1 == bt281.2.2.2.2.2.2.2.2.1 && (bt269.2.2.2.2.2.2.2.2.2.1 == bt281.2.2.2.2.2.2.2.2.2.1 && (bt269.2.2.2.2.2.2.2.2.2.2.1 == bt281.2.2.2.2.2.2.2.2.2.2.1 && (bt269.2.2.2.2.2.2.2.2.2.2.2 == bt281.2.2.2.2.2.2.2.2.2.2.2)))))))))))) else (some false)))) else (some false))) = some r := H
     have A11 := Aside0.mk A110
     clear A110
     replace H := Option.bind_eq_some_iff.mp H
     obtain ⟨t244, A120, H⟩ := H
     replace H : (if t243 = t244 then ((diff_Events.f kj5 l0 l1).bind fun bt245 => ((palletref23_Events.f kj5 l0 l1).bind fun bt257 => (if (bt245.1 == bt257.1 && (bt245.2.1 == bt257.2.1 && ((bt245.2.2.1 == bt257.2.2.1 && (bt245.2.2.2.1 == bt257.2.2.2.1 && (bt245.2.2.2.2.1 == bt257.2.2.2.2.1 && (bt245.2.2.2.2.2.1 == bt257.2.2.2.2.2.1 && (bt245.2.2.2.2.2.2.1 == bt257.2.2.2.2.2.2.1))))) && ((bt245.2.2.2.2.2.2.2.1 == bt257.2.2.2.2.2.2.2.1 && (bt245.2.2.2.2.2.2.2.2.1 == bt257.2.2.2.2.2.2.2.2.1 && (bt245.2.2.2.2.2.2.2.2.2.1 == bt257.2.2.2.2.2.2.2.2.2.1 && (bt245.2.2.2.2.2.2.2.2.2.2.1 == bt257.2.2.2.2.2.2.2.2.2.2.1 && (bt245.2.2.2.2.2.2.2.2.2.2.2 == bt257.2.2.2.2.2.2.2.2.2.2.2))))))))) = true then ((diff_Back.f a2_0 a2_1 a2_2 a2_3 a2_4 a2_5 a2_6 a2_7 a2_8 a2_9 a2_10 a2_11).bind fun bt269 => ((palletref23_Back.f kj5 a2_0 a2_1 a2_2 a2_3 a2_4 a2_5 a2_6 a2_7 a2_8 a2_9 a2_10 a2_11).bind fun bt281 => (some (bt269.1 == bt281.1 && (bt269.2.1 == bt281.2.1 && ((bt269.2.2.1 == bt281.2.2.1 && (bt269.2.2.2.1 == bt281.2.2.2.1 && (bt269.2.2.2.2.1 == bt281.2.2.2.2.1 && (bt269.2.2.2.2.2.1 == bt281.2.2.2.2.2.1 && (bt269.2.2.2.2.2.2.1 == bt281.2.2.2.2.2.2.1))))) && ((bt269.2.2.2.2.2.2.2.1 == bt281.2.2.2.2.2.2.2.1 && (bt269.2.2.2.2.2.2.2.2.1 == bt281.2.2.2.2.2.2.2.2.1 && (bt269.2.2.2.2.2.2.2.2.2.1 == bt281.2.2.2.2.2.2.2.2.2.1 && (bt269.2.2.2.2.2.2.2.2.2.2.1 == bt281.2.2.2.2.2.2.2.2.2.2.1 && (bt269.2.2.2.2.2.2.2.2.2.2.2 == bt281.2.2.2.2.2.2.2.2.2.2.2)))))))))))) else (some false)))) else (some false)) = some r := H
     have A12 := Aside0.mk A120
     clear A120
     by_cases c13 : t243 = t244
     ·rw [if_pos c13] at H
      have c13b0 : (t243 == t244) = true := beq_iff_eq.mpr c13
      have c13b1 : (t243 != t244) = false := bne_eq_false_iff_eq.mpr c13
      clear c13
      replace H := Option.bind_eq_some_iff.mp H
      obtain ⟨⟨t245, t246, t247, t248, t249, t250, t251, t252, t253, t254, t255, t256⟩, A140, H⟩ := H
      replace H : ((palletref23_Events.f kj5 l0 l1).bind fun bt257 => (if (t245 == bt257.1 && (t246 == bt257.2.1 && ((t247 == bt257.2.2.1 && (t248 == bt257.2.2.2.1 && (t249 == bt257.2.2.2.2.1 && (t250 == bt257.2.2.2.2.2.1 && (t251 == bt257.2.2.2.2.2.2.1))))) && ((t252 == bt257.2.2.2.2.2.2.2.1 && (t253 == bt257.2.2.2.2.2.2.2.2.1 && (t254 == bt257.2.2.2.2.2.2.2.2.2.1 && (t255 == bt257.2.2.2.2.2.2.2.2.2.2.1 && (t256 == bt257.2.2.2.2.2.2.2.2.2.2.2))))))))) = true then ((diff_Back.f a2_0 a2_1 a2_2 a2_3 a2_4 a2_5 a2_6 a2_7 a2_8 a2_9 a2_10 a2_11).bind fun bt269 => ((palletref23_Back.f kj5 a2_0 a2_1 a2_2 a2_3 a2_4 a2_5 a2_6 a2_7 a2_8 a2_9 a2_10 a2_11).bind fun bt281 => (some (bt269.1 == bt281.1 && (bt269.2.1 == bt281.2.1 && ((bt269.2.2.1 == bt281.2.2.1 && (bt269.2.2.2.1 == bt281.2.2.2.1 && (bt269.2.2.2.2.1 == bt281.2.2.2.2.1 && (bt269.2.2.2.2.2.1 == bt281.2.2.2.2.2.1 && (bt269.2.2.2.2.2.2.1 == bt281.2.2.2.2.2.2.1))))) && ((bt269.2.2.2.2.2.2.2.1 == bt281.2.2.2.2.2.2.2.1 && (bt269.2.2.2.2.2.2.2.2.1 == bt281.2.2.2.2.2.2.2.2.1 && (bt269.2.2.2.2.2.2.2.2.2.1 == bt281.2.2.2.2.2.2.2.2.2.1 && (bt269.2.2.2.2.2.2.2.2.2.2.1 == bt281.2.2.2.2.2.2.2.2.2.2.1 && (bt269.2.2.2.2.2.2.2.2.2.2.2 == bt281.2.2.2.2.2.2.2.2.2.2.2)))))))))))) else (some false))) = some r := H
      have A14 := Aside0.mk A140
      clear A140
      replace H := Option.bind_eq_some_iff.mp H
      obtain ⟨⟨t257, t258, t259, t260, t261, t262, t263, t264, t265, t266, t267, t268⟩, A150, H⟩ := H
      replace H : (if (t245 == t257 && (t246 == t258 && ((t247 == t259 && (t248 == t260 && (t249 == t261 && (t250 == t262 && (t251 == t263))))) && ((t252 == t264 && (t253 == t265 && (t254 == t266 && (t255 == t267 && (t256 == t268))))))))) = true then ((diff_Back.f a2_0 a2_1 a2_2 a2_3 a2_4 a2_5 a2_6 a2_7 a2_8 a2_9 a2_10 a2_11).bind fun bt269 => ((palletref23_Back.f kj5 a2_0 a2_1 a2_2 a2_3 a2_4 a2_5 a2_6 a2_7 a2_8 a2_9 a2_10 a2_11).bind fun bt281 => (some (bt269.1 == bt281.1 && (bt269.2.1 == bt281.2.1 && ((bt269.2.2.1 == bt281.2.2.1 && (bt269.2.2.2.1 == bt281.2.2.2.1 && (bt269.2.2.2.2.1 == bt281.2.2.2.2.1 && (bt269.2.2.2.2.2.1 == bt281.2.2.2.2.2.1 && (bt269.2.2.2.2.2.2.1 == bt281.2.2.2.2.2.2.1))))) && ((bt269.2.2.2.2.2.2.2.1 == bt281.2.2.2.2.2.2.2.1 && (bt269.2.2.2.2.2.2.2.2.1 == bt281.2.2.2.2.2.2.2.2.1 && (bt269.2.2.2.2.2.2.2.2.2.1 == bt281.2.2.2.2.2.2.2.2.2.1 && (bt269.2.2.2.2.2.2.2.2.2.2.1 == bt281.2.2.2.2.2.2.2.2.2.2.1 && (bt269.2.2.2.2.2.2.2.2.2.2.2 == bt281.2.2.2.2.2.2.2.2.2.2.2)))))))))))) else (some false)) = some r := H
      have A15 := Aside0.mk A150
      clear A150
      by_cases c16 : (t245 == t257 && (t246 == t258 && ((t247 == t259 && (t248 == t260 && (t249 == t261 && (t250 == t262 && (t251 == t263))))) && ((t252 == t264 && (t253 == t265 && (t254 == t266 && (t255 == t267 && (t256 == t268))))))))) = true
      ·rw [if_pos c16] at H
       have c16b0 : (t245 == t257 && (t246 == t258 && ((t247 == t259 && (t248 == t260 && (t249 == t261 && (t250 == t262 && (t251 == t263))))) && ((t252 == t264 && (t253 == t265 && (t254 == t266 && (t255 == t267 && (t256 == t268))))))))) = true := c16
       (try (have c16b1 : decide (t245 = t257 && (t246 == t258 && ((t247 == t259 && (t248 == t260 && (t249 == t261 && (t250 == t262 && (t251 == t263))))) && ((t252 == t264 && (t253 == t265 && (t254 == t266 && (t255 == t267 && (t256 == t268))))))))) = true := by simpa using c16))
       (try (have c16b2 : (t245 == t257 && (t246 == t258 && ((t247 == t259 && (t248 == t260 && (t249 == t261 && (t250 == t262 && (t251 == t263))))) && ((t252 == t264 && (t253 == t265 && (t254 == t266 && (t255 == t267 && (t256 == t268))))))))) = true := by simpa using c16))
       clear c16
       replace H := Option.bind_eq_some_iff.mp H
       obtain ⟨⟨t269, t270, t271, t272, t273, t274, t275, t276, t277, t278, t279, t280⟩, A170, H⟩ := H
       replace H : ((palletref23_Back.f kj5 a2_0 a2_1 a2_2 a2_3 a2_4 a2_5 a2_6 a2_7 a2_8 a2_9 a2_10 a2_11).bind fun bt281 => (some (t269 == bt281.1 && (t270 == bt281.2.1 && ((t271 == bt281.2.2.1 && (t272 == bt281.2.2.2.1 && (t273 == bt281.2.2.2.2.1 && (t274 == bt281.2.2.2.2.2.1 && (t275 == bt281.2.2.2.2.2.2.1))))) && ((t276 == bt281.2.2.2.2.2.2.2.1 && (t277 == bt281.2.2.2.2.2.2.2.2.1 && (t278 == bt281.2.2.2.2.2.2.2.2.2.1 && (t279 == bt281.2.2.2.2.2.2.2.2.2.2.1 && (t280 == bt281.2.2.2.2.2.2.2.2.2.2.2))))))))))) = some r := H
       have A17 := Aside0.mk A170
       clear A170
       replace H := Option.bind_eq_some_iff.mp H
       obtain ⟨⟨t281, t282, t283, t284, t285, t286, t287, t288, t289, t290, t291, t292⟩, A180, H⟩ := H
       replace H : (some (t269 == t281 && (t270 == t282 && ((t271 == t283 && (t272 == t284 && (t273 == t285 && (t274 == t286 && (t275 == t287))))) && ((t276 == t288 && (t277 == t289 && (t278 == t290 && (t279 == t291 && (t280 == t292)))))))))) = some r := H
       have A18 := Aside0.mk A180
       clear A180
       obtain rfl := Option.some.inj H
       try go_wp2
       have n0_ := Aside0.mk (blk_drew BK241.out)
       have n1_ := Aside0.mk (below_drew1 HB.out)
       clear BK241
       clear HB
       have BK241 := n0_
       have HB := n1_
       clear n0_ n1_
       refine start_ (n := 27) (S := fun w' => w'.cell? ⟨gb241, 0, none⟩ = some (.int .i64 a2_0) ∧ w'.cell? ⟨gb241, 1, none⟩ = some (.int .i64 a2_1) ∧ w'.cell? ⟨gb241, 2, none⟩ = some (.int .i64 a2_2) ∧ w'.cell? ⟨gb241, 3, none⟩ = some (.int .i64 a2_3) ∧ w'.cell? ⟨gb241, 4, none⟩ = some (.int .i64 a2_4) ∧ w'.cell? ⟨gb241, 5, none⟩ = some (.int .i64 a2_5) ∧ w'.cell? ⟨gb241, 6, none⟩ = some (.int .i64 a2_6) ∧ w'.cell? ⟨gb241, 7, none⟩ = some (.int .i64 a2_7) ∧ w'.cell? ⟨gb241, 8, none⟩ = some (.int .i64 a2_8) ∧ w'.cell? ⟨gb241, 9, none⟩ = some (.int .i64 a2_9) ∧ w'.cell? ⟨gb241, 10, none⟩ = some (.int .i64 a2_10) ∧ w'.cell? ⟨gb241, 11, none⟩ = some (.int .i64 a2_11)) (ds := []) #[false, false, false, false, false, false, false, false, false, false, false, false, false, false, false, false, false, false, false, false, false, false, false, false, false, false, false] (by kernel_rfl) rfl rfl ⟨(blk_cell BK241.out 0).trans rfl, (blk_cell BK241.out 1).trans rfl, (blk_cell BK241.out 2).trans rfl, (blk_cell BK241.out 3).trans rfl, (blk_cell BK241.out 4).trans rfl, (blk_cell BK241.out 5).trans rfl, (blk_cell BK241.out 6).trans rfl, (blk_cell BK241.out 7).trans rfl, (blk_cell BK241.out 8).trans rfl, (blk_cell BK241.out 9).trans rfl, (blk_cell BK241.out 10).trans rfl, (blk_cell BK241.out 11).trans rfl⟩ (fun hHeld => ?_); refine with_tabW palletlaw23_DiffTells.tab6 palletlaw23_DiffTells.bits6 (fun HT_ HW_ => ?_)
       generalize wc.drew = w19 at BK241 HB hHeld ⊢
       refine pure_ (i := 0) (N := some 20) (v := ?_) (a' := ?_) #[true, false, false, false, false, false, false, false, false, false, false, false, false, false, false, false, false, false, false, false, false, false, false, false, false, false, false] rfl rfl (any_of HT_.out (by kernel_rfl)) (fun _ _ _ h => h) (Or.inl ⟨by rfl, ?_⟩) ?_ ?_
       rotate_left
       ·intro w'
        go_simp
        with_reducible rfl
       rotate_left
       ·simp only [Act.put, List.setIfInBounds_toArray, List.set_cons_zero, List.set_cons_succ, i64_w, i32_w]
        rfl
       refine pure_ (i := 1) (N := some 21) (v := ?_) (a' := ?_) #[true, true, false, false, false, false, false, false, false, false, false, false, false, false, false, false, false, false, false, false, false, false, false, false, false, false, false] rfl rfl (any_of HT_.out (by kernel_rfl)) (fun _ _ _ h => h) (Or.inl ⟨by rfl, ?_⟩) ?_ ?_
       rotate_left
       ·intro w'
        go_simp
        with_reducible rfl
       rotate_left
       ·simp only [Act.put, List.setIfInBounds_toArray, List.set_cons_zero, List.set_cons_succ, i64_w, i32_w]
        rfl
       refine pure_ (i := 2) (N := some 22) (v := ?_) (a' := ?_) #[true, true, true, false, false, false, false, false, false, false, false, false, false, false, false, false, false, false, false, false, false, false, false, false, false, false, false] rfl rfl (any_of HT_.out (by kernel_rfl)) (fun _ _ _ h => h) (Or.inl ⟨by rfl, ?_⟩) ?_ ?_
       rotate_left
       ·intro w'
        go_simp
        with_reducible rfl
       rotate_left
       ·simp only [Act.put, List.setIfInBounds_toArray, List.set_cons_zero, List.set_cons_succ, i64_w, i32_w]
        rfl
       refine pure_ (i := 3) (N := some 23) (v := ?_) (a' := ?_) #[true, true, true, true, false, false, false, false, false, false, false, false, false, false, false, false, false, false, false, false, false, false, false, false, false, false, false] rfl rfl (any_of HT_.out (by kernel_rfl)) (fun _ _ _ h => h) (Or.inl ⟨by rfl, ?_⟩) ?_ ?_
       rotate_left
       ·intro w'
        go_simp
        with_reducible rfl
       rotate_left
       ·simp only [Act.put, List.setIfInBounds_toArray, List.set_cons_zero, List.set_cons_succ, i64_w, i32_w]
        rfl
       refine pure_ (i := 5) (N := some 25) (v := ?_) (a' := ?_) #[true, true, true, true, false, true, false, false, false, false, false, false, false, false, false, false, false, false, false, false, false, false, false, false, false, false, false] rfl rfl (any_of HT_.out (by kernel_rfl)) (fun _ _ _ h => h) (Or.inl ⟨by rfl, ?_⟩) ?_ ?_
       rotate_left
       ·intro w'
        go_simp
        with_reducible rfl
       rotate_left
       ·simp only [Act.put, List.setIfInBounds_toArray, List.set_cons_zero, List.set_cons_succ, i64_w, i32_w]
        rfl
       refine pure_ (i := 6) (N := some 26) (v := ?_) (a' := ?_) #[true, true, true, true, false, true, true, false, false, false, false, false, false, false, false, false, false, false, false, false, false, false, false, false, false, false, false] rfl rfl (any_of HT_.out (by kernel_rfl)) (fun _ _ _ h => h) (Or.inl ⟨by rfl, ?_⟩) ?_ ?_
       rotate_left
       ·intro w'
        go_simp
        with_reducible rfl
       rotate_left
       ·simp only [Act.put, List.setIfInBounds_toArray, List.set_cons_zero, List.set_cons_succ, i64_w, i32_w]
        rfl
       refine one_ (i := 4) (N := some 24) #[true, true, true, true, true, true, true, false, false, false, false, false, false, false, false, false, false, false, false, false, false, false, false, false, false, false, false] rfl rfl (one_of HT_.out (by kernel_rfl)) (by decide) (fun K hK => ?_)
       refine goes_ Try.func9 (by kernel_rfl) rfl #[.slice A0 l0.length c0, .slice A1 l1.length c1] (by rfl) rfl rfl (by (try simp only [List.map_toArray, List.map_cons, List.map_nil]); first | done | rfl | (simp only [List.length_drop, List.length_take]; rfl)) ?_
       with_reducible refine (diff_Prefix.calls kj5 _ _ l0 _ _ l1 t243 _ ?side1 ?side2 ?side3 ?side4 A11.out).mono ?_
       (case side1 => repeat (first | exact (Kd.C_below HR0.out HB.out) | (with_reducible refine Kd.C_alloc ?_ _) | (with_reducible refine Kd.C_drewN ?_ _) | (with_reducible refine Kd.C_drew ?_)))
       (case side2 => exact HC0.out)
       (case side3 => repeat (first | exact (Kd.C_below HR1.out HB.out) | (with_reducible refine Kd.C_alloc ?_ _) | (with_reducible refine Kd.C_drewN ?_ _) | (with_reducible refine Kd.C_drew ?_)))
       (case side4 => exact HC1.out)
       rintro e w' ⟨rfl, ⟨nd, rfl⟩⟩
       refine ⟨_, rfl, ?_⟩
       refine hK.out _ _ ⟨(blk_cell BK241.out 0).trans rfl, (blk_cell BK241.out 1).trans rfl, (blk_cell BK241.out 2).trans rfl, (blk_cell BK241.out 3).trans rfl, (blk_cell BK241.out 4).trans rfl, (blk_cell BK241.out 5).trans rfl, (blk_cell BK241.out 6).trans rfl, (blk_cell BK241.out 7).trans rfl, (blk_cell BK241.out 8).trans rfl, (blk_cell BK241.out 9).trans rfl, (blk_cell BK241.out 10).trans rfl, (blk_cell BK241.out 11).trans rfl⟩ (fun hHeld => ?_)
       clear hK K
       refine norm_ (a' := ?_) ?_ ?_
       rotate_left
       ·show Act.put _ (some 24) _ = _
        simp only [Act.put, List.setIfInBounds_toArray, List.set_cons_zero, List.set_cons_succ, i64_w, i32_w]
        rfl
       refine one_ (i := 7) (N := some 27) #[true, true, true, true, true, true, true, true, false, false, false, false, false, false, false, false, false, false, false, false, false, false, false, false, false, false, false] rfl rfl (one_of HT_.out (by kernel_rfl)) (by decide) (fun K hK => ?_)
       refine goes_ Try.func10 (by kernel_rfl) rfl #[.slice A0 l0.length c0, .slice A1 l1.length c1] (by rfl) rfl rfl (by (try simp only [List.map_toArray, List.map_cons, List.map_nil]); first | done | rfl | (simp only [List.length_drop, List.length_take]; rfl)) ?_
       with_reducible refine (palletref23_Prefix.calls kj5 _ _ l0 _ _ l1 t244 _ ?side1 ?side2 ?side3 ?side4 A12.out).mono ?_
       (case side1 => repeat (first | exact (Kd.C_below HR0.out (by repeat (first | (with_reducible first | exact HB.out | apply below_alloc | apply pw_below_drewN | apply below_drew1 | refine below_set ?_ GE241.out) | exact HB.out))) | (with_reducible refine Kd.C_alloc ?_ _) | (with_reducible refine Kd.C_drewN ?_ _) | (with_reducible refine Kd.C_drew ?_)))
       (case side2 => exact HC0.out)
       (case side3 => repeat (first | exact (Kd.C_below HR1.out (by repeat (first | (with_reducible first | exact HB.out | apply below_alloc | apply pw_below_drewN | apply below_drew1 | refine below_set ?_ GE241.out) | exact HB.out))) | (with_reducible refine Kd.C_alloc ?_ _) | (with_reducible refine Kd.C_drewN ?_ _) | (with_reducible refine Kd.C_drew ?_)))
       (case side4 => exact HC1.out)
       rintro e w20 ⟨rfl, hb⟩
       refine ⟨_, rfl, ?_⟩
       have n0_ := Aside0.mk (blk_below (g := gb241) (o := .cells #[.int .i64 a2_0, .int .i64 a2_1, .int .i64 a2_2, .int .i64 a2_3, .int .i64 a2_4, .int .i64 a2_5, .int .i64 a2_6, .int .i64 a2_7, .int .i64 a2_8, .int .i64 a2_9, .int .i64 a2_10, .int .i64 a2_11] 27 (0, 0)) (by (with_reducible repeat (first | refine blk_drewN ?_ _ | refine blk_drew ?_ | refine blk_alloc ?_ _)); exact BK241.out) hb)
       have n1_ := Aside0.mk (below_step (by repeat (first | (with_reducible first | exact HB.out | apply below_alloc | apply pw_below_drewN | apply below_drew1 | refine below_set ?_ GE241.out) | exact HB.out)) hb)
       clear BK241
       clear HB
       have BK241 := n0_
       have HB := n1_
       clear n0_ n1_
       (try clear hb)
       (try clear hb2)
       (try clear hk)
       (try clear hi)
       refine hK.out _ _ ⟨(blk_cell BK241.out 0).trans rfl, (blk_cell BK241.out 1).trans rfl, (blk_cell BK241.out 2).trans rfl, (blk_cell BK241.out 3).trans rfl, (blk_cell BK241.out 4).trans rfl, (blk_cell BK241.out 5).trans rfl, (blk_cell BK241.out 6).trans rfl, (blk_cell BK241.out 7).trans rfl, (blk_cell BK241.out 8).trans rfl, (blk_cell BK241.out 9).trans rfl, (blk_cell BK241.out 10).trans rfl, (blk_cell BK241.out 11).trans rfl⟩ (fun hHeld => ?_)
       clear hK K
       refine norm_ (a' := ?_) ?_ ?_
       rotate_left
       ·show Act.put _ (some 27) _ = _
        simp only [Act.put, List.setIfInBounds_toArray, List.set_cons_zero, List.set_cons_succ, i64_w, i32_w]
        rfl
       refine pure_ (i := 8) (N := some 28) (v := ?_) (a' := ?_) #[true, true, true, true, true, true, true, true, true, false, false, false, false, false, false, false, false, false, false, false, false, false, false, false, false, false, false] rfl rfl (any_of HT_.out (by kernel_rfl)) (fun _ _ _ h => h) (Or.inl ⟨by rfl, ?_⟩) ?_ ?_
       rotate_left
       ·intro w'
        go_simp
        with_reducible rfl
       rotate_left
       ·simp only [Act.put, List.setIfInBounds_toArray, List.set_cons_zero, List.set_cons_succ, i64_w, i32_w]
        rfl
       refine pure_ (i := 9) (N := some 29) (v := ?_) (a' := ?_) #[true, true, true, true, true, true, true, true, true, true, false, false, false, false, false, false, false, false, false, false, false, false, false, false, false, false, false] rfl rfl (any_of HT_.out (by kernel_rfl)) (fun _ _ _ h => h) (Or.inl ⟨by rfl, ?_⟩) ?_ ?_
       rotate_left
       ·intro w'
        go_simp
        with_reducible rfl
       rotate_left
       ·simp only [Act.put, List.setIfInBounds_toArray, List.set_cons_zero, List.set_cons_succ, i64_w, i32_w]
        rfl
       refine pure_ (i := 10) (N := some 30) (v := ?_) (a' := ?_) #[true, true, true, true, true, true, true, true, true, true, true, false, false, false, false, false, false, false, false, false, false, false, false, false, false, false, false] rfl rfl (any_of HT_.out (by kernel_rfl)) (fun _ _ _ h => h) (Or.inl ⟨by rfl, ?_⟩) ?_ ?_
       rotate_left
       ·intro w'
        go_simp
        with_reducible rfl
       rotate_left
       ·simp only [Act.put, List.setIfInBounds_toArray, List.set_cons_zero, List.set_cons_succ, i64_w, i32_w]
        rfl
       refine pure_ (i := 11) (N := some 31) (v := ?_) (a' := ?_) #[true, true, true, true, true, true, true, true, true, true, true, true, false, false, false, false, false, false, false, false, false, false, false, false, false, false, false] rfl rfl (any_of HT_.out (by kernel_rfl)) (fun _ _ _ h => h) (Or.inl ⟨by rfl, ?_⟩) ?_ ?_
       rotate_left
       ·intro w'
        go_simp
        with_reducible rfl
       rotate_left
       ·simp only [Act.put, List.setIfInBounds_toArray, List.set_cons_zero, List.set_cons_succ, i64_w, i32_w]
        rfl
       refine pure_ (i := 12) (N := some 32) (v := ?_) (a' := ?_) #[true, true, true, true, true, true, true, true, true, true, true, true, true, false, false, false, false, false, false, false, false, false, false, false, false, false, false] rfl rfl (any_of HT_.out (by kernel_rfl)) (fun _ _ _ h => h) (Or.inl ⟨by rfl, ?_⟩) ?_ ?_
       rotate_left
       ·intro w'
        go_simp
        with_reducible rfl
       rotate_left
       ·simp only [Act.put, List.setIfInBounds_toArray, List.set_cons_zero, List.set_cons_succ, i64_w, i32_w]
        rfl
       refine pure_ (i := 14) (N := some 34) (v := ?_) (a' := ?_) #[true, true, true, true, true, true, true, true, true, true, true, true, true, false, true, false, false, false, false, false, false, false, false, false, false, false, false] rfl rfl (any_of HT_.out (by kernel_rfl)) (fun _ _ _ h => h) (Or.inl ⟨by rfl, ?_⟩) ?_ ?_
       rotate_left
       ·intro w'
        go_simp
        with_reducible rfl
       rotate_left
       ·simp only [Act.put, List.setIfInBounds_toArray, List.set_cons_zero, List.set_cons_succ, i64_w, i32_w]
        rfl
       refine pure_ (i := 15) (N := some 35) (v := ?_) (a' := ?_) #[true, true, true, true, true, true, true, true, true, true, true, true, true, false, true, true, false, false, false, false, false, false, false, false, false, false, false] rfl rfl (any_of HT_.out (by kernel_rfl)) (fun _ _ _ h => h) (Or.inl ⟨by rfl, ?_⟩) ?_ ?_
       rotate_left
       ·intro w'
        go_simp
        with_reducible rfl
       rotate_left
       ·simp only [Act.put, List.setIfInBounds_toArray, List.set_cons_zero, List.set_cons_succ, i64_w, i32_w]
        rfl
       refine one_ (i := 13) (N := some 33) #[true, true, true, true, true, true, true, true, true, true, true, true, true, true, true, true, false, false, false, false, false, false, false, false, false, false, false] rfl rfl (one_of HT_.out (by kernel_rfl)) (by decide) (fun K hK => ?_)
       refine goes_ Try.func8 (by kernel_rfl) rfl #[.slice A0 l0.length c0, .slice A1 l1.length c1] (by rfl) rfl rfl (by (try simp only [List.map_toArray, List.map_cons, List.map_nil]); first | done | rfl | (simp only [List.length_drop, List.length_take]; rfl)) ?_
       with_reducible refine (diff_Events.calls kj5 _ _ l0 _ _ l1 t245 t246 t247 t248 t249 t250 t251 t252 t253 t254 t255 t256 _ ?side1 ?side2 ?side3 ?side4 A14.out).mono ?_
       (case side1 => repeat (first | exact (Kd.C_below HR0.out HB.out) | (with_reducible refine Kd.C_alloc ?_ _) | (with_reducible refine Kd.C_drewN ?_ _) | (with_reducible refine Kd.C_drew ?_)))
       (case side2 => exact HC0.out)
       (case side3 => repeat (first | exact (Kd.C_below HR1.out HB.out) | (with_reducible refine Kd.C_alloc ?_ _) | (with_reducible refine Kd.C_drewN ?_ _) | (with_reducible refine Kd.C_drew ?_)))
       (case side4 => exact HC1.out)
       rintro e w21 ⟨rfl, hb⟩
       refine ⟨_, rfl, ?_⟩
       have n0_ := Aside0.mk (blk_below (g := gb241) (o := .cells #[.int .i64 a2_0, .int .i64 a2_1, .int .i64 a2_2, .int .i64 a2_3, .int .i64 a2_4, .int .i64 a2_5, .int .i64 a2_6, .int .i64 a2_7, .int .i64 a2_8, .int .i64 a2_9, .int .i64 a2_10, .int .i64 a2_11] 27 (0, 0)) (by (with_reducible repeat (first | refine blk_drewN ?_ _ | refine blk_drew ?_ | refine blk_alloc ?_ _)); exact BK241.out) hb)
       have n1_ := Aside0.mk (below_step (by repeat (first | (with_reducible first | exact HB.out | apply below_alloc | apply pw_below_drewN | apply below_drew1 | refine below_set ?_ GE241.out) | exact HB.out)) hb)
       clear BK241
       clear HB
       have BK241 := n0_
       have HB := n1_
       clear n0_ n1_
       (try clear hb)
       (try clear hb2)
       (try clear hk)
       (try clear hi)
       refine hK.out _ _ ⟨(blk_cell BK241.out 0).trans rfl, (blk_cell BK241.out 1).trans rfl, (blk_cell BK241.out 2).trans rfl, (blk_cell BK241.out 3).trans rfl, (blk_cell BK241.out 4).trans rfl, (blk_cell BK241.out 5).trans rfl, (blk_cell BK241.out 6).trans rfl, (blk_cell BK241.out 7).trans rfl, (blk_cell BK241.out 8).trans rfl, (blk_cell BK241.out 9).trans rfl, (blk_cell BK241.out 10).trans rfl, (blk_cell BK241.out 11).trans rfl⟩ (fun hHeld => ?_)
       clear hK K
       refine norm_ (a' := ?_) ?_ ?_
       rotate_left
       ·show Act.put _ (some 33) _ = _
        simp only [Act.put, List.setIfInBounds_toArray, List.set_cons_zero, List.set_cons_succ, i64_w, i32_w]
        rfl
       refine one_ (i := 16) (N := some 36) #[true, true, true, true, true, true, true, true, true, true, true, true, true, true, true, true, true, false, false, false, false, false, false, false, false, false, false] rfl rfl (one_of HT_.out (by kernel_rfl)) (by decide) (fun K hK => ?_)
       refine goes_ Try.func11 (by kernel_rfl) rfl #[.slice A0 l0.length c0, .slice A1 l1.length c1] (by rfl) rfl rfl (by (try simp only [List.map_toArray, List.map_cons, List.map_nil]); first | done | rfl | (simp only [List.length_drop, List.length_take]; rfl)) ?_
       with_reducible refine (palletref23_Events.calls kj5 _ _ l0 _ _ l1 t257 t258 t259 t260 t261 t262 t263 t264 t265 t266 t267 t268 _ ?side1 ?side2 ?side3 ?side4 A15.out).mono ?_
       (case side1 => repeat (first | exact (Kd.C_below HR0.out HB.out) | (with_reducible refine Kd.C_alloc ?_ _) | (with_reducible refine Kd.C_drewN ?_ _) | (with_reducible refine Kd.C_drew ?_)))
       (case side2 => exact HC0.out)
       (case side3 => repeat (first | exact (Kd.C_below HR1.out HB.out) | (with_reducible refine Kd.C_alloc ?_ _) | (with_reducible refine Kd.C_drewN ?_ _) | (with_reducible refine Kd.C_drew ?_)))
       (case side4 => exact HC1.out)
       rintro e w22 ⟨rfl, hb⟩
       refine ⟨_, rfl, ?_⟩
       have n0_ := Aside0.mk (blk_below (g := gb241) (o := .cells #[.int .i64 a2_0, .int .i64 a2_1, .int .i64 a2_2, .int .i64 a2_3, .int .i64 a2_4, .int .i64 a2_5, .int .i64 a2_6, .int .i64 a2_7, .int .i64 a2_8, .int .i64 a2_9, .int .i64 a2_10, .int .i64 a2_11] 27 (0, 0)) (by (with_reducible repeat (first | refine blk_drewN ?_ _ | refine blk_drew ?_ | refine blk_alloc ?_ _)); exact BK241.out) hb)
       have n1_ := Aside0.mk (below_step (by repeat (first | (with_reducible first | exact HB.out | apply below_alloc | apply pw_below_drewN | apply below_drew1 | refine below_set ?_ GE241.out) | exact HB.out)) hb)
       clear BK241
       clear HB
       have BK241 := n0_
       have HB := n1_
       clear n0_ n1_
       (try clear hb)
       (try clear hb2)
       (try clear hk)
       (try clear hi)
       refine hK.out _ _ ⟨(blk_cell BK241.out 0).trans rfl, (blk_cell BK241.out 1).trans rfl, (blk_cell BK241.out 2).trans rfl, (blk_cell BK241.out 3).trans rfl, (blk_cell BK241.out 4).trans rfl, (blk_cell BK241.out 5).trans rfl, (blk_cell BK241.out 6).trans rfl, (blk_cell BK241.out 7).trans rfl, (blk_cell BK241.out 8).trans rfl, (blk_cell BK241.out 9).trans rfl, (blk_cell BK241.out 10).trans rfl, (blk_cell BK241.out 11).trans rfl⟩ (fun hHeld => ?_)
       clear hK K
       refine norm_ (a' := ?_) ?_ ?_
       rotate_left
       ·show Act.put _ (some 36) _ = _
        simp only [Act.put, List.setIfInBounds_toArray, List.set_cons_zero, List.set_cons_succ, i64_w, i32_w]
        rfl
       refine pure_ (i := 17) (N := some 37) (v := ?_) (a' := ?_) #[true, true, true, true, true, true, true, true, true, true, true, true, true, true, true, true, true, true, false, false, false, false, false, false, false, false, false] rfl rfl (any_of HT_.out (by kernel_rfl)) (fun _ _ _ h => h) (Or.inl ⟨by rfl, ?_⟩) ?_ ?_
       rotate_left
       ·intro w'
        go_simp
        with_reducible rfl
       rotate_left
       ·simp only [Act.put, List.setIfInBounds_toArray, List.set_cons_zero, List.set_cons_succ, i64_w, i32_w]
        rfl
       refine pure_ (i := 18) (N := some 38) (v := ?_) (a' := ?_) #[true, true, true, true, true, true, true, true, true, true, true, true, true, true, true, true, true, true, true, false, false, false, false, false, false, false, false] rfl rfl (any_of HT_.out (by kernel_rfl)) (fun _ _ _ h => h) (Or.inl ⟨by rfl, ?_⟩) ?_ ?_
       rotate_left
       ·intro w'
        go_simp
        with_reducible rfl
       rotate_left
       ·simp only [Act.put, List.setIfInBounds_toArray, List.set_cons_zero, List.set_cons_succ, i64_w, i32_w]
        rfl
       refine pure_ (i := 19) (N := some 39) (v := ?_) (a' := ?_) #[true, true, true, true, true, true, true, true, true, true, true, true, true, true, true, true, true, true, true, true, false, false, false, false, false, false, false] rfl rfl (any_of HT_.out (by kernel_rfl)) (fun _ _ _ h => h) (Or.inl ⟨by rfl, ?_⟩) ?_ ?_
       rotate_left
       ·intro w'
        go_simp
        with_reducible rfl
       rotate_left
       ·simp only [Act.put, List.setIfInBounds_toArray, List.set_cons_zero, List.set_cons_succ, i64_w, i32_w]
        rfl
       refine take_ (i := 20) (N := some 40) (v := ?_) (a' := ?_) #[true, true, true, true, true, true, true, true, true, true, true, true, true, true, true, true, true, true, true, true, true, false, false, false, false, false, false] rfl rfl (take_ofW HT_.out HW_.out (by kernel_rfl)) (fun _ _ _ h => h) (Or.inl ⟨by rfl, ?_⟩) hHeld ?_ ?_
       rotate_left
       ·rintro w' ⟨s0, s1, s2, s3, s4, s5, s6, s7, s8, s9, s10, s11⟩
        go_simp
        with_reducible rfl
       rotate_left
       ·simp only [Act.put, List.setIfInBounds_toArray, List.set_cons_zero, List.set_cons_succ, i64_w, i32_w]
        rfl
       refine take_ (i := 22) (N := some 42) (v := ?_) (a' := ?_) #[true, true, true, true, true, true, true, true, true, true, true, true, true, true, true, true, true, true, true, true, true, false, true, false, false, false, false] rfl rfl (take_ofW HT_.out HW_.out (by kernel_rfl)) (fun _ _ _ h => h) (Or.inl ⟨by rfl, ?_⟩) hHeld ?_ ?_
       rotate_left
       ·rintro w' ⟨s0, s1, s2, s3, s4, s5, s6, s7, s8, s9, s10, s11⟩
        go_simp
        with_reducible rfl
       rotate_left
       ·simp only [Act.put, List.setIfInBounds_toArray, List.set_cons_zero, List.set_cons_succ, i64_w, i32_w]
        rfl
       refine one_ (i := 21) (N := some 41) #[true, true, true, true, true, true, true, true, true, true, true, true, true, true, true, true, true, true, true, true, true, true, true, false, false, false, false] rfl rfl (one_of HT_.out (by kernel_rfl)) (by decide) (fun K hK => ?_)
       refine goes_ Try.func12 (by kernel_rfl) rfl #[.agg #[.int .i64 a2_0, .int .i64 a2_1, .int .i64 a2_2, .int .i64 a2_3, .int .i64 a2_4, .int .i64 a2_5, .int .i64 a2_6, .int .i64 a2_7, .int .i64 a2_8, .int .i64 a2_9, .int .i64 a2_10, .int .i64 a2_11]] (by rfl) rfl rfl (by (try simp only [List.map_toArray, List.map_cons, List.map_nil]); first | done | rfl | (simp only [List.length_drop, List.length_take]; rfl)) ?_
       with_reducible refine (diff_Back.calls a2_0 a2_1 a2_2 a2_3 a2_4 a2_5 a2_6 a2_7 a2_8 a2_9 a2_10 a2_11 t269 t270 t271 t272 t273 t274 t275 t276 t277 t278 t279 t280 _ A17.out).mono ?_
       rintro e w23 ⟨rfl, hb⟩
       refine ⟨_, rfl, ?_⟩
       have n0_ := Aside0.mk (blk_below (g := gb241) (o := .cells #[.int .i64 a2_0, .int .i64 a2_1, .int .i64 a2_2, .int .i64 a2_3, .int .i64 a2_4, .int .i64 a2_5, .int .i64 a2_6, .int .i64 a2_7, .int .i64 a2_8, .int .i64 a2_9, .int .i64 a2_10, .int .i64 a2_11] 27 (0, 0)) (by (with_reducible repeat (first | refine blk_drewN ?_ _ | refine blk_drew ?_ | refine blk_alloc ?_ _)); exact BK241.out) hb)
       have n1_ := Aside0.mk (below_step (by repeat (first | (with_reducible first | exact HB.out | apply below_alloc | apply pw_below_drewN | apply below_drew1 | refine below_set ?_ GE241.out) | exact HB.out)) hb)
       clear BK241
       clear HB
       have BK241 := n0_
       have HB := n1_
       clear n0_ n1_
       (try clear hb)
       (try clear hb2)
       (try clear hk)
       (try clear hi)
       refine hK.out _ _ ⟨(blk_cell BK241.out 0).trans rfl, (blk_cell BK241.out 1).trans rfl, (blk_cell BK241.out 2).trans rfl, (blk_cell BK241.out 3).trans rfl, (blk_cell BK241.out 4).trans rfl, (blk_cell BK241.out 5).trans rfl, (blk_cell BK241.out 6).trans rfl, (blk_cell BK241.out 7).trans rfl, (blk_cell BK241.out 8).trans rfl, (blk_cell BK241.out 9).trans rfl, (blk_cell BK241.out 10).trans rfl, (blk_cell BK241.out 11).trans rfl⟩ (fun hHeld => ?_)
       clear hK K
       refine norm_ (a' := ?_) ?_ ?_
       rotate_left
       ·show Act.put _ (some 41) _ = _
        simp only [Act.put, List.setIfInBounds_toArray, List.set_cons_zero, List.set_cons_succ, i64_w, i32_w]
        rfl
       refine one_ (i := 23) (N := some 43) #[true, true, true, true, true, true, true, true, true, true, true, true, true, true, true, true, true, true, true, true, true, true, true, true, false, false, false] rfl rfl (one_of HT_.out (by kernel_rfl)) (by decide) (fun K hK => ?_)
       refine goes_ Try.func13 (by kernel_rfl) rfl #[.agg #[.int .i64 a2_0, .int .i64 a2_1, .int .i64 a2_2, .int .i64 a2_3, .int .i64 a2_4, .int .i64 a2_5, .int .i64 a2_6, .int .i64 a2_7, .int .i64 a2_8, .int .i64 a2_9, .int .i64 a2_10, .int .i64 a2_11]] (by rfl) rfl rfl (by (try simp only [List.map_toArray, List.map_cons, List.map_nil]); first | done | rfl | (simp only [List.length_drop, List.length_take]; rfl)) ?_
       with_reducible refine (palletref23_Back.calls kj5 a2_0 a2_1 a2_2 a2_3 a2_4 a2_5 a2_6 a2_7 a2_8 a2_9 a2_10 a2_11 t281 t282 t283 t284 t285 t286 t287 t288 t289 t290 t291 t292 _ A18.out).mono ?_
       rintro e w24 ⟨rfl, hb⟩
       refine ⟨_, rfl, ?_⟩
       have n0_ := Aside0.mk (blk_below (g := gb241) (o := .cells #[.int .i64 a2_0, .int .i64 a2_1, .int .i64 a2_2, .int .i64 a2_3, .int .i64 a2_4, .int .i64 a2_5, .int .i64 a2_6, .int .i64 a2_7, .int .i64 a2_8, .int .i64 a2_9, .int .i64 a2_10, .int .i64 a2_11] 27 (0, 0)) (by (with_reducible repeat (first | refine blk_drewN ?_ _ | refine blk_drew ?_ | refine blk_alloc ?_ _)); exact BK241.out) hb)
       have n1_ := Aside0.mk (below_step (by repeat (first | (with_reducible first | exact HB.out | apply below_alloc | apply pw_below_drewN | apply below_drew1 | refine below_set ?_ GE241.out) | exact HB.out)) hb)
       clear BK241
       clear HB
       have BK241 := n0_
       have HB := n1_
       clear n0_ n1_
       (try clear hb)
       (try clear hb2)
       (try clear hk)
       (try clear hi)
       refine hK.out _ _ ⟨(blk_cell BK241.out 0).trans rfl, (blk_cell BK241.out 1).trans rfl, (blk_cell BK241.out 2).trans rfl, (blk_cell BK241.out 3).trans rfl, (blk_cell BK241.out 4).trans rfl, (blk_cell BK241.out 5).trans rfl, (blk_cell BK241.out 6).trans rfl, (blk_cell BK241.out 7).trans rfl, (blk_cell BK241.out 8).trans rfl, (blk_cell BK241.out 9).trans rfl, (blk_cell BK241.out 10).trans rfl, (blk_cell BK241.out 11).trans rfl⟩ (fun hHeld => ?_)
       clear hK K
       refine norm_ (a' := ?_) ?_ ?_
       rotate_left
       ·show Act.put _ (some 43) _ = _
        simp only [Act.put, List.setIfInBounds_toArray, List.set_cons_zero, List.set_cons_succ, i64_w, i32_w]
        rfl
       refine pure_ (i := 24) (N := some 44) (v := ?_) (a' := ?_) #[true, true, true, true, true, true, true, true, true, true, true, true, true, true, true, true, true, true, true, true, true, true, true, true, true, false, false] rfl rfl (any_of HT_.out (by kernel_rfl)) (fun _ _ _ h => h) (Or.inl ⟨by rfl, ?_⟩) ?_ ?_
       rotate_left
       ·intro w'
        go_simp
        with_reducible rfl
       rotate_left
       ·simp only [Act.put, List.setIfInBounds_toArray, List.set_cons_zero, List.set_cons_succ, i64_w, i32_w]
        rfl
       refine pure_ (i := 25) (N := some 45) (v := ?_) (a' := ?_) #[true, true, true, true, true, true, true, true, true, true, true, true, true, true, true, true, true, true, true, true, true, true, true, true, true, true, false] rfl rfl (any_of HT_.out (by kernel_rfl)) (fun _ _ _ h => h) (Or.inl ⟨by rfl, ?_⟩) ?_ ?_
       rotate_left
       ·intro w'
        go_simp
        with_reducible rfl
       rotate_left
       ·simp only [Act.put, List.setIfInBounds_toArray, List.set_cons_zero, List.set_cons_succ, i64_w, i32_w]
        rfl
       refine pure_ (i := 26) (N := some 6) (v := ?_) (a' := ?_) #[true, true, true, true, true, true, true, true, true, true, true, true, true, true, true, true, true, true, true, true, true, true, true, true, true, true, true] rfl rfl (any_of HT_.out (by kernel_rfl)) (fun _ _ _ h => h) (Or.inl ⟨by rfl, ?_⟩) ?_ ?_
       rotate_left
       ·intro w'
        go_simp
        with_reducible rfl
       rotate_left
       ·simp only [Act.put, List.setIfInBounds_toArray, List.set_cons_zero, List.set_cons_succ, i64_w, i32_w]
        rfl
       refine done_ (done_of HT_.out (by kernel_rfl)) ?_
       try go_wp2
       go_ret
       exact ⟨by first | rfl | (simp [errW_none, errW_some] <;> rfl) | (simp [*, errW_none, errW_some] <;> rfl), by repeat (first | (with_reducible first | exact HB.out | apply below_alloc | apply pw_below_drewN | apply below_drew1 | refine below_set ?_ GE241.out) | exact HB.out)⟩
      ·rw [if_neg c16] at H
       have c16b0 : (t245 == t257 && (t246 == t258 && ((t247 == t259 && (t248 == t260 && (t249 == t261 && (t250 == t262 && (t251 == t263))))) && ((t252 == t264 && (t253 == t265 && (t254 == t266 && (t255 == t267 && (t256 == t268))))))))) = false := by simpa using c16
       (try (have c16b1 : decide (t245 = t257 && (t246 == t258 && ((t247 == t259 && (t248 == t260 && (t249 == t261 && (t250 == t262 && (t251 == t263))))) && ((t252 == t264 && (t253 == t265 && (t254 == t266 && (t255 == t267 && (t256 == t268))))))))) = false := by simpa using c16))
       (try (have c16b2 : (t245 == t257 && (t246 == t258 && ((t247 == t259 && (t248 == t260 && (t249 == t261 && (t250 == t262 && (t251 == t263))))) && ((t252 == t264 && (t253 == t265 && (t254 == t266 && (t255 == t267 && (t256 == t268))))))))) = false := by simpa using c16))
       (try (have c16b3 : ¬ (t245 = t257 && (t246 == t258 && ((t247 == t259 && (t248 == t260 && (t249 == t261 && (t250 == t262 && (t251 == t263))))) && ((t252 == t264 && (t253 == t265 && (t254 == t266 && (t255 == t267 && (t256 == t268))))))))) := by simpa using c16))
       clear c16
       obtain rfl := Option.some.inj H
       exact absurd hr_.out (by decide)
     ·rw [if_neg c13] at H
      have c13b0 : (t243 == t244) = false := beq_eq_false_iff_ne.mpr c13
      have c13b1 : (t243 != t244) = true := bne_iff_ne.mpr c13
      obtain rfl := Option.some.inj H
      exact absurd hr_.out (by decide)
 ·replace c5 := Bool.eq_false_iff.mpr c5
  subst c5
  have H1 : (some false) = some r := by rw [if_neg (show ¬ (false = true) by decide)] at H; exact H
  clear H
  have H := H1
  clear H1
  obtain rfl := Option.some.inj H
  exact absurd hr_.out (by decide)

end Go.Proofs.Ytpjfdnifliekiaa.Print
