-- PRINTED by print.py (a twelfth state) out of the translation. Not trusted: Lean checks it.
import Derived.Test.YtmkjljekofondaaPrint0
import Derived.Test.YtmkjljekofondaaPrint11
import Derived.Test.YtmkjljekofondaaPrint12
namespace Go.Proofs.Ytmkjljekofondaa.Print
open Go.RowKit Go.Proofs.YtmkjljekofondaaW.PrintWords Go.Proofs.YtmkjljekofondaaW.PrintLast Go.Proofs.YtmkjljekofondaaW.PrintMore Go.Proofs.YtmkjljekofondaaX
attribute [local go_sem] str_lss str_geq max2_int min2_int max_two min_two max_three min_three max_four min_four   -- for this text's walks alone
set_option linter.unusedVariables false
set_option linter.unusedSimpArgs false

/-! ### palletref01_Scale: function 28 -/
mutual
def palletref01_Scale.j0 : Nat → Int → Int → Int → Bool → Option (Int × Int × Int)
 | 0, _, _, _, _ => none
 | k + 1, x0, x1, x2, x28 => if x28 = true then (some (0, 0, 1)) else (palletref01_Scale.l0 k x0 x1 x2 0 0 63)
def palletref01_Scale.l0 : Nat → Int → Int → Int → Int → Int → Int → Option (Int × Int × Int)
 | 0, _, _, _, _, _, _ => none
 | k + 1, x0, x1, x2, x9, x10, x11 => if x11 ≥ 0 then ((palletref01_twice.f x9 x10 0).bind fun bt237 => ((palletref01_size.f x1).bind fun t239 => (if 0 ≤ x11 then (if (Go.bits .and .u64 (shr .u64 t239 x11) 1) = 1 then ((palletref01_size.f x0).bind fun t240 => (if (IntKind.u64.wrap (bt237.2 + t240)) < bt237.2 then (palletref01_Scale.l0 k x0 x1 x2 (IntKind.u64.wrap (bt237.1 + 1)) (IntKind.u64.wrap (bt237.2 + t240)) (wrap64 (x11 - 1))) else (palletref01_Scale.l0 k x0 x1 x2 bt237.1 (IntKind.u64.wrap (bt237.2 + t240)) (wrap64 (x11 - 1))))) else (palletref01_Scale.l0 k x0 x1 x2 bt237.1 bt237.2 (wrap64 (x11 - 1)))) else (none)))) else (palletref01_Scale.l1 k x0 x1 x2 x9 x10 0 0 127)
def palletref01_Scale.l1 : Nat → Int → Int → Int → Int → Int → Int → Int → Int → Option (Int × Int × Int)
 | 0, _, _, _, _, _, _, _, _ => none
 | k + 1, x0, x1, x2, x9, x10, x13, x14, x15 => if x15 ≥ 0 then (if 0 ≤ (Int.tmod x15 64) then (if x15 ≥ 64 then (palletref01_Scale.j3 k x0 x1 x2 x9 x10 x13 x14 x15 (Go.bits .and .u64 (shr .u64 x9 (Int.tmod x15 64)) 1)) else (palletref01_Scale.j3 k x0 x1 x2 x9 x10 x13 x14 x15 (Go.bits .and .u64 (shr .u64 x10 (Int.tmod x15 64)) 1))) else (none)) else (if ((decide (x0 < 0)) != (decide (x1 < 0))) = true then (if (wrap64 (x14)) > 0 then ((palletref01_May.f k (([wrap64 ((wrap64 (-(wrap64 (x13)))) - 1)] : List Int))).bind fun t244 => (if t244 = true then (some (wrap64 ((wrap64 (-(wrap64 (x13)))) - 1), wrap64 (x2 - (wrap64 (x14))), 0)) else (some (0, 0, 2)))) else ((palletref01_May.f k (([wrap64 (-(wrap64 (x13)))] : List Int))).bind fun t248 => (if t248 = true then (some (wrap64 (-(wrap64 (x13))), wrap64 (x14), 0)) else (some (0, 0, 2))))) else ((palletref01_May.f k (([wrap64 (x13)] : List Int))).bind fun t252 => (if t252 = true then (some (wrap64 (x13), wrap64 (x14), 0)) else (some (0, 0, 2)))))
def palletref01_Scale.j3 : Nat → Int → Int → Int → Int → Int → Int → Int → Int → Int → Option (Int × Int × Int)
 | 0, _, _, _, _, _, _, _, _, _ => none
 | k + 1, x0, x1, x2, x9, x10, x13, x14, x15, x16 => if x13 > 1152921504606846976 then (some (0, 0, 2)) else (if (Go.bits .or .u64 (IntKind.u64.wrap (x14 * 2)) x16) ≥ (IntKind.u64.wrap (x2)) then (palletref01_Scale.l1 k x0 x1 x2 x9 x10 (IntKind.u64.wrap ((IntKind.u64.wrap (x13 * 2)) + 1)) (IntKind.u64.wrap ((Go.bits .or .u64 (IntKind.u64.wrap (x14 * 2)) x16) - (IntKind.u64.wrap (x2)))) (wrap64 (x15 - 1))) else (palletref01_Scale.l1 k x0 x1 x2 x9 x10 (IntKind.u64.wrap (x13 * 2)) (Go.bits .or .u64 (IntKind.u64.wrap (x14 * 2)) x16) (wrap64 (x15 - 1))))
end
def palletref01_Scale.f (k : Nat) (a0 : Int) (a1 : Int) (a2 : Int) : Option (Int × Int × Int) := (palletref01_May.f k (([a0, a1, a2] : List Int))).bind fun t236 => (if t236 = true then (palletref01_Scale.j0 k a0 a1 a2 (decide (a2 < 1))) else (palletref01_Scale.j0 k a0 a1 a2 true))
theorem palletref01_Scale.mono_l : ∀ k, (∀ y0 y1 y2 y3, LeO (palletref01_Scale.j0 k y0 y1 y2 y3) (palletref01_Scale.j0 (k + 1) y0 y1 y2 y3)) ∧ (∀ y0 y1 y2 y3 y4 y5, LeO (palletref01_Scale.l0 k y0 y1 y2 y3 y4 y5) (palletref01_Scale.l0 (k + 1) y0 y1 y2 y3 y4 y5)) ∧ (∀ y0 y1 y2 y3 y4 y5 y6 y7, LeO (palletref01_Scale.l1 k y0 y1 y2 y3 y4 y5 y6 y7) (palletref01_Scale.l1 (k + 1) y0 y1 y2 y3 y4 y5 y6 y7)) ∧ (∀ y0 y1 y2 y3 y4 y5 y6 y7 y8, LeO (palletref01_Scale.j3 k y0 y1 y2 y3 y4 y5 y6 y7 y8) (palletref01_Scale.j3 (k + 1) y0 y1 y2 y3 y4 y5 y6 y7 y8))
 | 0 => ⟨fun _ _ _ _ r h => by simp [palletref01_Scale.j0] at h, fun _ _ _ _ _ _ r h => by simp [palletref01_Scale.l0] at h, fun _ _ _ _ _ _ _ _ r h => by simp [palletref01_Scale.l1] at h, fun _ _ _ _ _ _ _ _ _ r h => by simp [palletref01_Scale.j3] at h⟩
 | k + 1 => by
  obtain ⟨ih0, ih1, ih2, ih3⟩ := palletref01_Scale.mono_l k
  refine ⟨?_, ?_, ?_, ?_⟩
  ·intro y0 y1 y2 y3
   unfold palletref01_Scale.j0
   repeat' first
   | (with_reducible exact ih0 _ _ _ _)
   | (with_reducible exact ih1 _ _ _ _ _ _)
   | (with_reducible exact ih2 _ _ _ _ _ _ _ _)
   | (with_reducible exact ih3 _ _ _ _ _ _ _ _ _)
   | (with_reducible exact palletref01_May.mono _ _)
   | (with_reducible exact LeO.refl _)
   | (with_reducible exact LeO.none _)
   | (with_reducible refine LeO.ite ?_ ?_)
   | (with_reducible refine LeO.bind ?_ (fun _ => ?_))
   | exact ih0 _ _ _ _
   | exact ih1 _ _ _ _ _ _
   | exact ih2 _ _ _ _ _ _ _ _
   | exact ih3 _ _ _ _ _ _ _ _ _
   | exact palletref01_May.mono _ _
   | exact LeO.none _
   | refine LeO.ite ?_ ?_
   | refine LeO.bind ?_ (fun _ => ?_)
  ·intro y0 y1 y2 y3 y4 y5
   unfold palletref01_Scale.l0
   repeat' first
   | (with_reducible exact ih0 _ _ _ _)
   | (with_reducible exact ih1 _ _ _ _ _ _)
   | (with_reducible exact ih2 _ _ _ _ _ _ _ _)
   | (with_reducible exact ih3 _ _ _ _ _ _ _ _ _)
   | (with_reducible exact palletref01_May.mono _ _)
   | (with_reducible exact LeO.refl _)
   | (with_reducible exact LeO.none _)
   | (with_reducible refine LeO.ite ?_ ?_)
   | (with_reducible refine LeO.bind ?_ (fun _ => ?_))
   | exact ih0 _ _ _ _
   | exact ih1 _ _ _ _ _ _
   | exact ih2 _ _ _ _ _ _ _ _
   | exact ih3 _ _ _ _ _ _ _ _ _
   | exact palletref01_May.mono _ _
   | exact LeO.none _
   | refine LeO.ite ?_ ?_
   | refine LeO.bind ?_ (fun _ => ?_)
  ·intro y0 y1 y2 y3 y4 y5 y6 y7
   unfold palletref01_Scale.l1
   repeat' first
   | (with_reducible exact ih0 _ _ _ _)
   | (with_reducible exact ih1 _ _ _ _ _ _)
   | (with_reducible exact ih2 _ _ _ _ _ _ _ _)
   | (with_reducible exact ih3 _ _ _ _ _ _ _ _ _)
   | (with_reducible exact palletref01_May.mono _ _)
   | (with_reducible exact LeO.refl _)
   | (with_reducible exact LeO.none _)
   | (with_reducible refine LeO.ite ?_ ?_)
   | (with_reducible refine LeO.bind ?_ (fun _ => ?_))
   | exact ih0 _ _ _ _
   | exact ih1 _ _ _ _ _ _
   | exact ih2 _ _ _ _ _ _ _ _
   | exact ih3 _ _ _ _ _ _ _ _ _
   | exact palletref01_May.mono _ _
   | exact LeO.none _
   | refine LeO.ite ?_ ?_
   | refine LeO.bind ?_ (fun _ => ?_)
  ·intro y0 y1 y2 y3 y4 y5 y6 y7 y8
   unfold palletref01_Scale.j3
   repeat' first
   | (with_reducible exact ih0 _ _ _ _)
   | (with_reducible exact ih1 _ _ _ _ _ _)
   | (with_reducible exact ih2 _ _ _ _ _ _ _ _)
   | (with_reducible exact ih3 _ _ _ _ _ _ _ _ _)
   | (with_reducible exact palletref01_May.mono _ _)
   | (with_reducible exact LeO.refl _)
   | (with_reducible exact LeO.none _)
   | (with_reducible refine LeO.ite ?_ ?_)
   | (with_reducible refine LeO.bind ?_ (fun _ => ?_))
   | exact ih0 _ _ _ _
   | exact ih1 _ _ _ _ _ _
   | exact ih2 _ _ _ _ _ _ _ _
   | exact ih3 _ _ _ _ _ _ _ _ _
   | exact palletref01_May.mono _ _
   | exact LeO.none _
   | refine LeO.ite ?_ ?_
   | refine LeO.bind ?_ (fun _ => ?_)
theorem palletref01_Scale.mono : ∀ a0 a1 a2 k, LeO (palletref01_Scale.f k a0 a1 a2) (palletref01_Scale.f (k + 1) a0 a1 a2) := by
 intro a0 a1 a2 k
 obtain ⟨ih0, ih1, ih2, ih3⟩ := palletref01_Scale.mono_l k
 unfold palletref01_Scale.f
 repeat' first
   | (with_reducible exact ih0 _ _ _ _)
   | (with_reducible exact ih1 _ _ _ _ _ _)
   | (with_reducible exact ih2 _ _ _ _ _ _ _ _)
   | (with_reducible exact ih3 _ _ _ _ _ _ _ _ _)
   | (with_reducible exact palletref01_May.mono _ _)
   | (with_reducible exact LeO.refl _)
   | (with_reducible exact LeO.none _)
   | (with_reducible refine LeO.ite ?_ ?_)
   | (with_reducible refine LeO.bind ?_ (fun _ => ?_))
   | exact ih0 _ _ _ _
   | exact ih1 _ _ _ _ _ _
   | exact ih2 _ _ _ _ _ _ _ _
   | exact ih3 _ _ _ _ _ _ _ _ _
   | exact palletref01_May.mono _ _
   | exact LeO.none _
   | refine LeO.ite ?_ ?_
   | refine LeO.bind ?_ (fun _ => ?_)
set_option maxHeartbeats 8000000 in
set_option maxRecDepth 100000 in
theorem palletref01_Scale.calls (k : Nat) (a0 : Int) (a1 : Int) (a2 : Int) (r1 : Int) (r2 : Int) (r3 : Int) (w : World) (h : palletref01_Scale.f k a0 a1 a2 = some (r1, r2, r3)) :
  Calls Try.prog 28 #[.int .i64 a0, .int .i64 a1, .int .i64 a2] w fun e w' => e = .returned (.tuple #[.int .i64 r1, .int .i64 r2, .int .i64 r3]) ∧ Below w.heap.size w w' := by
 have HB := Aside0.mk (Below.refl w.heap.size w)
 have H : ((palletref01_May.f k (([a0, a1, a2] : List Int))).bind fun t236 => (if t236 = true then (palletref01_Scale.j0 k a0 a1 a2 (decide (a2 < 1))) else (palletref01_Scale.j0 k a0 a1 a2 true))) = some (r1, r2, r3) := h
 clear h
 have HC4 := Aside0.mk H
 clear H
 go_enter Try.func28, Try.ntmps28
 go_upto_region 1 with (fail)
 go_cut [28] (fun v28 wc => ∃ (kq : Nat) (x28_3 : Bool), v28 = .bool x28_3 ∧ Aside0 (palletref01_Scale.j0 kq a0 a1 a2 x28_3 = some (r1, r2, r3)) ∧ Aside0 (kq ≤ k) ∧ Aside0 (Below w.heap.size w wc))
 case first =>
  have H := HC4.out
  clear HC4
  obtain ⟨y233, hy233⟩ : ∃ y_ : List Int, y_ = (([a0, a1, a2] : List Int)) := ⟨_, rfl⟩
  replace H : ((palletref01_May.f k y233).bind fun t236 => (if t236 = true then (palletref01_Scale.j0 k a0 a1 a2 (decide (a2 < 1))) else (palletref01_Scale.j0 k a0 a1 a2 true))) = some (r1, r2, r3) := by first | (rw [hy233]; with_reducible exact H) | (have H2_ := (Option.bind_some _ _).symm.trans H; rw [hy233]; with_reducible exact H2_) | (have H2_ := (Option.bind_some _ _).symm.trans H; with_reducible exact H2_) | with_reducible exact H | (rw [hy233]; exact H) | exact H
  have Ny233 := Aside0.mk hy233
  clear hy233
  replace H := Option.bind_eq_some_iff.mp H
  obtain ⟨t236, A50, H⟩ := H
  replace H : (if t236 = true then (palletref01_Scale.j0 k a0 a1 a2 (decide (a2 < 1))) else (palletref01_Scale.j0 k a0 a1 a2 true)) = some (r1, r2, r3) := H
  have A5 := Aside0.mk A50
  clear A50
  by_cases c6 : t236 = true
  ·subst c6
   have H1 : (palletref01_Scale.j0 k a0 a1 a2 (decide (a2 < 1))) = some (r1, r2, r3) := by rw [if_pos rfl] at H; exact H
   clear H
   have H := H1
   clear H1
   have H' := Aside0.mk H
   clear H
   go_wp2_with (first | ((with_reducible refine gate_dst (N := 22) rfl ?_); refine Kd.R_lit (Kd.int .i64) _ 2 ?hg (N := 22) ?hd (xs := ([a0, a1, a2] : List Int)) (inner := [.int .i64 a0, .int .i64 a1, .int .i64 a2]) (ok := fun _ => True) (okp := fun _ => True) ?hr ?hp (fun _ hk => hk) trivial (Below.refl _ _) (Nat.le_refl _) (by simp) ?_; (case hd => rfl); (case hg => rfl); (case hr => first | (go_simp; done) | (go_simp; rfl)); (case hp => exact (Reps.one (show Kd.M (Kd.int .i64) _ _ _ a0 [.int .i64 a0] from rfl) (Reps.one (show Kd.M (Kd.int .i64) _ _ _ a1 [.int .i64 a1] from rfl) (Reps.one (show Kd.M (Kd.int .i64) _ _ _ a2 [.int .i64 a2] from rfl) (Reps.none _ _))))); intro v234 w7 ho8 hb hg_ hnew_; clear hg_ hnew_; (first | rw [← Ny233.out] at ho8 | (simp only [Int.reduceToNat] at ho8; rw [← Ny233.out] at ho8)); have n0_ := Aside0.mk (Kd.R_lower ho8 (below_size (by repeat (first | (with_reducible first | exact HB.out | apply below_alloc | apply pw_below_drewN | apply below_drew1) | exact HB.out)))); have n1_ := Aside0.mk (below_step (by repeat (first | (with_reducible first | exact HB.out | apply below_alloc | apply pw_below_drewN | apply below_drew1) | exact HB.out)) hb); clear HB; have HO235 := n0_; have HB := n1_; clear n0_ n1_; clear hb ho8; obtain ⟨Ao9, co9, eo9⟩ := Kd.R_slice HO235.out; subst eo9) | ((with_reducible refine gate_callee (f := 30) rfl ?_); refine goesL_ (some 23) rfl rfl Try.func30 (by kernel_rfl) rfl #[.slice Ao9 y233.length co9] rfl (by (try simp only [List.map_toArray, List.map_cons, List.map_nil]); first | done | rfl | (simp only [List.length_drop, List.length_take]; rfl)) ?_; (with_reducible refine (palletref01_May.calls k _ _ y233 true _ ?side1 ?side2 A5.out).mono ?_); (case side1 => repeat (first | exact (Kd.R_reads' HO235.out).2.2 | (with_reducible refine Kd.C_alloc ?_ _) | (with_reducible refine Kd.C_drewN ?_ _) | (with_reducible refine Kd.C_drew ?_))); (case side2 => exact (Kd.R_reads' HO235.out).2.1); rintro e w' ⟨rfl, ⟨nd, rfl⟩⟩; refine ⟨_, rfl, ?_⟩))
   go_meet
   case rel => exact ⟨_, (decide (a2 < 1)), (by first | rfl | (simp; done) | (simp [*]; done)), H', ⟨by first | omega | exact Nat.le_refl _⟩, ⟨by repeat (first | (with_reducible first | exact HB.out | apply below_alloc | apply pw_below_drewN | apply below_drew1) | exact HB.out)⟩⟩
  ·replace c6 := Bool.eq_false_iff.mpr c6
   subst c6
   have H1 : (palletref01_Scale.j0 k a0 a1 a2 true) = some (r1, r2, r3) := by rw [if_neg (show ¬ (false = true) by decide)] at H; exact H
   clear H
   have H := H1
   clear H1
   have H' := Aside0.mk H
   clear H
   go_wp2_with (first | ((with_reducible refine gate_dst (N := 22) rfl ?_); refine Kd.R_lit (Kd.int .i64) _ 2 ?hg (N := 22) ?hd (xs := ([a0, a1, a2] : List Int)) (inner := [.int .i64 a0, .int .i64 a1, .int .i64 a2]) (ok := fun _ => True) (okp := fun _ => True) ?hr ?hp (fun _ hk => hk) trivial (Below.refl _ _) (Nat.le_refl _) (by simp) ?_; (case hd => rfl); (case hg => rfl); (case hr => first | (go_simp; done) | (go_simp; rfl)); (case hp => exact (Reps.one (show Kd.M (Kd.int .i64) _ _ _ a0 [.int .i64 a0] from rfl) (Reps.one (show Kd.M (Kd.int .i64) _ _ _ a1 [.int .i64 a1] from rfl) (Reps.one (show Kd.M (Kd.int .i64) _ _ _ a2 [.int .i64 a2] from rfl) (Reps.none _ _))))); intro v234 w10 ho11 hb hg_ hnew_; clear hg_ hnew_; (first | rw [← Ny233.out] at ho11 | (simp only [Int.reduceToNat] at ho11; rw [← Ny233.out] at ho11)); have n0_ := Aside0.mk (Kd.R_lower ho11 (below_size (by repeat (first | (with_reducible first | exact HB.out | apply below_alloc | apply pw_below_drewN | apply below_drew1) | exact HB.out)))); have n1_ := Aside0.mk (below_step (by repeat (first | (with_reducible first | exact HB.out | apply below_alloc | apply pw_below_drewN | apply below_drew1) | exact HB.out)) hb); clear HB; have HO235 := n0_; have HB := n1_; clear n0_ n1_; clear hb ho11; obtain ⟨Ao12, co12, eo12⟩ := Kd.R_slice HO235.out; subst eo12) | ((with_reducible refine gate_callee (f := 30) rfl ?_); refine goesL_ (some 23) rfl rfl Try.func30 (by kernel_rfl) rfl #[.slice Ao12 y233.length co12] rfl (by (try simp only [List.map_toArray, List.map_cons, List.map_nil]); first | done | rfl | (simp only [List.length_drop, List.length_take]; rfl)) ?_; (with_reducible refine (palletref01_May.calls k _ _ y233 false _ ?side1 ?side2 A5.out).mono ?_); (case side1 => repeat (first | exact (Kd.R_reads' HO235.out).2.2 | (with_reducible refine Kd.C_alloc ?_ _) | (with_reducible refine Kd.C_drewN ?_ _) | (with_reducible refine Kd.C_drew ?_))); (case side2 => exact (Kd.R_reads' HO235.out).2.1); rintro e w' ⟨rfl, ⟨nd, rfl⟩⟩; refine ⟨_, rfl, ?_⟩))
   go_meet
   case rel => exact ⟨_, (true), (by first | rfl | (simp; done) | (simp [*]; done)), H', ⟨by first | omega | exact Nat.le_refl _⟩, ⟨by repeat (first | (with_reducible first | exact HB.out | apply below_alloc | apply pw_below_drewN | apply below_drew1) | exact HB.out)⟩⟩
 case rest =>
  clear HC4
  try clear c2
  try clear p2
  try clear c3
  try clear c6
  obtain ⟨kq, x28_3, rfl, HA, HJ3, HB⟩ := hcut
  cases kq with
  | zero => exact absurd HA.out (by simp [palletref01_Scale.j0])
  | succ kj3 =>
   have H := HA.out
   clear HA
   simp only [palletref01_Scale.j0] at H
   by_cases c13 : x28_3 = true
   ·subst c13
    have H1 : (some (0, 0, 1)) = some (r1, r2, r3) := by rw [if_pos rfl] at H; exact H
    clear H
    have H := H1
    clear H1
    simp only [Option.some.injEq, Prod.mk.injEq] at H
    obtain ⟨rfl, rfl, rfl⟩ := H
    go_wp2
    go_ret3
    exact ⟨by first | rfl | (simp [errW_none, errW_some] <;> rfl) | (simp [*, errW_none, errW_some] <;> rfl), by repeat (first | (with_reducible first | exact HB.out | apply below_alloc | apply pw_below_drewN | apply below_drew1) | exact HB.out)⟩
   ·replace c13 := Bool.eq_false_iff.mpr c13
    subst c13
    have H1 : (palletref01_Scale.l0 kj3 a0 a1 a2 0 0 63) = some (r1, r2, r3) := by rw [if_neg (show ¬ (false = true) by decide)] at H; exact H
    clear H
    have H := H1
    clear H1
    have H' := Aside0.mk H
    clear H
    go_wp2
    go_loopg [9, 10, 11] kj3 (fun kq v9 v10 v11 w' => ∃ (x9_2 : Int) (x10_2 : Int) (x11_2 : Int), v9 = .int .u64 x9_2 ∧ v10 = .int .u64 x10_2 ∧ v11 = .int .i64 x11_2 ∧ Aside0 (palletref01_Scale.l0 kq a0 a1 a2 x9_2 x10_2 x11_2 = some (r1, r2, r3)) ∧ Aside0 (kq ≤ kj3) ∧ Aside0 (Below w.heap.size w w'))
    case atStart => exact ⟨(0), (0), (63), (by first | rfl | (simp; done) | (simp [*]; done)), (by first | rfl | (simp; done) | (simp [*]; done)), (by first | rfl | (simp; done) | (simp [*]; done)), H', ⟨Nat.le_refl _⟩, ⟨by repeat (first | (with_reducible first | exact HB.out | apply below_alloc | apply pw_below_drewN | apply below_drew1) | exact HB.out)⟩⟩
    case round =>
     clear H'
     try clear c1
     try clear c2
     try clear p2
     try clear c3
     try clear c6
     try clear c13
     try clear p2
     obtain ⟨x9_2, x10_2, x11_2, rfl, rfl, rfl, HA, HK2, HB⟩ := hrel
     cases gk with
     | zero => exact absurd HA.out (by simp [palletref01_Scale.l0])
     | succ k2 =>
      have H := HA.out
      clear HA
      simp only [palletref01_Scale.l0] at H
      by_cases c14 : x11_2 ≥ 0
      ·rw [if_pos c14] at H
       have c14b0 : decide (0 ≤ x11_2) = true := decide_eq_true c14
       clear c14
       replace H := Option.bind_eq_some_iff.mp H
       obtain ⟨⟨t237, t238⟩, A150, H⟩ := H
       replace H : ((palletref01_size.f a1).bind fun t239 => (if 0 ≤ x11_2 then (if (Go.bits .and .u64 (shr .u64 t239 x11_2) 1) = 1 then ((palletref01_size.f a0).bind fun t240 => (if (IntKind.u64.wrap (t238 + t240)) < t238 then (palletref01_Scale.l0 k2 a0 a1 a2 (IntKind.u64.wrap (t237 + 1)) (IntKind.u64.wrap (t238 + t240)) (wrap64 (x11_2 - 1))) else (palletref01_Scale.l0 k2 a0 a1 a2 t237 (IntKind.u64.wrap (t238 + t240)) (wrap64 (x11_2 - 1))))) else (palletref01_Scale.l0 k2 a0 a1 a2 t237 t238 (wrap64 (x11_2 - 1)))) else (none))) = some (r1, r2, r3) := H
       have A15 := Aside0.mk A150
       clear A150
       replace H := Option.bind_eq_some_iff.mp H
       obtain ⟨t239, A160, H⟩ := H
       replace H : (if 0 ≤ x11_2 then (if (Go.bits .and .u64 (shr .u64 t239 x11_2) 1) = 1 then ((palletref01_size.f a0).bind fun t240 => (if (IntKind.u64.wrap (t238 + t240)) < t238 then (palletref01_Scale.l0 k2 a0 a1 a2 (IntKind.u64.wrap (t237 + 1)) (IntKind.u64.wrap (t238 + t240)) (wrap64 (x11_2 - 1))) else (palletref01_Scale.l0 k2 a0 a1 a2 t237 (IntKind.u64.wrap (t238 + t240)) (wrap64 (x11_2 - 1))))) else (palletref01_Scale.l0 k2 a0 a1 a2 t237 t238 (wrap64 (x11_2 - 1)))) else (none)) = some (r1, r2, r3) := H
       have A16 := Aside0.mk A160
       clear A160
       by_cases c17 : 0 ≤ x11_2
       ·rw [if_pos c17] at H
        have c17b0 := eq_true c17
        have c17b1 : decide (0 ≤ x11_2) = true := decide_eq_true c17
        clear c17
        obtain ⟨ji18, hji18⟩ : ∃ j_ : Int, (shr .u64 t239 x11_2) = j_ := ⟨_, rfl⟩
        replace H : (if (Go.bits .and .u64 (ji18) 1) = 1 then ((palletref01_size.f a0).bind fun t240 => (if (IntKind.u64.wrap (t238 + t240)) < t238 then (palletref01_Scale.l0 k2 a0 a1 a2 (IntKind.u64.wrap (t237 + 1)) (IntKind.u64.wrap (t238 + t240)) (wrap64 (x11_2 - 1))) else (palletref01_Scale.l0 k2 a0 a1 a2 t237 (IntKind.u64.wrap (t238 + t240)) (wrap64 (x11_2 - 1))))) else (palletref01_Scale.l0 k2 a0 a1 a2 t237 t238 (wrap64 (x11_2 - 1)))) = some (r1, r2, r3) := by first | (rw [hji18] at H; exact H) | (simp only [hji18] at H ⊢; exact H)
        (try rw [hji18] at A15)
        (try rw [hji18] at A16)
        have hji18_ : (t239 / 2 ^ min x11_2.toNat 64) = ji18 := hji18
        have hji18z : x11_2 ≤ 64 → (t239 / 2 ^ x11_2.toNat) = ji18 := shr_small hji18
        by_cases c19 : (Go.bits .and .u64 (ji18) 1) = 1
        ·rw [if_pos c19] at H
         have c19b0 : ((Go.bits .and .u64 (ji18) 1) == 1) = true := beq_iff_eq.mpr c19
         have c19b1 : ((Go.bits .and .u64 (ji18) 1) != 1) = false := bne_eq_false_iff_eq.mpr c19
         clear c19
         replace H := Option.bind_eq_some_iff.mp H
         obtain ⟨t240, A200, H⟩ := H
         replace H : (if (IntKind.u64.wrap (t238 + t240)) < t238 then (palletref01_Scale.l0 k2 a0 a1 a2 (IntKind.u64.wrap (t237 + 1)) (IntKind.u64.wrap (t238 + t240)) (wrap64 (x11_2 - 1))) else (palletref01_Scale.l0 k2 a0 a1 a2 t237 (IntKind.u64.wrap (t238 + t240)) (wrap64 (x11_2 - 1)))) = some (r1, r2, r3) := H
         have A20 := Aside0.mk A200
         clear A200
         by_cases c21 : (IntKind.u64.wrap (t238 + t240)) < t238
         ·rw [if_pos c21] at H
          have c21b0 : decide ((IntKind.u64.wrap (t238 + t240)) < t238) = true := decide_eq_true c21
          clear c21
          have H' := Aside0.mk H
          clear H
          go_wp2_with (first | ((with_reducible refine gate_callee (f := 41) rfl ?_); refine goesL_ (some 36) rfl rfl Try.func41 (by kernel_rfl) rfl #[.int .u64 x9_2, .int .u64 x10_2, .int .u64 0] rfl (by (try simp only [List.map_toArray, List.map_cons, List.map_nil]); first | done | rfl | (simp only [List.length_drop, List.length_take]; rfl)) ?_; (with_reducible refine (palletref01_twice.calls x9_2 x10_2 0 t237 t238 _ A15.out).mono ?_); rintro e w' ⟨rfl, ⟨nd, rfl⟩⟩; refine ⟨_, rfl, ?_⟩) | ((with_reducible refine gate_callee (f := 42) rfl ?_); refine goesL_ (some 40) rfl rfl Try.func42 (by kernel_rfl) rfl #[.int .i64 a1] rfl (by (try simp only [List.map_toArray, List.map_cons, List.map_nil]); first | done | rfl | (simp only [List.length_drop, List.length_take]; rfl)) ?_; (with_reducible refine (palletref01_size.calls a1 t239 _ A16.out).mono ?_); rintro e w' ⟨rfl, ⟨nd, rfl⟩⟩; refine ⟨_, rfl, ?_⟩) | ((with_reducible refine gate_callee (f := 42) rfl ?_); refine goesL_ (some 48) rfl rfl Try.func42 (by kernel_rfl) rfl #[.int .i64 a0] rfl (by (try simp only [List.map_toArray, List.map_cons, List.map_nil]); first | done | rfl | (simp only [List.length_drop, List.length_take]; rfl)) ?_; (with_reducible refine (palletref01_size.calls a0 t240 _ A20.out).mono ?_); rintro e w' ⟨rfl, ⟨nd, rfl⟩⟩; refine ⟨_, rfl, ?_⟩))
          go_roundg k2
          case measure => have := HJ3.out; have := HK2.out; omega
          case rel => exact ⟨(IntKind.u64.wrap (t237 + 1)), (IntKind.u64.wrap (t238 + t240)), (wrap64 (x11_2 - 1)), (by first | rfl | (simp; done) | (simp [*]; done)), (by first | rfl | (simp; done) | (simp [*]; done)), (by first | rfl | (simp; done) | (simp [*]; done)), H', ⟨by have := HJ3.out; have := HK2.out; omega⟩, ⟨by repeat (first | (with_reducible first | exact HB.out | apply below_alloc | apply pw_below_drewN | apply below_drew1) | exact HB.out)⟩⟩
         ·rw [if_neg c21] at H
          have c21b0 : decide ((IntKind.u64.wrap (t238 + t240)) < t238) = false := decide_eq_false c21
          clear c21
          have H' := Aside0.mk H
          clear H
          go_wp2_with (first | ((with_reducible refine gate_callee (f := 41) rfl ?_); refine goesL_ (some 36) rfl rfl Try.func41 (by kernel_rfl) rfl #[.int .u64 x9_2, .int .u64 x10_2, .int .u64 0] rfl (by (try simp only [List.map_toArray, List.map_cons, List.map_nil]); first | done | rfl | (simp only [List.length_drop, List.length_take]; rfl)) ?_; (with_reducible refine (palletref01_twice.calls x9_2 x10_2 0 t237 t238 _ A15.out).mono ?_); rintro e w' ⟨rfl, ⟨nd, rfl⟩⟩; refine ⟨_, rfl, ?_⟩) | ((with_reducible refine gate_callee (f := 42) rfl ?_); refine goesL_ (some 40) rfl rfl Try.func42 (by kernel_rfl) rfl #[.int .i64 a1] rfl (by (try simp only [List.map_toArray, List.map_cons, List.map_nil]); first | done | rfl | (simp only [List.length_drop, List.length_take]; rfl)) ?_; (with_reducible refine (palletref01_size.calls a1 t239 _ A16.out).mono ?_); rintro e w' ⟨rfl, ⟨nd, rfl⟩⟩; refine ⟨_, rfl, ?_⟩) | ((with_reducible refine gate_callee (f := 42) rfl ?_); refine goesL_ (some 48) rfl rfl Try.func42 (by kernel_rfl) rfl #[.int .i64 a0] rfl (by (try simp only [List.map_toArray, List.map_cons, List.map_nil]); first | done | rfl | (simp only [List.length_drop, List.length_take]; rfl)) ?_; (with_reducible refine (palletref01_size.calls a0 t240 _ A20.out).mono ?_); rintro e w' ⟨rfl, ⟨nd, rfl⟩⟩; refine ⟨_, rfl, ?_⟩))
          go_roundg k2
          case measure => have := HJ3.out; have := HK2.out; omega
          case rel => exact ⟨(t237), (IntKind.u64.wrap (t238 + t240)), (wrap64 (x11_2 - 1)), (by first | rfl | (simp; done) | (simp [*]; done)), (by first | rfl | (simp; done) | (simp [*]; done)), (by first | rfl | (simp; done) | (simp [*]; done)), H', ⟨by have := HJ3.out; have := HK2.out; omega⟩, ⟨by repeat (first | (with_reducible first | exact HB.out | apply below_alloc | apply pw_below_drewN | apply below_drew1) | exact HB.out)⟩⟩
        ·rw [if_neg c19] at H
         have c19b0 : ((Go.bits .and .u64 (ji18) 1) == 1) = false := beq_eq_false_iff_ne.mpr c19
         have c19b1 : ((Go.bits .and .u64 (ji18) 1) != 1) = true := bne_iff_ne.mpr c19
         have H' := Aside0.mk H
         clear H
         go_wp2_with (first | ((with_reducible refine gate_callee (f := 41) rfl ?_); refine goesL_ (some 36) rfl rfl Try.func41 (by kernel_rfl) rfl #[.int .u64 x9_2, .int .u64 x10_2, .int .u64 0] rfl (by (try simp only [List.map_toArray, List.map_cons, List.map_nil]); first | done | rfl | (simp only [List.length_drop, List.length_take]; rfl)) ?_; (with_reducible refine (palletref01_twice.calls x9_2 x10_2 0 t237 t238 _ A15.out).mono ?_); rintro e w' ⟨rfl, ⟨nd, rfl⟩⟩; refine ⟨_, rfl, ?_⟩) | ((with_reducible refine gate_callee (f := 42) rfl ?_); refine goesL_ (some 40) rfl rfl Try.func42 (by kernel_rfl) rfl #[.int .i64 a1] rfl (by (try simp only [List.map_toArray, List.map_cons, List.map_nil]); first | done | rfl | (simp only [List.length_drop, List.length_take]; rfl)) ?_; (with_reducible refine (palletref01_size.calls a1 t239 _ A16.out).mono ?_); rintro e w' ⟨rfl, ⟨nd, rfl⟩⟩; refine ⟨_, rfl, ?_⟩))
         go_roundg k2
         case measure => have := HJ3.out; have := HK2.out; omega
         case rel => exact ⟨(t237), (t238), (wrap64 (x11_2 - 1)), (by first | rfl | (simp; done) | (simp [*]; done)), (by first | rfl | (simp; done) | (simp [*]; done)), (by first | rfl | (simp; done) | (simp [*]; done)), H', ⟨by have := HJ3.out; have := HK2.out; omega⟩, ⟨by repeat (first | (with_reducible first | exact HB.out | apply below_alloc | apply pw_below_drewN | apply below_drew1) | exact HB.out)⟩⟩
       ·rw [if_neg c17] at H
        exact absurd H (by simp)
      ·rw [if_neg c14] at H
       have c14b0 : decide (0 ≤ x11_2) = false := decide_eq_false c14
       clear c14
       have H' := Aside0.mk H
       clear H
       go_wp2
       go_loopg [13, 14, 15] k2 (fun kq v13 v14 v15 w' => ∃ (x13_3 : Int) (x14_3 : Int) (x15_3 : Int), v13 = .int .u64 x13_3 ∧ v14 = .int .u64 x14_3 ∧ v15 = .int .i64 x15_3 ∧ Aside0 (palletref01_Scale.l1 kq a0 a1 a2 x9_2 x10_2 x13_3 x14_3 x15_3 = some (r1, r2, r3)) ∧ Aside0 (kq ≤ k2) ∧ Aside0 (Below w.heap.size w w'))
       case atStart => exact ⟨(0), (0), (127), (by first | rfl | (simp; done) | (simp [*]; done)), (by first | rfl | (simp; done) | (simp [*]; done)), (by first | rfl | (simp; done) | (simp [*]; done)), H', ⟨Nat.le_refl _⟩, ⟨by repeat (first | (with_reducible first | exact HB.out | apply below_alloc | apply pw_below_drewN | apply below_drew1) | exact HB.out)⟩⟩
       case round =>
        clear H'
        try clear c1
        try clear c2
        try clear p2
        try clear c3
        try clear c4
        try clear c6
        try clear p6
        try clear c13
        try clear c14
        try clear c14b0
        try clear c17
        try clear c17b0
        try clear c17b1
        try clear c19
        try clear c19b0
        try clear c19b1
        try clear c21
        try clear c21b0
        try clear p2
        obtain ⟨x13_3, x14_3, x15_3, rfl, rfl, rfl, HA, HK3, HB⟩ := hrel
        cases gk with
        | zero => exact absurd HA.out (by simp [palletref01_Scale.l1])
        | succ k3 =>
         have H := HA.out
         clear HA
         simp only [palletref01_Scale.l1] at H
         by_cases c22 : x15_3 ≥ 0
         ·rw [if_pos c22] at H
          have c22b0 : decide (0 ≤ x15_3) = true := decide_eq_true c22
          clear c22
          obtain ⟨ji23, hji23⟩ : ∃ j_ : Int, (Int.tmod x15_3 64) = j_ := ⟨_, rfl⟩
          replace H : (if 0 ≤ (ji23) then (if x15_3 ≥ 64 then (palletref01_Scale.j3 k3 a0 a1 a2 x9_2 x10_2 x13_3 x14_3 x15_3 (Go.bits .and .u64 (shr .u64 x9_2 (ji23)) 1)) else (palletref01_Scale.j3 k3 a0 a1 a2 x9_2 x10_2 x13_3 x14_3 x15_3 (Go.bits .and .u64 (shr .u64 x10_2 (ji23)) 1))) else (none)) = some (r1, r2, r3) := by first | (rw [hji23] at H; exact H) | (simp only [hji23] at H ⊢; exact H)
          by_cases c24 : 0 ≤ (ji23)
          ·rw [if_pos c24] at H
           have c24b0 := eq_true c24
           have c24b1 : decide (0 ≤ (ji23)) = true := decide_eq_true c24
           clear c24
           obtain ⟨ji25, hji25⟩ : ∃ j_ : Int, (shr .u64 x10_2 (ji23)) = j_ := ⟨_, rfl⟩
           replace H : (if x15_3 ≥ 64 then (palletref01_Scale.j3 k3 a0 a1 a2 x9_2 x10_2 x13_3 x14_3 x15_3 (Go.bits .and .u64 (shr .u64 x9_2 (ji23)) 1)) else (palletref01_Scale.j3 k3 a0 a1 a2 x9_2 x10_2 x13_3 x14_3 x15_3 (Go.bits .and .u64 (ji25) 1))) = some (r1, r2, r3) := by first | (rw [hji25] at H; exact H) | (simp only [hji25] at H ⊢; exact H)
           have hji25_ : (x10_2 / 2 ^ min (ji23).toNat 64) = ji25 := hji25
           have hji25z : (ji23) ≤ 64 → (x10_2 / 2 ^ (ji23).toNat) = ji25 := shr_small hji25
           have HC26 := Aside0.mk H
           clear H
           go_upto_if 65 with (fail)
           go_cut [16] (fun v16 wc => ∃ (kq : Nat) (x16_25 : Int), v16 = .int .u64 x16_25 ∧ Aside0 (palletref01_Scale.j3 kq a0 a1 a2 x9_2 x10_2 x13_3 x14_3 x15_3 x16_25 = some (r1, r2, r3)) ∧ Aside0 (kq ≤ k3) ∧ Aside0 (Below w.heap.size w wc))
           case first =>
            have H := HC26.out
            clear HC26
            by_cases c27 : x15_3 ≥ 64
            ·rw [if_pos c27] at H
             have c27b0 : decide (64 ≤ x15_3) = true := decide_eq_true c27
             clear c27
             (first | rw [c27b0] | (simp only [i64_w, i32_w]; rw [c27b0]) | skip)
             have c28b0 := eq_true (of_decide_eq_true (by first | (with_reducible assumption) | assumption) : 0 ≤ (ji23))
             obtain ⟨ji29, hji29⟩ : ∃ j_ : Int, (shr .u64 x9_2 (ji23)) = j_ := ⟨_, rfl⟩
             replace H : (palletref01_Scale.j3 k3 a0 a1 a2 x9_2 x10_2 x13_3 x14_3 x15_3 (Go.bits .and .u64 (ji29) 1)) = some (r1, r2, r3) := by first | (rw [hji29] at H; exact H) | (simp only [hji29] at H ⊢; exact H)
             have hji29_ : (x9_2 / 2 ^ min (ji23).toNat 64) = ji29 := hji29
             have hji29z : (ji23) ≤ 64 → (x9_2 / 2 ^ (ji23).toNat) = ji29 := shr_small hji29
             have H' := Aside0.mk H
             clear H
             go_wp2
             go_meet
             case rel => exact ⟨_, (Go.bits .and .u64 (ji29) 1), (by first | rfl | (simp; done) | (simp only [← hji29] <;> (first | rfl | simp)) | (simp [*]; done)), H', ⟨by have := HJ3.out; have := HK2.out; have := HK3.out; first | omega | exact Nat.le_refl _⟩, ⟨by repeat (first | (with_reducible first | exact HB.out | apply below_alloc | apply pw_below_drewN | apply below_drew1) | exact HB.out)⟩⟩
            ·rw [if_neg c27] at H
             have c27b0 : decide (64 ≤ x15_3) = false := decide_eq_false c27
             clear c27
             (first | rw [c27b0] | (simp only [i64_w, i32_w]; rw [c27b0]) | skip)
             have H' := Aside0.mk H
             clear H
             go_wp2
             go_meet
             case rel => exact ⟨_, (Go.bits .and .u64 (ji25) 1), (by first | rfl | (simp; done) | (simp only [← hji25] <;> (first | rfl | simp)) | (simp [*]; done)), H', ⟨by have := HJ3.out; have := HK2.out; have := HK3.out; first | omega | exact Nat.le_refl _⟩, ⟨by repeat (first | (with_reducible first | exact HB.out | apply below_alloc | apply pw_below_drewN | apply below_drew1) | exact HB.out)⟩⟩
           case rest =>
            clear HC26
            try clear c1
            try clear c2
            try clear p2
            try clear c3
            try clear c4
            try clear c6
            try clear p6
            try clear c13
            try clear c14
            try clear c14b0
            try clear c17
            try clear c17b0
            try clear c17b1
            try clear c19
            try clear c19b0
            try clear c19b1
            try clear c21
            try clear c21b0
            try clear c22
            try clear c22b0
            try clear c24
            try clear c24b0
            try clear c24b1
            try clear c27
            try clear c27b0
            try clear c28
            try clear c28b0
            try clear p2
            try clear p6
            obtain ⟨kq, x16_25, rfl, HA, HJ25, HB⟩ := hcut
            cases kq with
            | zero => exact absurd HA.out (by simp [palletref01_Scale.j3])
            | succ kj25 =>
             have H := HA.out
             clear HA
             simp only [palletref01_Scale.j3] at H
             by_cases c30 : x13_3 > 1152921504606846976
             ·rw [if_pos c30] at H
              have c30b0 : decide (1152921504606846976 < x13_3) = true := decide_eq_true c30
              clear c30
              simp only [Option.some.injEq, Prod.mk.injEq] at H
              obtain ⟨rfl, rfl, rfl⟩ := H
              go_wp2
              go_ret3
              exact ⟨by first | rfl | (simp [errW_none, errW_some] <;> rfl) | (simp only [← hji23, ← hji25]; first | rfl | (simp [errW_none, errW_some] <;> rfl)) | (simp [*, errW_none, errW_some] <;> rfl), by repeat (first | (with_reducible first | exact HB.out | apply below_alloc | apply pw_below_drewN | apply below_drew1) | exact HB.out)⟩
             ·rw [if_neg c30] at H
              have c30b0 : decide (1152921504606846976 < x13_3) = false := decide_eq_false c30
              clear c30
              by_cases c31 : (Go.bits .or .u64 (IntKind.u64.wrap (x14_3 * 2)) x16_25) ≥ (IntKind.u64.wrap (a2))
              ·rw [if_pos c31] at H
               have c31b0 : decide ((IntKind.u64.wrap (a2)) ≤ (Go.bits .or .u64 (IntKind.u64.wrap (x14_3 * 2)) x16_25)) = true := decide_eq_true c31
               clear c31
               have H' := Aside0.mk H
               clear H
               go_wp2
               go_roundg kj25
               case measure => have := HJ3.out; have := HK2.out; have := HK3.out; have := HJ25.out; omega
               case rel => exact ⟨(IntKind.u64.wrap ((IntKind.u64.wrap (x13_3 * 2)) + 1)), (IntKind.u64.wrap ((Go.bits .or .u64 (IntKind.u64.wrap (x14_3 * 2)) x16_25) - (IntKind.u64.wrap (a2)))), (wrap64 (x15_3 - 1)), (by first | rfl | (simp; done) | (simp [*]; done)), (by first | rfl | (simp; done) | (simp [*]; done)), (by first | rfl | (simp; done) | (simp [*]; done)), H', ⟨by have := HJ3.out; have := HK2.out; have := HK3.out; have := HJ25.out; omega⟩, ⟨by repeat (first | (with_reducible first | exact HB.out | apply below_alloc | apply pw_below_drewN | apply below_drew1) | exact HB.out)⟩⟩
              ·rw [if_neg c31] at H
               have c31b0 : decide ((IntKind.u64.wrap (a2)) ≤ (Go.bits .or .u64 (IntKind.u64.wrap (x14_3 * 2)) x16_25)) = false := decide_eq_false c31
               clear c31
               have H' := Aside0.mk H
               clear H
               go_wp2
               go_roundg kj25
               case measure => have := HJ3.out; have := HK2.out; have := HK3.out; have := HJ25.out; omega
               case rel => exact ⟨(IntKind.u64.wrap (x13_3 * 2)), (Go.bits .or .u64 (IntKind.u64.wrap (x14_3 * 2)) x16_25), (wrap64 (x15_3 - 1)), (by first | rfl | (simp; done) | (simp [*]; done)), (by first | rfl | (simp; done) | (simp [*]; done)), (by first | rfl | (simp; done) | (simp [*]; done)), H', ⟨by have := HJ3.out; have := HK2.out; have := HK3.out; have := HJ25.out; omega⟩, ⟨by repeat (first | (with_reducible first | exact HB.out | apply below_alloc | apply pw_below_drewN | apply below_drew1) | exact HB.out)⟩⟩
          ·rw [if_neg c24] at H
           exact absurd H (by simp)
         ·rw [if_neg c22] at H
          have c22b0 : decide (0 ≤ x15_3) = false := decide_eq_false c22
          clear c22
          by_cases c32 : ((decide (a0 < 0)) != (decide (a1 < 0))) = true
          ·rw [if_pos c32] at H
           have c32b0 : ((decide (a0 < 0)) != (decide (a1 < 0))) = true := c32
           (try (have c32b1 : decide ((decide (a0 < 0)) = (decide (a1 < 0))) = false := by simpa using c32))
           (try (have c32b2 : ((decide (a0 < 0)) == (decide (a1 < 0))) = false := by simpa using c32))
           (try (have c32b3 : ¬ ((decide (a0 < 0)) = (decide (a1 < 0))) := by simpa using c32))
           clear c32
           by_cases c33 : (wrap64 (x14_3)) > 0
           ·rw [if_pos c33] at H
            have c33b0 : decide (0 < (wrap64 (x14_3))) = true := decide_eq_true c33
            clear c33
            obtain ⟨y241, hy241⟩ : ∃ y_ : List Int, y_ = (([wrap64 ((wrap64 (-(wrap64 (x13_3)))) - 1)] : List Int)) := ⟨_, rfl⟩
            replace H : ((palletref01_May.f k3 y241).bind fun t244 => (if t244 = true then (some (wrap64 ((wrap64 (-(wrap64 (x13_3)))) - 1), wrap64 (a2 - (wrap64 (x14_3))), 0)) else (some (0, 0, 2)))) = some (r1, r2, r3) := by first | (rw [hy241]; with_reducible exact H) | (have H2_ := (Option.bind_some _ _).symm.trans H; rw [hy241]; with_reducible exact H2_) | (have H2_ := (Option.bind_some _ _).symm.trans H; with_reducible exact H2_) | with_reducible exact H | (rw [hy241]; exact H) | exact H
            have Ny241 := Aside0.mk hy241
            clear hy241
            replace H := Option.bind_eq_some_iff.mp H
            obtain ⟨t244, A340, H⟩ := H
            replace H : (if t244 = true then (some (wrap64 ((wrap64 (-(wrap64 (x13_3)))) - 1), wrap64 (a2 - (wrap64 (x14_3))), 0)) else (some (0, 0, 2))) = some (r1, r2, r3) := H
            have A34 := Aside0.mk A340
            clear A340
            by_cases c35 : t244 = true
            ·subst c35
             have H1 : (some (wrap64 ((wrap64 (-(wrap64 (x13_3)))) - 1), wrap64 (a2 - (wrap64 (x14_3))), 0)) = some (r1, r2, r3) := by rw [if_pos rfl] at H; exact H
             clear H
             have H := H1
             clear H1
             simp only [Option.some.injEq, Prod.mk.injEq] at H
             obtain ⟨rfl, rfl, rfl⟩ := H
             go_wp2_with (first | ((with_reducible refine gate_dst (N := 108) rfl ?_); refine Kd.R_lit (Kd.int .i64) _ 2 ?hg (N := 108) ?hd (xs := ([wrap64 ((wrap64 (-(wrap64 (x13_3)))) - 1)] : List Int)) (inner := [.int .i64 (wrap64 ((wrap64 (-(wrap64 (x13_3)))) - 1))]) (ok := fun _ => True) (okp := fun _ => True) ?hr ?hp (fun _ hk => hk) trivial (Below.refl _ _) (Nat.le_refl _) (by simp) ?_; (case hd => rfl); (case hg => rfl); (case hr => first | (go_simp; done) | (go_simp; rfl)); (case hp => exact (Reps.one (show Kd.M (Kd.int .i64) _ _ _ (wrap64 ((wrap64 (-(wrap64 (x13_3)))) - 1)) [.int .i64 (wrap64 ((wrap64 (-(wrap64 (x13_3)))) - 1))] from rfl) (Reps.none _ _))); intro v242 w36 ho37 hb hg_ hnew_; clear hg_ hnew_; (first | rw [← Ny241.out] at ho37 | (simp only [Int.reduceToNat] at ho37; rw [← Ny241.out] at ho37)); have n0_ := Aside0.mk (Kd.R_lower ho37 (below_size (by repeat (first | (with_reducible first | exact HB.out | apply below_alloc | apply pw_below_drewN | apply below_drew1) | exact HB.out)))); have n1_ := Aside0.mk (below_step (by repeat (first | (with_reducible first | exact HB.out | apply below_alloc | apply pw_below_drewN | apply below_drew1) | exact HB.out)) hb); clear HB; have HO243 := n0_; have HB := n1_; clear n0_ n1_; clear hb ho37; obtain ⟨Ao38, co38, eo38⟩ := Kd.R_slice HO243.out; subst eo38) | ((with_reducible refine gate_callee (f := 30) rfl ?_); refine goesL_ (some 109) rfl rfl Try.func30 (by kernel_rfl) rfl #[.slice Ao38 y241.length co38] rfl (by (try simp only [List.map_toArray, List.map_cons, List.map_nil]); first | done | rfl | (simp only [List.length_drop, List.length_take]; rfl)) ?_; (with_reducible refine (palletref01_May.calls k3 _ _ y241 true _ ?side1 ?side2 A34.out).mono ?_); (case side1 => repeat (first | exact (Kd.R_reads' HO243.out).2.2 | (with_reducible refine Kd.C_alloc ?_ _) | (with_reducible refine Kd.C_drewN ?_ _) | (with_reducible refine Kd.C_drew ?_))); (case side2 => exact (Kd.R_reads' HO243.out).2.1); rintro e w' ⟨rfl, ⟨nd, rfl⟩⟩; refine ⟨_, rfl, ?_⟩))
             go_ret3
             exact ⟨by first | rfl | (simp [errW_none, errW_some] <;> rfl) | (simp [*, errW_none, errW_some] <;> rfl), by repeat (first | (with_reducible first | exact HB.out | apply below_alloc | apply pw_below_drewN | apply below_drew1) | exact HB.out)⟩
            ·replace c35 := Bool.eq_false_iff.mpr c35
             subst c35
             have H1 : (some (0, 0, 2)) = some (r1, r2, r3) := by rw [if_neg (show ¬ (false = true) by decide)] at H; exact H
             clear H
             have H := H1
             clear H1
             simp only [Option.some.injEq, Prod.mk.injEq] at H
             obtain ⟨rfl, rfl, rfl⟩ := H
             go_wp2_with (first | ((with_reducible refine gate_dst (N := 108) rfl ?_); refine Kd.R_lit (Kd.int .i64) _ 2 ?hg (N := 108) ?hd (xs := ([wrap64 ((wrap64 (-(wrap64 (x13_3)))) - 1)] : List Int)) (inner := [.int .i64 (wrap64 ((wrap64 (-(wrap64 (x13_3)))) - 1))]) (ok := fun _ => True) (okp := fun _ => True) ?hr ?hp (fun _ hk => hk) trivial (Below.refl _ _) (Nat.le_refl _) (by simp) ?_; (case hd => rfl); (case hg => rfl); (case hr => first | (go_simp; done) | (go_simp; rfl)); (case hp => exact (Reps.one (show Kd.M (Kd.int .i64) _ _ _ (wrap64 ((wrap64 (-(wrap64 (x13_3)))) - 1)) [.int .i64 (wrap64 ((wrap64 (-(wrap64 (x13_3)))) - 1))] from rfl) (Reps.none _ _))); intro v242 w39 ho40 hb hg_ hnew_; clear hg_ hnew_; (first | rw [← Ny241.out] at ho40 | (simp only [Int.reduceToNat] at ho40; rw [← Ny241.out] at ho40)); have n0_ := Aside0.mk (Kd.R_lower ho40 (below_size (by repeat (first | (with_reducible first | exact HB.out | apply below_alloc | apply pw_below_drewN | apply below_drew1) | exact HB.out)))); have n1_ := Aside0.mk (below_step (by repeat (first | (with_reducible first | exact HB.out | apply below_alloc | apply pw_below_drewN | apply below_drew1) | exact HB.out)) hb); clear HB; have HO243 := n0_; have HB := n1_; clear n0_ n1_; clear hb ho40; obtain ⟨Ao41, co41, eo41⟩ := Kd.R_slice HO243.out; subst eo41) | ((with_reducible refine gate_callee (f := 30) rfl ?_); refine goesL_ (some 109) rfl rfl Try.func30 (by kernel_rfl) rfl #[.slice Ao41 y241.length co41] rfl (by (try simp only [List.map_toArray, List.map_cons, List.map_nil]); first | done | rfl | (simp only [List.length_drop, List.length_take]; rfl)) ?_; (with_reducible refine (palletref01_May.calls k3 _ _ y241 false _ ?side1 ?side2 A34.out).mono ?_); (case side1 => repeat (first | exact (Kd.R_reads' HO243.out).2.2 | (with_reducible refine Kd.C_alloc ?_ _) | (with_reducible refine Kd.C_drewN ?_ _) | (with_reducible refine Kd.C_drew ?_))); (case side2 => exact (Kd.R_reads' HO243.out).2.1); rintro e w' ⟨rfl, ⟨nd, rfl⟩⟩; refine ⟨_, rfl, ?_⟩))
             go_ret3
             exact ⟨by first | rfl | (simp [errW_none, errW_some] <;> rfl) | (simp [*, errW_none, errW_some] <;> rfl), by repeat (first | (with_reducible first | exact HB.out | apply below_alloc | apply pw_below_drewN | apply below_drew1) | exact HB.out)⟩
           ·rw [if_neg c33] at H
            have c33b0 : decide (0 < (wrap64 (x14_3))) = false := decide_eq_false c33
            clear c33
            obtain ⟨y245, hy245⟩ : ∃ y_ : List Int, y_ = (([wrap64 (-(wrap64 (x13_3)))] : List Int)) := ⟨_, rfl⟩
            replace H : ((palletref01_May.f k3 y245).bind fun t248 => (if t248 = true then (some (wrap64 (-(wrap64 (x13_3))), wrap64 (x14_3), 0)) else (some (0, 0, 2)))) = some (r1, r2, r3) := by first | (rw [hy245]; with_reducible exact H) | (have H2_ := (Option.bind_some _ _).symm.trans H; rw [hy245]; with_reducible exact H2_) | (have H2_ := (Option.bind_some _ _).symm.trans H; with_reducible exact H2_) | with_reducible exact H | (rw [hy245]; exact H) | exact H
            have Ny245 := Aside0.mk hy245
            clear hy245
            replace H := Option.bind_eq_some_iff.mp H
            obtain ⟨t248, A420, H⟩ := H
            replace H : (if t248 = true then (some (wrap64 (-(wrap64 (x13_3))), wrap64 (x14_3), 0)) else (some (0, 0, 2))) = some (r1, r2, r3) := H
            have A42 := Aside0.mk A420
            clear A420
            by_cases c43 : t248 = true
            ·subst c43
             have H1 : (some (wrap64 (-(wrap64 (x13_3))), wrap64 (x14_3), 0)) = some (r1, r2, r3) := by rw [if_pos rfl] at H; exact H
             clear H
             have H := H1
             clear H1
             simp only [Option.some.injEq, Prod.mk.injEq] at H
             obtain ⟨rfl, rfl, rfl⟩ := H
             go_wp2_with (first | ((with_reducible refine gate_dst (N := 108) rfl ?_); refine Kd.R_lit (Kd.int .i64) _ 2 ?hg (N := 108) ?hd (xs := ([wrap64 (-(wrap64 (x13_3)))] : List Int)) (inner := [.int .i64 (wrap64 (-(wrap64 (x13_3))))]) (ok := fun _ => True) (okp := fun _ => True) ?hr ?hp (fun _ hk => hk) trivial (Below.refl _ _) (Nat.le_refl _) (by simp) ?_; (case hd => rfl); (case hg => rfl); (case hr => first | (go_simp; done) | (go_simp; rfl)); (case hp => exact (Reps.one (show Kd.M (Kd.int .i64) _ _ _ (wrap64 (-(wrap64 (x13_3)))) [.int .i64 (wrap64 (-(wrap64 (x13_3))))] from rfl) (Reps.none _ _))); intro v246 w44 ho45 hb hg_ hnew_; clear hg_ hnew_; (first | rw [← Ny245.out] at ho45 | (simp only [Int.reduceToNat] at ho45; rw [← Ny245.out] at ho45)); have n0_ := Aside0.mk (Kd.R_lower ho45 (below_size (by repeat (first | (with_reducible first | exact HB.out | apply below_alloc | apply pw_below_drewN | apply below_drew1) | exact HB.out)))); have n1_ := Aside0.mk (below_step (by repeat (first | (with_reducible first | exact HB.out | apply below_alloc | apply pw_below_drewN | apply below_drew1) | exact HB.out)) hb); clear HB; have HO247 := n0_; have HB := n1_; clear n0_ n1_; clear hb ho45; obtain ⟨Ao46, co46, eo46⟩ := Kd.R_slice HO247.out; subst eo46) | ((with_reducible refine gate_callee (f := 30) rfl ?_); refine goesL_ (some 109) rfl rfl Try.func30 (by kernel_rfl) rfl #[.slice Ao46 y245.length co46] rfl (by (try simp only [List.map_toArray, List.map_cons, List.map_nil]); first | done | rfl | (simp only [List.length_drop, List.length_take]; rfl)) ?_; (with_reducible refine (palletref01_May.calls k3 _ _ y245 true _ ?side1 ?side2 A42.out).mono ?_); (case side1 => repeat (first | exact (Kd.R_reads' HO247.out).2.2 | (with_reducible refine Kd.C_alloc ?_ _) | (with_reducible refine Kd.C_drewN ?_ _) | (with_reducible refine Kd.C_drew ?_))); (case side2 => exact (Kd.R_reads' HO247.out).2.1); rintro e w' ⟨rfl, ⟨nd, rfl⟩⟩; refine ⟨_, rfl, ?_⟩))
             go_ret3
             exact ⟨by first | rfl | (simp [errW_none, errW_some] <;> rfl) | (simp [*, errW_none, errW_some] <;> rfl), by repeat (first | (with_reducible first | exact HB.out | apply below_alloc | apply pw_below_drewN | apply below_drew1) | exact HB.out)⟩
            ·replace c43 := Bool.eq_false_iff.mpr c43
             subst c43
             have H1 : (some (0, 0, 2)) = some (r1, r2, r3) := by rw [if_neg (show ¬ (false = true) by decide)] at H; exact H
             clear H
             have H := H1
             clear H1
             simp only [Option.some.injEq, Prod.mk.injEq] at H
             obtain ⟨rfl, rfl, rfl⟩ := H
             go_wp2_with (first | ((with_reducible refine gate_dst (N := 108) rfl ?_); refine Kd.R_lit (Kd.int .i64) _ 2 ?hg (N := 108) ?hd (xs := ([wrap64 (-(wrap64 (x13_3)))] : List Int)) (inner := [.int .i64 (wrap64 (-(wrap64 (x13_3))))]) (ok := fun _ => True) (okp := fun _ => True) ?hr ?hp (fun _ hk => hk) trivial (Below.refl _ _) (Nat.le_refl _) (by simp) ?_; (case hd => rfl); (case hg => rfl); (case hr => first | (go_simp; done) | (go_simp; rfl)); (case hp => exact (Reps.one (show Kd.M (Kd.int .i64) _ _ _ (wrap64 (-(wrap64 (x13_3)))) [.int .i64 (wrap64 (-(wrap64 (x13_3))))] from rfl) (Reps.none _ _))); intro v246 w47 ho48 hb hg_ hnew_; clear hg_ hnew_; (first | rw [← Ny245.out] at ho48 | (simp only [Int.reduceToNat] at ho48; rw [← Ny245.out] at ho48)); have n0_ := Aside0.mk (Kd.R_lower ho48 (below_size (by repeat (first | (with_reducible first | exact HB.out | apply below_alloc | apply pw_below_drewN | apply below_drew1) | exact HB.out)))); have n1_ := Aside0.mk (below_step (by repeat (first | (with_reducible first | exact HB.out | apply below_alloc | apply pw_below_drewN | apply below_drew1) | exact HB.out)) hb); clear HB; have HO247 := n0_; have HB := n1_; clear n0_ n1_; clear hb ho48; obtain ⟨Ao49, co49, eo49⟩ := Kd.R_slice HO247.out; subst eo49) | ((with_reducible refine gate_callee (f := 30) rfl ?_); refine goesL_ (some 109) rfl rfl Try.func30 (by kernel_rfl) rfl #[.slice Ao49 y245.length co49] rfl (by (try simp only [List.map_toArray, List.map_cons, List.map_nil]); first | done | rfl | (simp only [List.length_drop, List.length_take]; rfl)) ?_; (with_reducible refine (palletref01_May.calls k3 _ _ y245 false _ ?side1 ?side2 A42.out).mono ?_); (case side1 => repeat (first | exact (Kd.R_reads' HO247.out).2.2 | (with_reducible refine Kd.C_alloc ?_ _) | (with_reducible refine Kd.C_drewN ?_ _) | (with_reducible refine Kd.C_drew ?_))); (case side2 => exact (Kd.R_reads' HO247.out).2.1); rintro e w' ⟨rfl, ⟨nd, rfl⟩⟩; refine ⟨_, rfl, ?_⟩))
             go_ret3
             exact ⟨by first | rfl | (simp [errW_none, errW_some] <;> rfl) | (simp [*, errW_none, errW_some] <;> rfl), by repeat (first | (with_reducible first | exact HB.out | apply below_alloc | apply pw_below_drewN | apply below_drew1) | exact HB.out)⟩
          ·rw [if_neg c32] at H
           have c32b0 : ((decide (a0 < 0)) != (decide (a1 < 0))) = false := by simpa using c32
           (try (have c32b1 : decide ((decide (a0 < 0)) = (decide (a1 < 0))) = true := by simpa using c32))
           (try (have c32b2 : ((decide (a0 < 0)) == (decide (a1 < 0))) = true := by simpa using c32))
           clear c32
           obtain ⟨y249, hy249⟩ : ∃ y_ : List Int, y_ = (([wrap64 (x13_3)] : List Int)) := ⟨_, rfl⟩
           replace H : ((palletref01_May.f k3 y249).bind fun t252 => (if t252 = true then (some (wrap64 (x13_3), wrap64 (x14_3), 0)) else (some (0, 0, 2)))) = some (r1, r2, r3) := by first | (rw [hy249]; with_reducible exact H) | (have H2_ := (Option.bind_some _ _).symm.trans H; rw [hy249]; with_reducible exact H2_) | (have H2_ := (Option.bind_some _ _).symm.trans H; with_reducible exact H2_) | with_reducible exact H | (rw [hy249]; exact H) | exact H
           have Ny249 := Aside0.mk hy249
           clear hy249
           replace H := Option.bind_eq_some_iff.mp H
           obtain ⟨t252, A500, H⟩ := H
           replace H : (if t252 = true then (some (wrap64 (x13_3), wrap64 (x14_3), 0)) else (some (0, 0, 2))) = some (r1, r2, r3) := H
           have A50 := Aside0.mk A500
           clear A500
           by_cases c51 : t252 = true
           ·subst c51
            have H1 : (some (wrap64 (x13_3), wrap64 (x14_3), 0)) = some (r1, r2, r3) := by rw [if_pos rfl] at H; exact H
            clear H
            have H := H1
            clear H1
            simp only [Option.some.injEq, Prod.mk.injEq] at H
            obtain ⟨rfl, rfl, rfl⟩ := H
            go_wp2_with (first | ((with_reducible refine gate_dst (N := 108) rfl ?_); refine Kd.R_lit (Kd.int .i64) _ 2 ?hg (N := 108) ?hd (xs := ([wrap64 (x13_3)] : List Int)) (inner := [.int .i64 (wrap64 (x13_3))]) (ok := fun _ => True) (okp := fun _ => True) ?hr ?hp (fun _ hk => hk) trivial (Below.refl _ _) (Nat.le_refl _) (by simp) ?_; (case hd => rfl); (case hg => rfl); (case hr => first | (go_simp; done) | (go_simp; rfl)); (case hp => exact (Reps.one (show Kd.M (Kd.int .i64) _ _ _ (wrap64 (x13_3)) [.int .i64 (wrap64 (x13_3))] from rfl) (Reps.none _ _))); intro v250 w52 ho53 hb hg_ hnew_; clear hg_ hnew_; (first | rw [← Ny249.out] at ho53 | (simp only [Int.reduceToNat] at ho53; rw [← Ny249.out] at ho53)); have n0_ := Aside0.mk (Kd.R_lower ho53 (below_size (by repeat (first | (with_reducible first | exact HB.out | apply below_alloc | apply pw_below_drewN | apply below_drew1) | exact HB.out)))); have n1_ := Aside0.mk (below_step (by repeat (first | (with_reducible first | exact HB.out | apply below_alloc | apply pw_below_drewN | apply below_drew1) | exact HB.out)) hb); clear HB; have HO251 := n0_; have HB := n1_; clear n0_ n1_; clear hb ho53; obtain ⟨Ao54, co54, eo54⟩ := Kd.R_slice HO251.out; subst eo54) | ((with_reducible refine gate_callee (f := 30) rfl ?_); refine goesL_ (some 109) rfl rfl Try.func30 (by kernel_rfl) rfl #[.slice Ao54 y249.length co54] rfl (by (try simp only [List.map_toArray, List.map_cons, List.map_nil]); first | done | rfl | (simp only [List.length_drop, List.length_take]; rfl)) ?_; (with_reducible refine (palletref01_May.calls k3 _ _ y249 true _ ?side1 ?side2 A50.out).mono ?_); (case side1 => repeat (first | exact (Kd.R_reads' HO251.out).2.2 | (with_reducible refine Kd.C_alloc ?_ _) | (with_reducible refine Kd.C_drewN ?_ _) | (with_reducible refine Kd.C_drew ?_))); (case side2 => exact (Kd.R_reads' HO251.out).2.1); rintro e w' ⟨rfl, ⟨nd, rfl⟩⟩; refine ⟨_, rfl, ?_⟩))
            go_ret3
            exact ⟨by first | rfl | (simp [errW_none, errW_some] <;> rfl) | (simp [*, errW_none, errW_some] <;> rfl), by repeat (first | (with_reducible first | exact HB.out | apply below_alloc | apply pw_below_drewN | apply below_drew1) | exact HB.out)⟩
           ·replace c51 := Bool.eq_false_iff.mpr c51
            subst c51
            have H1 : (some (0, 0, 2)) = some (r1, r2, r3) := by rw [if_neg (show ¬ (false = true) by decide)] at H; exact H
            clear H
            have H := H1
            clear H1
            simp only [Option.some.injEq, Prod.mk.injEq] at H
            obtain ⟨rfl, rfl, rfl⟩ := H
            go_wp2_with (first | ((with_reducible refine gate_dst (N := 108) rfl ?_); refine Kd.R_lit (Kd.int .i64) _ 2 ?hg (N := 108) ?hd (xs := ([wrap64 (x13_3)] : List Int)) (inner := [.int .i64 (wrap64 (x13_3))]) (ok := fun _ => True) (okp := fun _ => True) ?hr ?hp (fun _ hk => hk) trivial (Below.refl _ _) (Nat.le_refl _) (by simp) ?_; (case hd => rfl); (case hg => rfl); (case hr => first | (go_simp; done) | (go_simp; rfl)); (case hp => exact (Reps.one (show Kd.M (Kd.int .i64) _ _ _ (wrap64 (x13_3)) [.int .i64 (wrap64 (x13_3))] from rfl) (Reps.none _ _))); intro v250 w55 ho56 hb hg_ hnew_; clear hg_ hnew_; (first | rw [← Ny249.out] at ho56 | (simp only [Int.reduceToNat] at ho56; rw [← Ny249.out] at ho56)); have n0_ := Aside0.mk (Kd.R_lower ho56 (below_size (by repeat (first | (with_reducible first | exact HB.out | apply below_alloc | apply pw_below_drewN | apply below_drew1) | exact HB.out)))); have n1_ := Aside0.mk (below_step (by repeat (first | (with_reducible first | exact HB.out | apply below_alloc | apply pw_below_drewN | apply below_drew1) | exact HB.out)) hb); clear HB; have HO251 := n0_; have HB := n1_; clear n0_ n1_; clear hb ho56; obtain ⟨Ao57, co57, eo57⟩ := Kd.R_slice HO251.out; subst eo57) | ((with_reducible refine gate_callee (f := 30) rfl ?_); refine goesL_ (some 109) rfl rfl Try.func30 (by kernel_rfl) rfl #[.slice Ao57 y249.length co57] rfl (by (try simp only [List.map_toArray, List.map_cons, List.map_nil]); first | done | rfl | (simp only [List.length_drop, List.length_take]; rfl)) ?_; (with_reducible refine (palletref01_May.calls k3 _ _ y249 false _ ?side1 ?side2 A50.out).mono ?_); (case side1 => repeat (first | exact (Kd.R_reads' HO251.out).2.2 | (with_reducible refine Kd.C_alloc ?_ _) | (with_reducible refine Kd.C_drewN ?_ _) | (with_reducible refine Kd.C_drew ?_))); (case side2 => exact (Kd.R_reads' HO251.out).2.1); rintro e w' ⟨rfl, ⟨nd, rfl⟩⟩; refine ⟨_, rfl, ?_⟩))
            go_ret3
            exact ⟨by first | rfl | (simp [errW_none, errW_some] <;> rfl) | (simp [*, errW_none, errW_some] <;> rfl), by repeat (first | (with_reducible first | exact HB.out | apply below_alloc | apply pw_below_drewN | apply below_drew1) | exact HB.out)⟩

end Go.Proofs.Ytmkjljekofondaa.Print
