-- PRINTED by print.py (a twelfth state) out of the translation. Not trusted: Lean checks it.
import Derived.Test.YtpjfdnifliekiaaPrint0
import Derived.Test.YtpjfdnifliekiaaPrint1
import Derived.Test.YtpjfdnifliekiaaPrint4
import Derived.Test.YtpjfdnifliekiaaPrint5
import Derived.Test.YtpjfdnifliekiaaPrint6
namespace Go.Proofs.Ytpjfdnifliekiaa.Print
open Go.RowKit Go.Proofs.YtpjfdnifliekiaaW.PrintWords Go.Proofs.YtpjfdnifliekiaaW.PrintLast Go.Proofs.YtpjfdnifliekiaaW.PrintMore Go.Proofs.YtpjfdnifliekiaaX
attribute [local go_sem] max2_int min2_int max_two min_two max_three min_three max_four min_four   -- for this text's walks alone
set_option linter.unusedVariables false
set_option linter.unusedSimpArgs false

attribute [local go_sem high] eqA25
/-! ### palletlaw23_DiffCuts: function 4 -/
mutual
def palletlaw23_DiffCuts.j0 : Nat → List (S25) → List (S25) → Int → Bool → Bool → Option (Bool)
 | 0, _, _, _, _, _ => none
 | k + 1, x0, x1, x2, x7, x19 => if x19 = true then (some x7) else (if (wrap64 ((x0.length : Int) + 1)) = 0 then (none) else (if 0 ≤ (Int.tmod (wrap64 ((wrap64 ((Int.tmod x2 (wrap64 ((x0.length : Int) + 1))) + (x0.length : Int))) + 1)) (wrap64 ((x0.length : Int) + 1))) then (if (Int.tmod (wrap64 ((wrap64 ((Int.tmod x2 (wrap64 ((x0.length : Int) + 1))) + (x0.length : Int))) + 1)) (wrap64 ((x0.length : Int) + 1))) ≤ (x0.length : Int) then ((diff_Events.f k (x0.take ((Int.tmod (wrap64 ((wrap64 ((Int.tmod x2 (wrap64 ((x0.length : Int) + 1))) + (x0.length : Int))) + 1)) (wrap64 ((x0.length : Int) + 1))) : Int).toNat) x0).bind fun bt200 => (if bt200.1 = (Int.tmod (wrap64 ((wrap64 ((Int.tmod x2 (wrap64 ((x0.length : Int) + 1))) + (x0.length : Int))) + 1)) (wrap64 ((x0.length : Int) + 1))) then (if ((bt200.2.1 == 0) != ((Int.tmod (wrap64 ((wrap64 ((Int.tmod x2 (wrap64 ((x0.length : Int) + 1))) + (x0.length : Int))) + 1)) (wrap64 ((x0.length : Int) + 1))) == (x0.length : Int))) = true then (palletlaw23_DiffCuts.j1 k x0 x1 (Int.tmod (wrap64 ((wrap64 ((Int.tmod x2 (wrap64 ((x0.length : Int) + 1))) + (x0.length : Int))) + 1)) (wrap64 ((x0.length : Int) + 1))) x7 true) else (if (Int.tmod (wrap64 ((wrap64 ((Int.tmod x2 (wrap64 ((x0.length : Int) + 1))) + (x0.length : Int))) + 1)) (wrap64 ((x0.length : Int) + 1))) < (x0.length : Int) then (if bt200.2.1 = 2 then (palletlaw23_DiffCuts.j1 k x0 x1 (Int.tmod (wrap64 ((wrap64 ((Int.tmod x2 (wrap64 ((x0.length : Int) + 1))) + (x0.length : Int))) + 1)) (wrap64 ((x0.length : Int) + 1))) x7 (!(bt200.2.2.2.2.2.2.2.1 == ((rd_T25 x0 (Int.tmod (wrap64 ((wrap64 ((Int.tmod x2 (wrap64 ((x0.length : Int) + 1))) + (x0.length : Int))) + 1)) (wrap64 ((x0.length : Int) + 1)))).f0)) || (!(bt200.2.2.2.2.2.2.2.2.1 == ((rd_T25 x0 (Int.tmod (wrap64 ((wrap64 ((Int.tmod x2 (wrap64 ((x0.length : Int) + 1))) + (x0.length : Int))) + 1)) (wrap64 ((x0.length : Int) + 1)))).f1)) || (!(bt200.2.2.2.2.2.2.2.2.2.1 == ((rd_T25 x0 (Int.tmod (wrap64 ((wrap64 ((Int.tmod x2 (wrap64 ((x0.length : Int) + 1))) + (x0.length : Int))) + 1)) (wrap64 ((x0.length : Int) + 1)))).f2)) || (!(bt200.2.2.2.2.2.2.2.2.2.2.1 == ((rd_T25 x0 (Int.tmod (wrap64 ((wrap64 ((Int.tmod x2 (wrap64 ((x0.length : Int) + 1))) + (x0.length : Int))) + 1)) (wrap64 ((x0.length : Int) + 1)))).f3)) || (!(bt200.2.2.2.2.2.2.2.2.2.2.2 == ((rd_T25 x0 (Int.tmod (wrap64 ((wrap64 ((Int.tmod x2 (wrap64 ((x0.length : Int) + 1))) + (x0.length : Int))) + 1)) (wrap64 ((x0.length : Int) + 1)))).f4)))))))) else (palletlaw23_DiffCuts.j1 k x0 x1 (Int.tmod (wrap64 ((wrap64 ((Int.tmod x2 (wrap64 ((x0.length : Int) + 1))) + (x0.length : Int))) + 1)) (wrap64 ((x0.length : Int) + 1))) x7 true)) else (palletlaw23_DiffCuts.j1 k x0 x1 (Int.tmod (wrap64 ((wrap64 ((Int.tmod x2 (wrap64 ((x0.length : Int) + 1))) + (x0.length : Int))) + 1)) (wrap64 ((x0.length : Int) + 1))) x7 false))) else (palletlaw23_DiffCuts.j1 k x0 x1 (Int.tmod (wrap64 ((wrap64 ((Int.tmod x2 (wrap64 ((x0.length : Int) + 1))) + (x0.length : Int))) + 1)) (wrap64 ((x0.length : Int) + 1))) x7 true))) else (none)) else (none)))
def palletlaw23_DiffCuts.j1 : Nat → List (S25) → List (S25) → Int → Bool → Bool → Option (Bool)
 | 0, _, _, _, _, _ => none
 | k + 1, x0, x1, x2, x7, x72 => if x72 = true then (some false) else (if x7 = true then (if 0 ≤ x2 then (if x2 ≤ (x0.length : Int) then ((diff_Prefix.f k (x0.take (x2 : Int).toNat) x1).bind fun t218 => ((diff_Prefix.f k x0 x1).bind fun t219 => (some (t218 == (mn x2 t219))))) else (none)) else (none)) else (some false))
end
def palletlaw23_DiffCuts.f (k : Nat) (l0 : List (S25)) (l1 : List (S25)) (a2 : Int) : Option (Bool) := (palletlaw23_live.f k).bind fun t195 => (if t195 = true then (if (l0.length : Int) > 300 then (palletlaw23_DiffCuts.j0 k l0 l1 a2 t195 true) else (palletlaw23_DiffCuts.j0 k l0 l1 a2 t195 (decide ((l1.length : Int) > 300)))) else (some false))
theorem palletlaw23_DiffCuts.mono_l : ∀ k, (∀ y0 y1 y2 y3 y4, LeO (palletlaw23_DiffCuts.j0 k y0 y1 y2 y3 y4) (palletlaw23_DiffCuts.j0 (k + 1) y0 y1 y2 y3 y4)) ∧ (∀ y0 y1 y2 y3 y4, LeO (palletlaw23_DiffCuts.j1 k y0 y1 y2 y3 y4) (palletlaw23_DiffCuts.j1 (k + 1) y0 y1 y2 y3 y4))
 | 0 => ⟨fun _ _ _ _ _ r h => by simp [palletlaw23_DiffCuts.j0] at h, fun _ _ _ _ _ r h => by simp [palletlaw23_DiffCuts.j1] at h⟩
 | k + 1 => by
  obtain ⟨ih0, ih1⟩ := palletlaw23_DiffCuts.mono_l k
  refine ⟨?_, ?_⟩
  ·intro y0 y1 y2 y3 y4
   unfold palletlaw23_DiffCuts.j0
   repeat' first
   | (with_reducible exact ih0 _ _ _ _ _)
   | (with_reducible exact ih1 _ _ _ _ _)
   | (with_reducible exact diff_Events.mono _ _ _)
   | (with_reducible exact diff_Prefix.mono _ _ _)
   | (with_reducible exact palletlaw23_live.mono _)
   | (with_reducible exact LeO.refl _)
   | (with_reducible exact LeO.none _)
   | (with_reducible refine LeO.ite ?_ ?_)
   | (with_reducible refine LeO.bind ?_ (fun _ => ?_))
   | exact ih0 _ _ _ _ _
   | exact ih1 _ _ _ _ _
   | exact diff_Events.mono _ _ _
   | exact diff_Prefix.mono _ _ _
   | exact palletlaw23_live.mono _
   | exact LeO.none _
   | refine LeO.ite ?_ ?_
   | refine LeO.bind ?_ (fun _ => ?_)
  ·intro y0 y1 y2 y3 y4
   unfold palletlaw23_DiffCuts.j1
   repeat' first
   | (with_reducible exact ih0 _ _ _ _ _)
   | (with_reducible exact ih1 _ _ _ _ _)
   | (with_reducible exact diff_Events.mono _ _ _)
   | (with_reducible exact diff_Prefix.mono _ _ _)
   | (with_reducible exact palletlaw23_live.mono _)
   | (with_reducible exact LeO.refl _)
   | (with_reducible exact LeO.none _)
   | (with_reducible refine LeO.ite ?_ ?_)
   | (with_reducible refine LeO.bind ?_ (fun _ => ?_))
   | exact ih0 _ _ _ _ _
   | exact ih1 _ _ _ _ _
   | exact diff_Events.mono _ _ _
   | exact diff_Prefix.mono _ _ _
   | exact palletlaw23_live.mono _
   | exact LeO.none _
   | refine LeO.ite ?_ ?_
   | refine LeO.bind ?_ (fun _ => ?_)
theorem palletlaw23_DiffCuts.mono : ∀ a0 a1 a2 k, LeO (palletlaw23_DiffCuts.f k a0 a1 a2) (palletlaw23_DiffCuts.f (k + 1) a0 a1 a2) := by
 intro a0 a1 a2 k
 obtain ⟨ih0, ih1⟩ := palletlaw23_DiffCuts.mono_l k
 unfold palletlaw23_DiffCuts.f
 repeat' first
   | (with_reducible exact ih0 _ _ _ _ _)
   | (with_reducible exact ih1 _ _ _ _ _)
   | (with_reducible exact diff_Events.mono _ _ _)
   | (with_reducible exact diff_Prefix.mono _ _ _)
   | (with_reducible exact palletlaw23_live.mono _)
   | (with_reducible exact LeO.refl _)
   | (with_reducible exact LeO.none _)
   | (with_reducible refine LeO.ite ?_ ?_)
   | (with_reducible refine LeO.bind ?_ (fun _ => ?_))
   | exact ih0 _ _ _ _ _
   | exact ih1 _ _ _ _ _
   | exact diff_Events.mono _ _ _
   | exact diff_Prefix.mono _ _ _
   | exact palletlaw23_live.mono _
   | exact LeO.none _
   | refine LeO.ite ?_ ?_
   | refine LeO.bind ?_ (fun _ => ?_)
set_option maxHeartbeats 8000000 in
set_option maxRecDepth 100000 in
theorem palletlaw23_DiffCuts.calls (k : Nat) (A0 : Option Addr) (c0 : Nat) (l0 : List (S25)) (A1 : Option Addr) (c1 : Nat) (l1 : List (S25)) (a2 : Int) (r : Bool) (w : World) (hr0 : Kd.C k25 w A0 l0.length l0) (hc0 : l0.length ≤ c0) (hr1 : Kd.C k25 w A1 l1.length l1) (hc1 : l1.length ≤ c1) (hr_ : Aside0 (r = true)) (h : palletlaw23_DiffCuts.f k l0 l1 a2 = some r) :
  Calls Try.prog 4 #[.slice A0 l0.length c0, .slice A1 l1.length c1, .int .i64 a2] w fun e w' => e = .returned (.bool r) ∧ Below w.heap.size w w' := by
 have hu27 := Try.underlying27
 have hu25 := Try.underlying25
 have HR0 := Aside0.mk hr0
 have HC0 := Aside0.mk hc0
 clear hr0 hc0
 have HR1 := Aside0.mk hr1
 have HC1 := Aside0.mk hc1
 clear hr1 hc1
 have HB := Aside0.mk (Below.refl w.heap.size w)
 have H : ((palletlaw23_live.f k).bind fun t195 => (if t195 = true then (if (l0.length : Int) > 300 then (palletlaw23_DiffCuts.j0 k l0 l1 a2 t195 true) else (palletlaw23_DiffCuts.j0 k l0 l1 a2 t195 (decide ((l1.length : Int) > 300)))) else (some false))) = some r := h
 clear h
 replace H := Option.bind_eq_some_iff.mp H
 obtain ⟨t195, A40, H⟩ := H
 replace H : (if t195 = true then (if (l0.length : Int) > 300 then (palletlaw23_DiffCuts.j0 k l0 l1 a2 t195 true) else (palletlaw23_DiffCuts.j0 k l0 l1 a2 t195 (decide ((l1.length : Int) > 300)))) else (some false)) = some r := H
 have A4 := Aside0.mk A40
 clear A40
 by_cases c5 : t195 = true
 ·subst c5
  have H1 : (if (l0.length : Int) > 300 then (palletlaw23_DiffCuts.j0 k l0 l1 a2 true true) else (palletlaw23_DiffCuts.j0 k l0 l1 a2 true (decide ((l1.length : Int) > 300)))) = some r := by rw [if_pos rfl] at H; exact H
  clear H
  have H := H1
  clear H1
  have HC6 := Aside0.mk H
  clear H
  go_enter Try.func4, Try.ntmps4
  go_upto_region 4 with (first | (go_at_call 7; (with_reducible refine (palletlaw23_live.calls k  true _ A4.out).mono ?_); rintro e w7 ⟨rfl, hb⟩; have n0_ := Aside0.mk (below_step (by repeat (first | (with_reducible first | exact HB.out | apply below_alloc | apply pw_below_drewN | apply below_drew1) | exact HB.out)) hb); clear HB; have HB := n0_; clear n0_; (try clear hb); (try clear hb2); (try clear hk); (try clear hi)))
  repeat (go_quiet (first | (go_at_call 7; (with_reducible refine (palletlaw23_live.calls k  true _ A4.out).mono ?_); rintro e w7 ⟨rfl, hb⟩; have n0_ := Aside0.mk (below_step (by repeat (first | (with_reducible first | exact HB.out | apply below_alloc | apply pw_below_drewN | apply below_drew1) | exact HB.out)) hb); clear HB; have HB := n0_; clear n0_; (try clear hb); (try clear hb2); (try clear hk); (try clear hi))); go_upto_region 4 with (first | (go_at_call 7; (with_reducible refine (palletlaw23_live.calls k  true _ A4.out).mono ?_); rintro e w7 ⟨rfl, hb⟩; have n0_ := Aside0.mk (below_step (by repeat (first | (with_reducible first | exact HB.out | apply below_alloc | apply pw_below_drewN | apply below_drew1) | exact HB.out)) hb); clear HB; have HB := n0_; clear n0_; (try clear hb); (try clear hb2); (try clear hk); (try clear hi))))
  (try simp only [Act.put, List.setIfInBounds_toArray, List.set_cons_zero, List.set_cons_succ])
  go_cut [19] (fun v19 wc => ∃ (kq : Nat) (x19_5 : Bool), v19 = .bool x19_5 ∧ Aside0 (palletlaw23_DiffCuts.j0 kq l0 l1 a2 true x19_5 = some r) ∧ Aside0 (kq ≤ k) ∧ Aside0 (Below w.heap.size w wc))
  case first =>
   have H := HC6.out
   clear HC6
   by_cases c8 : (l0.length : Int) > 300
   ·rw [if_pos c8] at H
    have c8b0 : decide (300 < (l0.length : Int)) = true := decide_eq_true c8
    have c8b1 : decide (300 < l0.length) = true := decide_eq_true (by omega)
    clear c8
    (first | rw [c8b0] | (simp only [i64_w, i32_w]; rw [c8b0]) | skip)
    have H' := Aside0.mk H
    clear H
    go_wp2
    repeat (go_quiet (fail); try go_wp2)
    go_meet
    case rel => exact ⟨_, (true), (by first | rfl | (simp; done) | (simp [*]; done)), H', ⟨by first | omega | exact Nat.le_refl _⟩, ⟨by repeat (first | (with_reducible first | exact HB.out | apply below_alloc | apply pw_below_drewN | apply below_drew1) | exact HB.out)⟩⟩
   ·rw [if_neg c8] at H
    have c8b0 : decide (300 < (l0.length : Int)) = false := decide_eq_false c8
    have c8b1 : decide (300 < l0.length) = false := decide_eq_false (by omega)
    clear c8
    (first | rw [c8b0] | (simp only [i64_w, i32_w]; rw [c8b0]) | skip)
    have H' := Aside0.mk H
    clear H
    go_wp2
    repeat (go_quiet (fail); try go_wp2)
    go_meet
    case rel => exact ⟨_, (decide ((l1.length : Int) > 300)), (by first | rfl | (simp; done) | (simp [*]; done)), H', ⟨by first | omega | exact Nat.le_refl _⟩, ⟨by repeat (first | (with_reducible first | exact HB.out | apply below_alloc | apply pw_below_drewN | apply below_drew1) | exact HB.out)⟩⟩
  case rest =>
   clear HC6
   try clear c1
   try clear p2
   try clear c4
   try clear c5
   try clear c8
   try clear c8b0
   try clear c8b1
   obtain ⟨kq, x19_5, rfl, HA, HJ5, HB⟩ := hcut
   cases kq with
   | zero => exact absurd HA.out (by simp [palletlaw23_DiffCuts.j0])
   | succ kj5 =>
    have H := HA.out
    clear HA
    simp only [palletlaw23_DiffCuts.j0] at H
    by_cases c9 : x19_5 = true
    ·subst c9
     have H1 : (some true) = some r := by rw [if_pos rfl] at H; exact H
     clear H
     have H := H1
     clear H1
     obtain rfl := Option.some.inj H
     go_wp2
     repeat (go_quiet (fail); try go_wp2)
     go_ret
     exact ⟨by first | rfl | (simp [errW_none, errW_some] <;> rfl) | (simp [*, errW_none, errW_some] <;> rfl), by repeat (first | (with_reducible first | exact HB.out | apply below_alloc | apply pw_below_drewN | apply below_drew1) | exact HB.out)⟩
    ·replace c9 := Bool.eq_false_iff.mpr c9
     subst c9
     have H1 : (if (wrap64 ((l0.length : Int) + 1)) = 0 then (none) else (if 0 ≤ (Int.tmod (wrap64 ((wrap64 ((Int.tmod a2 (wrap64 ((l0.length : Int) + 1))) + (l0.length : Int))) + 1)) (wrap64 ((l0.length : Int) + 1))) then (if (Int.tmod (wrap64 ((wrap64 ((Int.tmod a2 (wrap64 ((l0.length : Int) + 1))) + (l0.length : Int))) + 1)) (wrap64 ((l0.length : Int) + 1))) ≤ (l0.length : Int) then ((diff_Events.f kj5 (l0.take ((Int.tmod (wrap64 ((wrap64 ((Int.tmod a2 (wrap64 ((l0.length : Int) + 1))) + (l0.length : Int))) + 1)) (wrap64 ((l0.length : Int) + 1))) : Int).toNat) l0).bind fun bt200 => (if bt200.1 = (Int.tmod (wrap64 ((wrap64 ((Int.tmod a2 (wrap64 ((l0.length : Int) + 1))) + (l0.length : Int))) + 1)) (wrap64 ((l0.length : Int) + 1))) then (if ((bt200.2.1 == 0) != ((Int.tmod (wrap64 ((wrap64 ((Int.tmod a2 (wrap64 ((l0.length : Int) + 1))) + (l0.length : Int))) + 1)) (wrap64 ((l0.length : Int) + 1))) == (l0.length : Int))) = true then (palletlaw23_DiffCuts.j1 kj5 l0 l1 (Int.tmod (wrap64 ((wrap64 ((Int.tmod a2 (wrap64 ((l0.length : Int) + 1))) + (l0.length : Int))) + 1)) (wrap64 ((l0.length : Int) + 1))) true true) else (if (Int.tmod (wrap64 ((wrap64 ((Int.tmod a2 (wrap64 ((l0.length : Int) + 1))) + (l0.length : Int))) + 1)) (wrap64 ((l0.length : Int) + 1))) < (l0.length : Int) then (if bt200.2.1 = 2 then (palletlaw23_DiffCuts.j1 kj5 l0 l1 (Int.tmod (wrap64 ((wrap64 ((Int.tmod a2 (wrap64 ((l0.length : Int) + 1))) + (l0.length : Int))) + 1)) (wrap64 ((l0.length : Int) + 1))) true (!(bt200.2.2.2.2.2.2.2.1 == ((rd_T25 l0 (Int.tmod (wrap64 ((wrap64 ((Int.tmod a2 (wrap64 ((l0.length : Int) + 1))) + (l0.length : Int))) + 1)) (wrap64 ((l0.length : Int) + 1)))).f0)) || (!(bt200.2.2.2.2.2.2.2.2.1 == ((rd_T25 l0 (Int.tmod (wrap64 ((wrap64 ((Int.tmod a2 (wrap64 ((l0.length : Int) + 1))) + (l0.length : Int))) + 1)) (wrap64 ((l0.length : Int) + 1)))).f1)) || (!(bt200.2.2.2.2.2.2.2.2.2.1 == ((rd_T25 l0 (Int.tmod (wrap64 ((wrap64 ((Int.tmod a2 (wrap64 ((l0.length : Int) + 1))) + (l0.length : Int))) + 1)) (wrap64 ((l0.length : Int) + 1)))).f2)) || (!(bt200.2.2.2.2.2.2.2.2.2.2.1 == ((rd_T25 l0 (Int.tmod (wrap64 ((wrap64 ((Int.tmod a2 (wrap64 ((l0.length : Int) + 1))) + (l0.length : Int))) + 1)) (wrap64 ((l0.length : Int) + 1)))).f3)) || (!(bt200.2.2.2.2.2.2.2.2.2.2.2 == ((rd_T25 l0 (Int.tmod (wrap64 ((wrap64 ((Int.tmod a2 (wrap64 ((l0.length : Int) + 1))) + (l0.length : Int))) + 1)) (wrap64 ((l0.length : Int) + 1)))).f4)))))))) else (palletlaw23_DiffCuts.j1 kj5 l0 l1 (Int.tmod (wrap64 ((wrap64 ((Int.tmod a2 (wrap64 ((l0.length : Int) + 1))) + (l0.length : Int))) + 1)) (wrap64 ((l0.length : Int) + 1))) true true)) else (palletlaw23_DiffCuts.j1 kj5 l0 l1 (Int.tmod (wrap64 ((wrap64 ((Int.tmod a2 (wrap64 ((l0.length : Int) + 1))) + (l0.length : Int))) + 1)) (wrap64 ((l0.length : Int) + 1))) true false))) else (palletlaw23_DiffCuts.j1 kj5 l0 l1 (Int.tmod (wrap64 ((wrap64 ((Int.tmod a2 (wrap64 ((l0.length : Int) + 1))) + (l0.length : Int))) + 1)) (wrap64 ((l0.length : Int) + 1))) true true))) else (none)) else (none))) = some r := by rw [if_neg (show ¬ (false = true) by decide)] at H; exact H
     clear H
     have H := H1
     clear H1
     by_cases c10 : (wrap64 ((l0.length : Int) + 1)) = 0
     ·rw [if_pos c10] at H
      exact absurd H (by simp)
     ·rw [if_neg c10] at H
      have c10b0 : ((wrap64 ((l0.length : Int) + 1)) == 0) = false := beq_eq_false_iff_ne.mpr c10
      have c10b1 : ((wrap64 ((l0.length : Int) + 1)) != 0) = true := bne_iff_ne.mpr c10
      obtain ⟨ji11, hji11⟩ : ∃ j_ : Int, (Int.tmod (wrap64 ((wrap64 ((Int.tmod a2 (wrap64 ((l0.length : Int) + 1))) + (l0.length : Int))) + 1)) (wrap64 ((l0.length : Int) + 1))) = j_ := ⟨_, rfl⟩
      replace H : (if 0 ≤ (ji11) then (if (ji11) ≤ (l0.length : Int) then ((diff_Events.f kj5 (l0.take ((ji11) : Int).toNat) l0).bind fun bt200 => (if bt200.1 = (ji11) then (if ((bt200.2.1 == 0) != ((ji11) == (l0.length : Int))) = true then (palletlaw23_DiffCuts.j1 kj5 l0 l1 ji11 true true) else (if (ji11) < (l0.length : Int) then (if bt200.2.1 = 2 then (palletlaw23_DiffCuts.j1 kj5 l0 l1 ji11 true (!(bt200.2.2.2.2.2.2.2.1 == ((rd_T25 l0 (ji11)).f0)) || (!(bt200.2.2.2.2.2.2.2.2.1 == ((rd_T25 l0 (ji11)).f1)) || (!(bt200.2.2.2.2.2.2.2.2.2.1 == ((rd_T25 l0 (ji11)).f2)) || (!(bt200.2.2.2.2.2.2.2.2.2.2.1 == ((rd_T25 l0 (ji11)).f3)) || (!(bt200.2.2.2.2.2.2.2.2.2.2.2 == ((rd_T25 l0 (ji11)).f4)))))))) else (palletlaw23_DiffCuts.j1 kj5 l0 l1 ji11 true true)) else (palletlaw23_DiffCuts.j1 kj5 l0 l1 ji11 true false))) else (palletlaw23_DiffCuts.j1 kj5 l0 l1 ji11 true true))) else (none)) else (none)) = some r := by first | (rw [hji11] at H; exact H) | (simp only [hji11] at H ⊢; exact H)
      by_cases c12 : 0 ≤ (ji11)
      ·rw [if_pos c12] at H
       have c12b0 := eq_true c12
       have c12b1 : decide (0 ≤ (ji11)) = true := decide_eq_true c12
       clear c12
       by_cases c13 : (ji11) ≤ (l0.length : Int)
       ·rw [if_pos c13] at H
        have c13b0 := eq_true c13
        have c13b1 : decide ((ji11) ≤ (l0.length : Int)) = true := decide_eq_true c13
        clear c13
        obtain ⟨y196, hy196⟩ : ∃ y_ : List (S25), y_ = (l0.take ((ji11) : Int).toNat) := ⟨_, rfl⟩
        replace H : ((diff_Events.f kj5 y196 l0).bind fun bt200 => (if bt200.1 = (ji11) then (if ((bt200.2.1 == 0) != ((ji11) == (l0.length : Int))) = true then (palletlaw23_DiffCuts.j1 kj5 l0 l1 ji11 true true) else (if (ji11) < (l0.length : Int) then (if bt200.2.1 = 2 then (palletlaw23_DiffCuts.j1 kj5 l0 l1 ji11 true (!(bt200.2.2.2.2.2.2.2.1 == ((rd_T25 l0 (ji11)).f0)) || (!(bt200.2.2.2.2.2.2.2.2.1 == ((rd_T25 l0 (ji11)).f1)) || (!(bt200.2.2.2.2.2.2.2.2.2.1 == ((rd_T25 l0 (ji11)).f2)) || (!(bt200.2.2.2.2.2.2.2.2.2.2.1 == ((rd_T25 l0 (ji11)).f3)) || (!(bt200.2.2.2.2.2.2.2.2.2.2.2 == ((rd_T25 l0 (ji11)).f4)))))))) else (palletlaw23_DiffCuts.j1 kj5 l0 l1 ji11 true true)) else (palletlaw23_DiffCuts.j1 kj5 l0 l1 ji11 true false))) else (palletlaw23_DiffCuts.j1 kj5 l0 l1 ji11 true true))) = some r := by first | (rw [hy196]; with_reducible exact H) | (have H2_ := (Option.bind_some _ _).symm.trans H; rw [hy196]; with_reducible exact H2_) | (have H2_ := (Option.bind_some _ _).symm.trans H; with_reducible exact H2_) | with_reducible exact H | (rw [hy196]; exact H) | exact H
        have Ny196 := Aside0.mk hy196
        clear hy196
        replace H := Option.bind_eq_some_iff.mp H
        obtain ⟨⟨t200, t201, t202, t203, t204, t205, t206, t207, t208, t209, t210, t211⟩, A140, H⟩ := H
        replace H : (if t200 = (ji11) then (if ((t201 == 0) != ((ji11) == (l0.length : Int))) = true then (palletlaw23_DiffCuts.j1 kj5 l0 l1 ji11 true true) else (if (ji11) < (l0.length : Int) then (if t201 = 2 then (palletlaw23_DiffCuts.j1 kj5 l0 l1 ji11 true (!(t207 == ((rd_T25 l0 (ji11)).f0)) || (!(t208 == ((rd_T25 l0 (ji11)).f1)) || (!(t209 == ((rd_T25 l0 (ji11)).f2)) || (!(t210 == ((rd_T25 l0 (ji11)).f3)) || (!(t211 == ((rd_T25 l0 (ji11)).f4)))))))) else (palletlaw23_DiffCuts.j1 kj5 l0 l1 ji11 true true)) else (palletlaw23_DiffCuts.j1 kj5 l0 l1 ji11 true false))) else (palletlaw23_DiffCuts.j1 kj5 l0 l1 ji11 true true)) = some r := H
        have A14 := Aside0.mk A140
        clear A140
        have HC15 := Aside0.mk H
        clear H
        have q16 : ((ji11) : Int) ≤ ((l0.length : Int) : Int) := of_decide_eq_true (by first | (with_reducible assumption) | assumption)
        obtain ⟨i016, hi016, _, hsz16, _⟩ := info_parts info25
        have hroom16 : l0.length ≤ c0 := HC0.out
        have hC16 : Kd.C k25 _ A0 l0.length l0 := HR0.out
        have hcut16 := cut_to (P := Try.prog) 22 25 .i64 Try.underlying22 hi016 A0 l0.length c0 (ji11) (of_decide_eq_true (by first | (with_reducible assumption) | assumption)) q16 hroom16
        have hr16 := Kd.C_take (m := ((ji11) : Int).toNat) hC16 (by omega)
        have hy16 : y196.length = ((ji11) : Int).toNat := (by rw [Ny196.out, List.length_take]; omega)
        rw [← Ny196.out] at hr16
        rw [← hy16] at hcut16
        have HR199 := Aside0.mk hr16
        have HC199 := Aside0.mk (show y196.length ≤ c0 from by omega)
        clear hr16 hC16 hroom16 hi016 hsz16
        have KY16 := Aside0.mk hy16
        clear hy16
        replace q16 := eq_true q16
        go_upto_region 8 with (first | (go_at_call 8; (with_reducible refine (diff_Events.calls kj5 _ _ y196 _ _ l0 t200 t201 t202 t203 t204 t205 t206 t207 t208 t209 t210 t211 _ ?side1 ?side2 ?side3 ?side4 A14.out).mono ?_); (case side1 => repeat (first | exact (Kd.C_below HR199.out HB.out) | (with_reducible refine Kd.C_alloc ?_ _) | (with_reducible refine Kd.C_drewN ?_ _) | (with_reducible refine Kd.C_drew ?_))); (case side2 => exact HC199.out); (case side3 => repeat (first | exact (Kd.C_below HR0.out HB.out) | (with_reducible refine Kd.C_alloc ?_ _) | (with_reducible refine Kd.C_drewN ?_ _) | (with_reducible refine Kd.C_drew ?_))); (case side4 => exact HC0.out); rintro e w17 ⟨rfl, hb⟩; have n0_ := Aside0.mk (below_step (by repeat (first | (with_reducible first | exact HB.out | apply below_alloc | apply pw_below_drewN | apply below_drew1) | exact HB.out)) hb); clear HB; have HB := n0_; clear n0_; (try clear hb); (try clear hb2); (try clear hk); (try clear hi)) | ((with_reducible refine gate_dst (N := 8) rfl ?_); (try (refine gate_guard (by rfl) ?_; dsimp only)); refine box_event ?hg (N := 8) ?hd (cs := #[.int .i64 0, .int .i64 0, .int .i64 0, .int .i64 0, .int .i64 0, .int .i64 0, .int .i64 0, .int .i64 0, .int .i64 0, .int .i64 0, .int .i64 0, .int .i64 0]) (t := 27) ?hr ?_; (case hd => rfl); (case hg => rfl); (case hr => first | (go_simp; done) | (go_simp; rfl)); intro gb212 hg w18 hbox hb; have n0_ := Aside0.mk (below_step (by repeat (first | (with_reducible first | exact HB.out | apply below_alloc | apply pw_below_drewN | apply below_drew1) | exact HB.out)) hb); have n1_ := Aside0.mk (hbox); have n2_ := Aside0.mk ((by rw [hg]; exact (below_size (by repeat (first | (with_reducible first | exact HB.out | apply below_alloc | apply pw_below_drewN | apply below_drew1) | exact HB.out))) : w.heap.size ≤ gb212)); have n3_ := Aside0.mk ((by rw [hg]; exact (below_size (by repeat (first | (with_reducible first | exact HB.out | apply below_alloc | apply pw_below_drewN | apply below_drew1) | exact HB.out))) : w.heap.size ≤ gb212)); clear HB; have HB := n0_; have BK212 := n1_; have GW212 := n2_; have GE212 := n3_; clear n0_ n1_ n2_ n3_; clear hb hbox hg; have hcz19_0 : w18.cell? ⟨gb212, 0, none⟩ = some (.int .i64 0) := (blk_cell BK212.out 0).trans rfl; have hcz19_1 : w18.cell? ⟨gb212, 1, none⟩ = some (.int .i64 0) := (blk_cell BK212.out 1).trans rfl; have hcz19_2 : w18.cell? ⟨gb212, 2, none⟩ = some (.int .i64 0) := (blk_cell BK212.out 2).trans rfl; have hcz19_3 : w18.cell? ⟨gb212, 3, none⟩ = some (.int .i64 0) := (blk_cell BK212.out 3).trans rfl; have hcz19_4 : w18.cell? ⟨gb212, 4, none⟩ = some (.int .i64 0) := (blk_cell BK212.out 4).trans rfl; have hcz19_5 : w18.cell? ⟨gb212, 5, none⟩ = some (.int .i64 0) := (blk_cell BK212.out 5).trans rfl; have hcz19_6 : w18.cell? ⟨gb212, 6, none⟩ = some (.int .i64 0) := (blk_cell BK212.out 6).trans rfl; have hcz19_7 : w18.cell? ⟨gb212, 7, none⟩ = some (.int .i64 0) := (blk_cell BK212.out 7).trans rfl; have hcz19_8 : w18.cell? ⟨gb212, 8, none⟩ = some (.int .i64 0) := (blk_cell BK212.out 8).trans rfl; have hcz19_9 : w18.cell? ⟨gb212, 9, none⟩ = some (.int .i64 0) := (blk_cell BK212.out 9).trans rfl; have hcz19_10 : w18.cell? ⟨gb212, 10, none⟩ = some (.int .i64 0) := (blk_cell BK212.out 10).trans rfl; have hcz19_11 : w18.cell? ⟨gb212, 11, none⟩ = some (.int .i64 0) := (blk_cell BK212.out 11).trans rfl; have hfz19_0 := blk_frozen BK212.out 0; have hfz19_1 := blk_frozen BK212.out 1; have hfz19_2 := blk_frozen BK212.out 2; have hfz19_3 := blk_frozen BK212.out 3; have hfz19_4 := blk_frozen BK212.out 4; have hfz19_5 := blk_frozen BK212.out 5; have hfz19_6 := blk_frozen BK212.out 6; have hfz19_7 := blk_frozen BK212.out 7; have hfz19_8 := blk_frozen BK212.out 8; have hfz19_9 := blk_frozen BK212.out 9; have hfz19_10 := blk_frozen BK212.out 10; have hfz19_11 := blk_frozen BK212.out 11))
        repeat (go_quiet (first | (go_at_call 8; (with_reducible refine (diff_Events.calls kj5 _ _ y196 _ _ l0 t200 t201 t202 t203 t204 t205 t206 t207 t208 t209 t210 t211 _ ?side1 ?side2 ?side3 ?side4 A14.out).mono ?_); (case side1 => repeat (first | exact (Kd.C_below HR199.out HB.out) | (with_reducible refine Kd.C_alloc ?_ _) | (with_reducible refine Kd.C_drewN ?_ _) | (with_reducible refine Kd.C_drew ?_))); (case side2 => exact HC199.out); (case side3 => repeat (first | exact (Kd.C_below HR0.out HB.out) | (with_reducible refine Kd.C_alloc ?_ _) | (with_reducible refine Kd.C_drewN ?_ _) | (with_reducible refine Kd.C_drew ?_))); (case side4 => exact HC0.out); rintro e w17 ⟨rfl, hb⟩; have n0_ := Aside0.mk (below_step (by repeat (first | (with_reducible first | exact HB.out | apply below_alloc | apply pw_below_drewN | apply below_drew1) | exact HB.out)) hb); clear HB; have HB := n0_; clear n0_; (try clear hb); (try clear hb2); (try clear hk); (try clear hi)) | ((with_reducible refine gate_dst (N := 8) rfl ?_); (try (refine gate_guard (by rfl) ?_; dsimp only)); refine box_event ?hg (N := 8) ?hd (cs := #[.int .i64 0, .int .i64 0, .int .i64 0, .int .i64 0, .int .i64 0, .int .i64 0, .int .i64 0, .int .i64 0, .int .i64 0, .int .i64 0, .int .i64 0, .int .i64 0]) (t := 27) ?hr ?_; (case hd => rfl); (case hg => rfl); (case hr => first | (go_simp; done) | (go_simp; rfl)); intro gb212 hg w18 hbox hb; have n0_ := Aside0.mk (below_step (by repeat (first | (with_reducible first | exact HB.out | apply below_alloc | apply pw_below_drewN | apply below_drew1) | exact HB.out)) hb); have n1_ := Aside0.mk (hbox); have n2_ := Aside0.mk ((by rw [hg]; exact (below_size (by repeat (first | (with_reducible first | exact HB.out | apply below_alloc | apply pw_below_drewN | apply below_drew1) | exact HB.out))) : w.heap.size ≤ gb212)); have n3_ := Aside0.mk ((by rw [hg]; exact (below_size (by repeat (first | (with_reducible first | exact HB.out | apply below_alloc | apply pw_below_drewN | apply below_drew1) | exact HB.out))) : w.heap.size ≤ gb212)); clear HB; have HB := n0_; have BK212 := n1_; have GW212 := n2_; have GE212 := n3_; clear n0_ n1_ n2_ n3_; clear hb hbox hg; have hcz19_0 : w18.cell? ⟨gb212, 0, none⟩ = some (.int .i64 0) := (blk_cell BK212.out 0).trans rfl; have hcz19_1 : w18.cell? ⟨gb212, 1, none⟩ = some (.int .i64 0) := (blk_cell BK212.out 1).trans rfl; have hcz19_2 : w18.cell? ⟨gb212, 2, none⟩ = some (.int .i64 0) := (blk_cell BK212.out 2).trans rfl; have hcz19_3 : w18.cell? ⟨gb212, 3, none⟩ = some (.int .i64 0) := (blk_cell BK212.out 3).trans rfl; have hcz19_4 : w18.cell? ⟨gb212, 4, none⟩ = some (.int .i64 0) := (blk_cell BK212.out 4).trans rfl; have hcz19_5 : w18.cell? ⟨gb212, 5, none⟩ = some (.int .i64 0) := (blk_cell BK212.out 5).trans rfl; have hcz19_6 : w18.cell? ⟨gb212, 6, none⟩ = some (.int .i64 0) := (blk_cell BK212.out 6).trans rfl; have hcz19_7 : w18.cell? ⟨gb212, 7, none⟩ = some (.int .i64 0) := (blk_cell BK212.out 7).trans rfl; have hcz19_8 : w18.cell? ⟨gb212, 8, none⟩ = some (.int .i64 0) := (blk_cell BK212.out 8).trans rfl; have hcz19_9 : w18.cell? ⟨gb212, 9, none⟩ = some (.int .i64 0) := (blk_cell BK212.out 9).trans rfl; have hcz19_10 : w18.cell? ⟨gb212, 10, none⟩ = some (.int .i64 0) := (blk_cell BK212.out 10).trans rfl; have hcz19_11 : w18.cell? ⟨gb212, 11, none⟩ = some (.int .i64 0) := (blk_cell BK212.out 11).trans rfl; have hfz19_0 := blk_frozen BK212.out 0; have hfz19_1 := blk_frozen BK212.out 1; have hfz19_2 := blk_frozen BK212.out 2; have hfz19_3 := blk_frozen BK212.out 3; have hfz19_4 := blk_frozen BK212.out 4; have hfz19_5 := blk_frozen BK212.out 5; have hfz19_6 := blk_frozen BK212.out 6; have hfz19_7 := blk_frozen BK212.out 7; have hfz19_8 := blk_frozen BK212.out 8; have hfz19_9 := blk_frozen BK212.out 9; have hfz19_10 := blk_frozen BK212.out 10; have hfz19_11 := blk_frozen BK212.out 11)); go_upto_region 8 with (first | (go_at_call 8; (with_reducible refine (diff_Events.calls kj5 _ _ y196 _ _ l0 t200 t201 t202 t203 t204 t205 t206 t207 t208 t209 t210 t211 _ ?side1 ?side2 ?side3 ?side4 A14.out).mono ?_); (case side1 => repeat (first | exact (Kd.C_below HR199.out HB.out) | (with_reducible refine Kd.C_alloc ?_ _) | (with_reducible refine Kd.C_drewN ?_ _) | (with_reducible refine Kd.C_drew ?_))); (case side2 => exact HC199.out); (case side3 => repeat (first | exact (Kd.C_below HR0.out HB.out) | (with_reducible refine Kd.C_alloc ?_ _) | (with_reducible refine Kd.C_drewN ?_ _) | (with_reducible refine Kd.C_drew ?_))); (case side4 => exact HC0.out); rintro e w17 ⟨rfl, hb⟩; have n0_ := Aside0.mk (below_step (by repeat (first | (with_reducible first | exact HB.out | apply below_alloc | apply pw_below_drewN | apply below_drew1) | exact HB.out)) hb); clear HB; have HB := n0_; clear n0_; (try clear hb); (try clear hb2); (try clear hk); (try clear hi)) | ((with_reducible refine gate_dst (N := 8) rfl ?_); (try (refine gate_guard (by rfl) ?_; dsimp only)); refine box_event ?hg (N := 8) ?hd (cs := #[.int .i64 0, .int .i64 0, .int .i64 0, .int .i64 0, .int .i64 0, .int .i64 0, .int .i64 0, .int .i64 0, .int .i64 0, .int .i64 0, .int .i64 0, .int .i64 0]) (t := 27) ?hr ?_; (case hd => rfl); (case hg => rfl); (case hr => first | (go_simp; done) | (go_simp; rfl)); intro gb212 hg w18 hbox hb; have n0_ := Aside0.mk (below_step (by repeat (first | (with_reducible first | exact HB.out | apply below_alloc | apply pw_below_drewN | apply below_drew1) | exact HB.out)) hb); have n1_ := Aside0.mk (hbox); have n2_ := Aside0.mk ((by rw [hg]; exact (below_size (by repeat (first | (with_reducible first | exact HB.out | apply below_alloc | apply pw_below_drewN | apply below_drew1) | exact HB.out))) : w.heap.size ≤ gb212)); have n3_ := Aside0.mk ((by rw [hg]; exact (below_size (by repeat (first | (with_reducible first | exact HB.out | apply below_alloc | apply pw_below_drewN | apply below_drew1) | exact HB.out))) : w.heap.size ≤ gb212)); clear HB; have HB := n0_; have BK212 := n1_; have GW212 := n2_; have GE212 := n3_; clear n0_ n1_ n2_ n3_; clear hb hbox hg; have hcz19_0 : w18.cell? ⟨gb212, 0, none⟩ = some (.int .i64 0) := (blk_cell BK212.out 0).trans rfl; have hcz19_1 : w18.cell? ⟨gb212, 1, none⟩ = some (.int .i64 0) := (blk_cell BK212.out 1).trans rfl; have hcz19_2 : w18.cell? ⟨gb212, 2, none⟩ = some (.int .i64 0) := (blk_cell BK212.out 2).trans rfl; have hcz19_3 : w18.cell? ⟨gb212, 3, none⟩ = some (.int .i64 0) := (blk_cell BK212.out 3).trans rfl; have hcz19_4 : w18.cell? ⟨gb212, 4, none⟩ = some (.int .i64 0) := (blk_cell BK212.out 4).trans rfl; have hcz19_5 : w18.cell? ⟨gb212, 5, none⟩ = some (.int .i64 0) := (blk_cell BK212.out 5).trans rfl; have hcz19_6 : w18.cell? ⟨gb212, 6, none⟩ = some (.int .i64 0) := (blk_cell BK212.out 6).trans rfl; have hcz19_7 : w18.cell? ⟨gb212, 7, none⟩ = some (.int .i64 0) := (blk_cell BK212.out 7).trans rfl; have hcz19_8 : w18.cell? ⟨gb212, 8, none⟩ = some (.int .i64 0) := (blk_cell BK212.out 8).trans rfl; have hcz19_9 : w18.cell? ⟨gb212, 9, none⟩ = some (.int .i64 0) := (blk_cell BK212.out 9).trans rfl; have hcz19_10 : w18.cell? ⟨gb212, 10, none⟩ = some (.int .i64 0) := (blk_cell BK212.out 10).trans rfl; have hcz19_11 : w18.cell? ⟨gb212, 11, none⟩ = some (.int .i64 0) := (blk_cell BK212.out 11).trans rfl; have hfz19_0 := blk_frozen BK212.out 0; have hfz19_1 := blk_frozen BK212.out 1; have hfz19_2 := blk_frozen BK212.out 2; have hfz19_3 := blk_frozen BK212.out 3; have hfz19_4 := blk_frozen BK212.out 4; have hfz19_5 := blk_frozen BK212.out 5; have hfz19_6 := blk_frozen BK212.out 6; have hfz19_7 := blk_frozen BK212.out 7; have hfz19_8 := blk_frozen BK212.out 8; have hfz19_9 := blk_frozen BK212.out 9; have hfz19_10 := blk_frozen BK212.out 10; have hfz19_11 := blk_frozen BK212.out 11)))
        (try simp only [Act.put, List.setIfInBounds_toArray, List.set_cons_zero, List.set_cons_succ])
        go_cut [72] (fun v72 wc => ∃ (kq : Nat) (x72_14 : Bool), v72 = .bool x72_14 ∧ Aside0 (palletlaw23_DiffCuts.j1 kq l0 l1 ji11 true x72_14 = some r) ∧ Aside0 (kq ≤ kj5) ∧ Aside0 (wc.heap[gb212]? = some (.cells #[.int .i64 t200, .int .i64 t201, .int .i64 t202, .int .i64 t203, .int .i64 t204, .int .i64 t205, .int .i64 t206, .int .i64 t207, .int .i64 t208, .int .i64 t209, .int .i64 t210, .int .i64 t211] 27 (0, 0))) ∧ Aside0 (Below w.heap.size w wc))
        case first =>
         have H := HC15.out
         clear HC15
         by_cases c20 : t200 = (ji11)
         ·rw [if_pos c20] at H
          have c20b0 : (t200 == (ji11)) = true := beq_iff_eq.mpr c20
          have c20b1 : (t200 != (ji11)) = false := bne_eq_false_iff_eq.mpr c20
          clear c20
          (first | rw [c20b0] | (simp only [i64_w, i32_w]; rw [c20b0]) | skip)
          by_cases c21 : ((t201 == 0) != ((ji11) == (l0.length : Int))) = true
          ·rw [if_pos c21] at H
           have c21b0 : ((t201 == 0) != ((ji11) == (l0.length : Int))) = true := c21
           (try (have c21b1 : decide ((t201 == 0) = ((ji11) == (l0.length : Int))) = false := by simpa using c21))
           (try (have c21b2 : ((t201 == 0) == ((ji11) == (l0.length : Int))) = false := by simpa using c21))
           (try (have c21b3 : ¬ ((t201 == 0) = ((ji11) == (l0.length : Int))) := by simpa using c21))
           clear c21
           have H' := Aside0.mk H
           clear H
           have hcz22_0 : w18.cell? ⟨gb212, 0, none⟩ = some (.int .i64 0) := (blk_cell BK212.out 0).trans rfl
           have hcz22_1 : w18.cell? ⟨gb212, 1, none⟩ = some (.int .i64 0) := (blk_cell BK212.out 1).trans rfl
           have hcz22_2 : w18.cell? ⟨gb212, 2, none⟩ = some (.int .i64 0) := (blk_cell BK212.out 2).trans rfl
           have hcz22_3 : w18.cell? ⟨gb212, 3, none⟩ = some (.int .i64 0) := (blk_cell BK212.out 3).trans rfl
           have hcz22_4 : w18.cell? ⟨gb212, 4, none⟩ = some (.int .i64 0) := (blk_cell BK212.out 4).trans rfl
           have hcz22_5 : w18.cell? ⟨gb212, 5, none⟩ = some (.int .i64 0) := (blk_cell BK212.out 5).trans rfl
           have hcz22_6 : w18.cell? ⟨gb212, 6, none⟩ = some (.int .i64 0) := (blk_cell BK212.out 6).trans rfl
           have hcz22_7 : w18.cell? ⟨gb212, 7, none⟩ = some (.int .i64 0) := (blk_cell BK212.out 7).trans rfl
           have hcz22_8 : w18.cell? ⟨gb212, 8, none⟩ = some (.int .i64 0) := (blk_cell BK212.out 8).trans rfl
           have hcz22_9 : w18.cell? ⟨gb212, 9, none⟩ = some (.int .i64 0) := (blk_cell BK212.out 9).trans rfl
           have hcz22_10 : w18.cell? ⟨gb212, 10, none⟩ = some (.int .i64 0) := (blk_cell BK212.out 10).trans rfl
           have hcz22_11 : w18.cell? ⟨gb212, 11, none⟩ = some (.int .i64 0) := (blk_cell BK212.out 11).trans rfl
           have hfz22_0 := blk_frozen BK212.out 0
           have hfz22_1 := blk_frozen BK212.out 1
           have hfz22_2 := blk_frozen BK212.out 2
           have hfz22_3 := blk_frozen BK212.out 3
           have hfz22_4 := blk_frozen BK212.out 4
           have hfz22_5 := blk_frozen BK212.out 5
           have hfz22_6 := blk_frozen BK212.out 6
           have hfz22_7 := blk_frozen BK212.out 7
           have hfz22_8 := blk_frozen BK212.out 8
           have hfz22_9 := blk_frozen BK212.out 9
           have hfz22_10 := blk_frozen BK212.out 10
           have hfz22_11 := blk_frozen BK212.out 11
           go_wp2
           repeat (go_quiet (fail); try go_wp2)
           go_meet
           case rel => exact ⟨_, (true), (by first | rfl | (simp; done) | (simp [*]; done)), H', ⟨by have := HJ5.out; first | omega | exact Nat.le_refl _⟩, ⟨by (with_reducible repeat (first | refine blk_drewN ?_ _ | refine blk_drew ?_ | refine blk_alloc ?_ _)); refine blk_put (cs := #[.int .i64 t200, .int .i64 t201, .int .i64 t202, .int .i64 t203, .int .i64 t204, .int .i64 t205, .int .i64 t206, .int .i64 t207, .int .i64 t208, .int .i64 t209, .int .i64 t210, .int .i64 0]) ?_ 11 _ rfl; (with_reducible repeat (first | refine blk_drewN ?_ _ | refine blk_drew ?_ | refine blk_alloc ?_ _)); refine blk_put (cs := #[.int .i64 t200, .int .i64 t201, .int .i64 t202, .int .i64 t203, .int .i64 t204, .int .i64 t205, .int .i64 t206, .int .i64 t207, .int .i64 t208, .int .i64 t209, .int .i64 0, .int .i64 0]) ?_ 10 _ rfl; (with_reducible repeat (first | refine blk_drewN ?_ _ | refine blk_drew ?_ | refine blk_alloc ?_ _)); refine blk_put (cs := #[.int .i64 t200, .int .i64 t201, .int .i64 t202, .int .i64 t203, .int .i64 t204, .int .i64 t205, .int .i64 t206, .int .i64 t207, .int .i64 t208, .int .i64 0, .int .i64 0, .int .i64 0]) ?_ 9 _ rfl; (with_reducible repeat (first | refine blk_drewN ?_ _ | refine blk_drew ?_ | refine blk_alloc ?_ _)); refine blk_put (cs := #[.int .i64 t200, .int .i64 t201, .int .i64 t202, .int .i64 t203, .int .i64 t204, .int .i64 t205, .int .i64 t206, .int .i64 t207, .int .i64 0, .int .i64 0, .int .i64 0, .int .i64 0]) ?_ 8 _ rfl; (with_reducible repeat (first | refine blk_drewN ?_ _ | refine blk_drew ?_ | refine blk_alloc ?_ _)); refine blk_put (cs := #[.int .i64 t200, .int .i64 t201, .int .i64 t202, .int .i64 t203, .int .i64 t204, .int .i64 t205, .int .i64 t206, .int .i64 0, .int .i64 0, .int .i64 0, .int .i64 0, .int .i64 0]) ?_ 7 _ rfl; (with_reducible repeat (first | refine blk_drewN ?_ _ | refine blk_drew ?_ | refine blk_alloc ?_ _)); refine blk_put (cs := #[.int .i64 t200, .int .i64 t201, .int .i64 t202, .int .i64 t203, .int .i64 t204, .int .i64 t205, .int .i64 0, .int .i64 0, .int .i64 0, .int .i64 0, .int .i64 0, .int .i64 0]) ?_ 6 _ rfl; (with_reducible repeat (first | refine blk_drewN ?_ _ | refine blk_drew ?_ | refine blk_alloc ?_ _)); refine blk_put (cs := #[.int .i64 t200, .int .i64 t201, .int .i64 t202, .int .i64 t203, .int .i64 t204, .int .i64 0, .int .i64 0, .int .i64 0, .int .i64 0, .int .i64 0, .int .i64 0, .int .i64 0]) ?_ 5 _ rfl; (with_reducible repeat (first | refine blk_drewN ?_ _ | refine blk_drew ?_ | refine blk_alloc ?_ _)); refine blk_put (cs := #[.int .i64 t200, .int .i64 t201, .int .i64 t202, .int .i64 t203, .int .i64 0, .int .i64 0, .int .i64 0, .int .i64 0, .int .i64 0, .int .i64 0, .int .i64 0, .int .i64 0]) ?_ 4 _ rfl; (with_reducible repeat (first | refine blk_drewN ?_ _ | refine blk_drew ?_ | refine blk_alloc ?_ _)); refine blk_put (cs := #[.int .i64 t200, .int .i64 t201, .int .i64 t202, .int .i64 0, .int .i64 0, .int .i64 0, .int .i64 0, .int .i64 0, .int .i64 0, .int .i64 0, .int .i64 0, .int .i64 0]) ?_ 3 _ rfl; (with_reducible repeat (first | refine blk_drewN ?_ _ | refine blk_drew ?_ | refine blk_alloc ?_ _)); refine blk_put (cs := #[.int .i64 t200, .int .i64 t201, .int .i64 0, .int .i64 0, .int .i64 0, .int .i64 0, .int .i64 0, .int .i64 0, .int .i64 0, .int .i64 0, .int .i64 0, .int .i64 0]) ?_ 2 _ rfl; (with_reducible repeat (first | refine blk_drewN ?_ _ | refine blk_drew ?_ | refine blk_alloc ?_ _)); refine blk_put (cs := #[.int .i64 t200, .int .i64 0, .int .i64 0, .int .i64 0, .int .i64 0, .int .i64 0, .int .i64 0, .int .i64 0, .int .i64 0, .int .i64 0, .int .i64 0, .int .i64 0]) ?_ 1 _ rfl; (with_reducible repeat (first | refine blk_drewN ?_ _ | refine blk_drew ?_ | refine blk_alloc ?_ _)); refine blk_put (cs := #[.int .i64 0, .int .i64 0, .int .i64 0, .int .i64 0, .int .i64 0, .int .i64 0, .int .i64 0, .int .i64 0, .int .i64 0, .int .i64 0, .int .i64 0, .int .i64 0]) ?_ 0 _ rfl; (with_reducible repeat (first | refine blk_drewN ?_ _ | refine blk_drew ?_ | refine blk_alloc ?_ _)); exact BK212.out⟩, ⟨by repeat (first | (with_reducible first | exact HB.out | apply below_alloc | apply pw_below_drewN | apply below_drew1 | refine below_set ?_ GE212.out) | exact HB.out)⟩⟩
          ·rw [if_neg c21] at H
           have c21b0 : ((t201 == 0) != ((ji11) == (l0.length : Int))) = false := by simpa using c21
           (try (have c21b1 : decide ((t201 == 0) = ((ji11) == (l0.length : Int))) = true := by simpa using c21))
           (try (have c21b2 : ((t201 == 0) == ((ji11) == (l0.length : Int))) = true := by simpa using c21))
           clear c21
           by_cases c23 : (ji11) < (l0.length : Int)
           ·rw [if_pos c23] at H
            have c23b0 : decide ((ji11) < (l0.length : Int)) = true := decide_eq_true c23
            clear c23
            by_cases c24 : t201 = 2
            ·rw [if_pos c24] at H
             have c24b0 : (t201 == 2) = true := beq_iff_eq.mpr c24
             have c24b1 : (t201 != 2) = false := bne_eq_false_iff_eq.mpr c24
             clear c24
             have H' := Aside0.mk H
             clear H
             have hcz25_0 : w18.cell? ⟨gb212, 0, none⟩ = some (.int .i64 0) := (blk_cell BK212.out 0).trans rfl
             have hcz25_1 : w18.cell? ⟨gb212, 1, none⟩ = some (.int .i64 0) := (blk_cell BK212.out 1).trans rfl
             have hcz25_2 : w18.cell? ⟨gb212, 2, none⟩ = some (.int .i64 0) := (blk_cell BK212.out 2).trans rfl
             have hcz25_3 : w18.cell? ⟨gb212, 3, none⟩ = some (.int .i64 0) := (blk_cell BK212.out 3).trans rfl
             have hcz25_4 : w18.cell? ⟨gb212, 4, none⟩ = some (.int .i64 0) := (blk_cell BK212.out 4).trans rfl
             have hcz25_5 : w18.cell? ⟨gb212, 5, none⟩ = some (.int .i64 0) := (blk_cell BK212.out 5).trans rfl
             have hcz25_6 : w18.cell? ⟨gb212, 6, none⟩ = some (.int .i64 0) := (blk_cell BK212.out 6).trans rfl
             have hcz25_7 : w18.cell? ⟨gb212, 7, none⟩ = some (.int .i64 0) := (blk_cell BK212.out 7).trans rfl
             have hcz25_8 : w18.cell? ⟨gb212, 8, none⟩ = some (.int .i64 0) := (blk_cell BK212.out 8).trans rfl
             have hcz25_9 : w18.cell? ⟨gb212, 9, none⟩ = some (.int .i64 0) := (blk_cell BK212.out 9).trans rfl
             have hcz25_10 : w18.cell? ⟨gb212, 10, none⟩ = some (.int .i64 0) := (blk_cell BK212.out 10).trans rfl
             have hcz25_11 : w18.cell? ⟨gb212, 11, none⟩ = some (.int .i64 0) := (blk_cell BK212.out 11).trans rfl
             have hfz25_0 := blk_frozen BK212.out 0
             have hfz25_1 := blk_frozen BK212.out 1
             have hfz25_2 := blk_frozen BK212.out 2
             have hfz25_3 := blk_frozen BK212.out 3
             have hfz25_4 := blk_frozen BK212.out 4
             have hfz25_5 := blk_frozen BK212.out 5
             have hfz25_6 := blk_frozen BK212.out 6
             have hfz25_7 := blk_frozen BK212.out 7
             have hfz25_8 := blk_frozen BK212.out 8
             have hfz25_9 := blk_frozen BK212.out 9
             have hfz25_10 := blk_frozen BK212.out 10
             have hfz25_11 := blk_frozen BK212.out 11
             have p213 : 0 ≤ ((ji11) : Int) := of_decide_eq_true (by first | (with_reducible assumption) | assumption)
             have q213 : (ji11) < (l0.length : Int) := of_decide_eq_true (by first | (with_reducible assumption) | assumption)
             obtain ⟨ad213, e213, hx213_0, hx213_1, hx213_2, hx213_3, hx213_4⟩ := at_T25 HR0.out (ji11) p213 q213
             cases e213
             have hn213_0 : ad213.block ≠ gb212 := Nat.ne_of_lt (Nat.lt_of_lt_of_le (by have := World.block_lt_of_cell? _ _ hx213_0; first | rwa [add_block] at this | exact this) GW212.out)
             have hn213_1 : ad213.block ≠ gb212 := Nat.ne_of_lt (Nat.lt_of_lt_of_le (by have := World.block_lt_of_cell? _ _ hx213_0; first | rwa [add_block] at this | exact this) GW212.out)
             have hn213_2 : ad213.block ≠ gb212 := Nat.ne_of_lt (Nat.lt_of_lt_of_le (by have := World.block_lt_of_cell? _ _ hx213_0; first | rwa [add_block] at this | exact this) GW212.out)
             have hn213_3 : ad213.block ≠ gb212 := Nat.ne_of_lt (Nat.lt_of_lt_of_le (by have := World.block_lt_of_cell? _ _ hx213_0; first | rwa [add_block] at this | exact this) GW212.out)
             have hn213_4 : ad213.block ≠ gb212 := Nat.ne_of_lt (Nat.lt_of_lt_of_le (by have := World.block_lt_of_cell? _ _ hx213_0; first | rwa [add_block] at this | exact this) GW212.out)
             have hn213_5 : ad213.block ≠ gb212 := Nat.ne_of_lt (Nat.lt_of_lt_of_le (by have := World.block_lt_of_cell? _ _ hx213_0; first | rwa [add_block] at this | exact this) GW212.out)
             have hn213_6 : ad213.block ≠ gb212 := Nat.ne_of_lt (Nat.lt_of_lt_of_le (by have := World.block_lt_of_cell? _ _ hx213_0; first | rwa [add_block] at this | exact this) GW212.out)
             have hn213_7 : ad213.block ≠ gb212 := Nat.ne_of_lt (Nat.lt_of_lt_of_le (by have := World.block_lt_of_cell? _ _ hx213_0; first | rwa [add_block] at this | exact this) GW212.out)
             have hn213_8 : ad213.block ≠ gb212 := Nat.ne_of_lt (Nat.lt_of_lt_of_le (by have := World.block_lt_of_cell? _ _ hx213_0; first | rwa [add_block] at this | exact this) GW212.out)
             have hn213_9 : ad213.block ≠ gb212 := Nat.ne_of_lt (Nat.lt_of_lt_of_le (by have := World.block_lt_of_cell? _ _ hx213_0; first | rwa [add_block] at this | exact this) GW212.out)
             have hn213_10 : ad213.block ≠ gb212 := Nat.ne_of_lt (Nat.lt_of_lt_of_le (by have := World.block_lt_of_cell? _ _ hx213_0; first | rwa [add_block] at this | exact this) GW212.out)
             have hn213_11 : ad213.block ≠ gb212 := Nat.ne_of_lt (Nat.lt_of_lt_of_le (by have := World.block_lt_of_cell? _ _ hx213_0; first | rwa [add_block] at this | exact this) GW212.out)
             replace hx213_0 := (HB.out.cell (World.block_lt_of_cell? w _ hx213_0)).trans hx213_0
             replace hx213_1 := (HB.out.cell (World.block_lt_of_cell? w _ hx213_1)).trans hx213_1
             replace hx213_2 := (HB.out.cell (World.block_lt_of_cell? w _ hx213_2)).trans hx213_2
             replace hx213_3 := (HB.out.cell (World.block_lt_of_cell? w _ hx213_3)).trans hx213_3
             replace hx213_4 := (HB.out.cell (World.block_lt_of_cell? w _ hx213_4)).trans hx213_4
             replace hx213_0 := (cell_far (p := ⟨gb212, 0, none⟩) (by first | (rw [add_block]; exact hn213_0) | (show (Addr.add _ _).block ≠ _; rw [add_block]; exact hn213_0) | exact hn213_0) (.int .i64 t200)).trans hx213_0
             replace hx213_1 := (cell_far (p := ⟨gb212, 0, none⟩) (by first | (rw [add_block]; exact hn213_0) | (show (Addr.add _ _).block ≠ _; rw [add_block]; exact hn213_0) | exact hn213_0) (.int .i64 t200)).trans hx213_1
             replace hx213_2 := (cell_far (p := ⟨gb212, 0, none⟩) (by first | (rw [add_block]; exact hn213_0) | (show (Addr.add _ _).block ≠ _; rw [add_block]; exact hn213_0) | exact hn213_0) (.int .i64 t200)).trans hx213_2
             replace hx213_3 := (cell_far (p := ⟨gb212, 0, none⟩) (by first | (rw [add_block]; exact hn213_0) | (show (Addr.add _ _).block ≠ _; rw [add_block]; exact hn213_0) | exact hn213_0) (.int .i64 t200)).trans hx213_3
             replace hx213_4 := (cell_far (p := ⟨gb212, 0, none⟩) (by first | (rw [add_block]; exact hn213_0) | (show (Addr.add _ _).block ≠ _; rw [add_block]; exact hn213_0) | exact hn213_0) (.int .i64 t200)).trans hx213_4
             replace hx213_0 := (cell_far (p := ⟨gb212, 1, none⟩) (by first | (rw [add_block]; exact hn213_1) | (show (Addr.add _ _).block ≠ _; rw [add_block]; exact hn213_1) | exact hn213_1) (.int .i64 t201)).trans hx213_0
             replace hx213_1 := (cell_far (p := ⟨gb212, 1, none⟩) (by first | (rw [add_block]; exact hn213_1) | (show (Addr.add _ _).block ≠ _; rw [add_block]; exact hn213_1) | exact hn213_1) (.int .i64 t201)).trans hx213_1
             replace hx213_2 := (cell_far (p := ⟨gb212, 1, none⟩) (by first | (rw [add_block]; exact hn213_1) | (show (Addr.add _ _).block ≠ _; rw [add_block]; exact hn213_1) | exact hn213_1) (.int .i64 t201)).trans hx213_2
             replace hx213_3 := (cell_far (p := ⟨gb212, 1, none⟩) (by first | (rw [add_block]; exact hn213_1) | (show (Addr.add _ _).block ≠ _; rw [add_block]; exact hn213_1) | exact hn213_1) (.int .i64 t201)).trans hx213_3
             replace hx213_4 := (cell_far (p := ⟨gb212, 1, none⟩) (by first | (rw [add_block]; exact hn213_1) | (show (Addr.add _ _).block ≠ _; rw [add_block]; exact hn213_1) | exact hn213_1) (.int .i64 t201)).trans hx213_4
             replace hx213_0 := (cell_far (p := ⟨gb212, 2, none⟩) (by first | (rw [add_block]; exact hn213_2) | (show (Addr.add _ _).block ≠ _; rw [add_block]; exact hn213_2) | exact hn213_2) (.int .i64 t202)).trans hx213_0
             replace hx213_1 := (cell_far (p := ⟨gb212, 2, none⟩) (by first | (rw [add_block]; exact hn213_2) | (show (Addr.add _ _).block ≠ _; rw [add_block]; exact hn213_2) | exact hn213_2) (.int .i64 t202)).trans hx213_1
             replace hx213_2 := (cell_far (p := ⟨gb212, 2, none⟩) (by first | (rw [add_block]; exact hn213_2) | (show (Addr.add _ _).block ≠ _; rw [add_block]; exact hn213_2) | exact hn213_2) (.int .i64 t202)).trans hx213_2
             replace hx213_3 := (cell_far (p := ⟨gb212, 2, none⟩) (by first | (rw [add_block]; exact hn213_2) | (show (Addr.add _ _).block ≠ _; rw [add_block]; exact hn213_2) | exact hn213_2) (.int .i64 t202)).trans hx213_3
             replace hx213_4 := (cell_far (p := ⟨gb212, 2, none⟩) (by first | (rw [add_block]; exact hn213_2) | (show (Addr.add _ _).block ≠ _; rw [add_block]; exact hn213_2) | exact hn213_2) (.int .i64 t202)).trans hx213_4
             replace hx213_0 := (cell_far (p := ⟨gb212, 3, none⟩) (by first | (rw [add_block]; exact hn213_3) | (show (Addr.add _ _).block ≠ _; rw [add_block]; exact hn213_3) | exact hn213_3) (.int .i64 t203)).trans hx213_0
             replace hx213_1 := (cell_far (p := ⟨gb212, 3, none⟩) (by first | (rw [add_block]; exact hn213_3) | (show (Addr.add _ _).block ≠ _; rw [add_block]; exact hn213_3) | exact hn213_3) (.int .i64 t203)).trans hx213_1
             replace hx213_2 := (cell_far (p := ⟨gb212, 3, none⟩) (by first | (rw [add_block]; exact hn213_3) | (show (Addr.add _ _).block ≠ _; rw [add_block]; exact hn213_3) | exact hn213_3) (.int .i64 t203)).trans hx213_2
             replace hx213_3 := (cell_far (p := ⟨gb212, 3, none⟩) (by first | (rw [add_block]; exact hn213_3) | (show (Addr.add _ _).block ≠ _; rw [add_block]; exact hn213_3) | exact hn213_3) (.int .i64 t203)).trans hx213_3
             replace hx213_4 := (cell_far (p := ⟨gb212, 3, none⟩) (by first | (rw [add_block]; exact hn213_3) | (show (Addr.add _ _).block ≠ _; rw [add_block]; exact hn213_3) | exact hn213_3) (.int .i64 t203)).trans hx213_4
             replace hx213_0 := (cell_far (p := ⟨gb212, 4, none⟩) (by first | (rw [add_block]; exact hn213_4) | (show (Addr.add _ _).block ≠ _; rw [add_block]; exact hn213_4) | exact hn213_4) (.int .i64 t204)).trans hx213_0
             replace hx213_1 := (cell_far (p := ⟨gb212, 4, none⟩) (by first | (rw [add_block]; exact hn213_4) | (show (Addr.add _ _).block ≠ _; rw [add_block]; exact hn213_4) | exact hn213_4) (.int .i64 t204)).trans hx213_1
             replace hx213_2 := (cell_far (p := ⟨gb212, 4, none⟩) (by first | (rw [add_block]; exact hn213_4) | (show (Addr.add _ _).block ≠ _; rw [add_block]; exact hn213_4) | exact hn213_4) (.int .i64 t204)).trans hx213_2
             replace hx213_3 := (cell_far (p := ⟨gb212, 4, none⟩) (by first | (rw [add_block]; exact hn213_4) | (show (Addr.add _ _).block ≠ _; rw [add_block]; exact hn213_4) | exact hn213_4) (.int .i64 t204)).trans hx213_3
             replace hx213_4 := (cell_far (p := ⟨gb212, 4, none⟩) (by first | (rw [add_block]; exact hn213_4) | (show (Addr.add _ _).block ≠ _; rw [add_block]; exact hn213_4) | exact hn213_4) (.int .i64 t204)).trans hx213_4
             replace hx213_0 := (cell_far (p := ⟨gb212, 5, none⟩) (by first | (rw [add_block]; exact hn213_5) | (show (Addr.add _ _).block ≠ _; rw [add_block]; exact hn213_5) | exact hn213_5) (.int .i64 t205)).trans hx213_0
             replace hx213_1 := (cell_far (p := ⟨gb212, 5, none⟩) (by first | (rw [add_block]; exact hn213_5) | (show (Addr.add _ _).block ≠ _; rw [add_block]; exact hn213_5) | exact hn213_5) (.int .i64 t205)).trans hx213_1
             replace hx213_2 := (cell_far (p := ⟨gb212, 5, none⟩) (by first | (rw [add_block]; exact hn213_5) | (show (Addr.add _ _).block ≠ _; rw [add_block]; exact hn213_5) | exact hn213_5) (.int .i64 t205)).trans hx213_2
             replace hx213_3 := (cell_far (p := ⟨gb212, 5, none⟩) (by first | (rw [add_block]; exact hn213_5) | (show (Addr.add _ _).block ≠ _; rw [add_block]; exact hn213_5) | exact hn213_5) (.int .i64 t205)).trans hx213_3
             replace hx213_4 := (cell_far (p := ⟨gb212, 5, none⟩) (by first | (rw [add_block]; exact hn213_5) | (show (Addr.add _ _).block ≠ _; rw [add_block]; exact hn213_5) | exact hn213_5) (.int .i64 t205)).trans hx213_4
             replace hx213_0 := (cell_far (p := ⟨gb212, 6, none⟩) (by first | (rw [add_block]; exact hn213_6) | (show (Addr.add _ _).block ≠ _; rw [add_block]; exact hn213_6) | exact hn213_6) (.int .i64 t206)).trans hx213_0
             replace hx213_1 := (cell_far (p := ⟨gb212, 6, none⟩) (by first | (rw [add_block]; exact hn213_6) | (show (Addr.add _ _).block ≠ _; rw [add_block]; exact hn213_6) | exact hn213_6) (.int .i64 t206)).trans hx213_1
             replace hx213_2 := (cell_far (p := ⟨gb212, 6, none⟩) (by first | (rw [add_block]; exact hn213_6) | (show (Addr.add _ _).block ≠ _; rw [add_block]; exact hn213_6) | exact hn213_6) (.int .i64 t206)).trans hx213_2
             replace hx213_3 := (cell_far (p := ⟨gb212, 6, none⟩) (by first | (rw [add_block]; exact hn213_6) | (show (Addr.add _ _).block ≠ _; rw [add_block]; exact hn213_6) | exact hn213_6) (.int .i64 t206)).trans hx213_3
             replace hx213_4 := (cell_far (p := ⟨gb212, 6, none⟩) (by first | (rw [add_block]; exact hn213_6) | (show (Addr.add _ _).block ≠ _; rw [add_block]; exact hn213_6) | exact hn213_6) (.int .i64 t206)).trans hx213_4
             replace hx213_0 := (cell_far (p := ⟨gb212, 7, none⟩) (by first | (rw [add_block]; exact hn213_7) | (show (Addr.add _ _).block ≠ _; rw [add_block]; exact hn213_7) | exact hn213_7) (.int .i64 t207)).trans hx213_0
             replace hx213_1 := (cell_far (p := ⟨gb212, 7, none⟩) (by first | (rw [add_block]; exact hn213_7) | (show (Addr.add _ _).block ≠ _; rw [add_block]; exact hn213_7) | exact hn213_7) (.int .i64 t207)).trans hx213_1
             replace hx213_2 := (cell_far (p := ⟨gb212, 7, none⟩) (by first | (rw [add_block]; exact hn213_7) | (show (Addr.add _ _).block ≠ _; rw [add_block]; exact hn213_7) | exact hn213_7) (.int .i64 t207)).trans hx213_2
             replace hx213_3 := (cell_far (p := ⟨gb212, 7, none⟩) (by first | (rw [add_block]; exact hn213_7) | (show (Addr.add _ _).block ≠ _; rw [add_block]; exact hn213_7) | exact hn213_7) (.int .i64 t207)).trans hx213_3
             replace hx213_4 := (cell_far (p := ⟨gb212, 7, none⟩) (by first | (rw [add_block]; exact hn213_7) | (show (Addr.add _ _).block ≠ _; rw [add_block]; exact hn213_7) | exact hn213_7) (.int .i64 t207)).trans hx213_4
             replace hx213_0 := (cell_far (p := ⟨gb212, 8, none⟩) (by first | (rw [add_block]; exact hn213_8) | (show (Addr.add _ _).block ≠ _; rw [add_block]; exact hn213_8) | exact hn213_8) (.int .i64 t208)).trans hx213_0
             replace hx213_1 := (cell_far (p := ⟨gb212, 8, none⟩) (by first | (rw [add_block]; exact hn213_8) | (show (Addr.add _ _).block ≠ _; rw [add_block]; exact hn213_8) | exact hn213_8) (.int .i64 t208)).trans hx213_1
             replace hx213_2 := (cell_far (p := ⟨gb212, 8, none⟩) (by first | (rw [add_block]; exact hn213_8) | (show (Addr.add _ _).block ≠ _; rw [add_block]; exact hn213_8) | exact hn213_8) (.int .i64 t208)).trans hx213_2
             replace hx213_3 := (cell_far (p := ⟨gb212, 8, none⟩) (by first | (rw [add_block]; exact hn213_8) | (show (Addr.add _ _).block ≠ _; rw [add_block]; exact hn213_8) | exact hn213_8) (.int .i64 t208)).trans hx213_3
             replace hx213_4 := (cell_far (p := ⟨gb212, 8, none⟩) (by first | (rw [add_block]; exact hn213_8) | (show (Addr.add _ _).block ≠ _; rw [add_block]; exact hn213_8) | exact hn213_8) (.int .i64 t208)).trans hx213_4
             replace hx213_0 := (cell_far (p := ⟨gb212, 9, none⟩) (by first | (rw [add_block]; exact hn213_9) | (show (Addr.add _ _).block ≠ _; rw [add_block]; exact hn213_9) | exact hn213_9) (.int .i64 t209)).trans hx213_0
             replace hx213_1 := (cell_far (p := ⟨gb212, 9, none⟩) (by first | (rw [add_block]; exact hn213_9) | (show (Addr.add _ _).block ≠ _; rw [add_block]; exact hn213_9) | exact hn213_9) (.int .i64 t209)).trans hx213_1
             replace hx213_2 := (cell_far (p := ⟨gb212, 9, none⟩) (by first | (rw [add_block]; exact hn213_9) | (show (Addr.add _ _).block ≠ _; rw [add_block]; exact hn213_9) | exact hn213_9) (.int .i64 t209)).trans hx213_2
             replace hx213_3 := (cell_far (p := ⟨gb212, 9, none⟩) (by first | (rw [add_block]; exact hn213_9) | (show (Addr.add _ _).block ≠ _; rw [add_block]; exact hn213_9) | exact hn213_9) (.int .i64 t209)).trans hx213_3
             replace hx213_4 := (cell_far (p := ⟨gb212, 9, none⟩) (by first | (rw [add_block]; exact hn213_9) | (show (Addr.add _ _).block ≠ _; rw [add_block]; exact hn213_9) | exact hn213_9) (.int .i64 t209)).trans hx213_4
             replace hx213_0 := (cell_far (p := ⟨gb212, 10, none⟩) (by first | (rw [add_block]; exact hn213_10) | (show (Addr.add _ _).block ≠ _; rw [add_block]; exact hn213_10) | exact hn213_10) (.int .i64 t210)).trans hx213_0
             replace hx213_1 := (cell_far (p := ⟨gb212, 10, none⟩) (by first | (rw [add_block]; exact hn213_10) | (show (Addr.add _ _).block ≠ _; rw [add_block]; exact hn213_10) | exact hn213_10) (.int .i64 t210)).trans hx213_1
             replace hx213_2 := (cell_far (p := ⟨gb212, 10, none⟩) (by first | (rw [add_block]; exact hn213_10) | (show (Addr.add _ _).block ≠ _; rw [add_block]; exact hn213_10) | exact hn213_10) (.int .i64 t210)).trans hx213_2
             replace hx213_3 := (cell_far (p := ⟨gb212, 10, none⟩) (by first | (rw [add_block]; exact hn213_10) | (show (Addr.add _ _).block ≠ _; rw [add_block]; exact hn213_10) | exact hn213_10) (.int .i64 t210)).trans hx213_3
             replace hx213_4 := (cell_far (p := ⟨gb212, 10, none⟩) (by first | (rw [add_block]; exact hn213_10) | (show (Addr.add _ _).block ≠ _; rw [add_block]; exact hn213_10) | exact hn213_10) (.int .i64 t210)).trans hx213_4
             replace hx213_0 := (cell_far (p := ⟨gb212, 11, none⟩) (by first | (rw [add_block]; exact hn213_11) | (show (Addr.add _ _).block ≠ _; rw [add_block]; exact hn213_11) | exact hn213_11) (.int .i64 t211)).trans hx213_0
             replace hx213_1 := (cell_far (p := ⟨gb212, 11, none⟩) (by first | (rw [add_block]; exact hn213_11) | (show (Addr.add _ _).block ≠ _; rw [add_block]; exact hn213_11) | exact hn213_11) (.int .i64 t211)).trans hx213_1
             replace hx213_2 := (cell_far (p := ⟨gb212, 11, none⟩) (by first | (rw [add_block]; exact hn213_11) | (show (Addr.add _ _).block ≠ _; rw [add_block]; exact hn213_11) | exact hn213_11) (.int .i64 t211)).trans hx213_2
             replace hx213_3 := (cell_far (p := ⟨gb212, 11, none⟩) (by first | (rw [add_block]; exact hn213_11) | (show (Addr.add _ _).block ≠ _; rw [add_block]; exact hn213_11) | exact hn213_11) (.int .i64 t211)).trans hx213_3
             replace hx213_4 := (cell_far (p := ⟨gb212, 11, none⟩) (by first | (rw [add_block]; exact hn213_11) | (show (Addr.add _ _).block ≠ _; rw [add_block]; exact hn213_11) | exact hn213_11) (.int .i64 t211)).trans hx213_4
             clear hn213_0
             clear hn213_1
             clear hn213_2
             clear hn213_3
             clear hn213_4
             clear hn213_5
             clear hn213_6
             clear hn213_7
             clear hn213_8
             clear hn213_9
             clear hn213_10
             clear hn213_11
             replace p213 := eq_true p213
             replace q213 := eq_true q213
             go_wp2
             repeat (go_quiet (fail); try go_wp2)
             go_meet
             case rel => exact ⟨_, ((!(t207 == ((rd_T25 l0 (ji11)).f0)) || (!(t208 == ((rd_T25 l0 (ji11)).f1)) || (!(t209 == ((rd_T25 l0 (ji11)).f2)) || (!(t210 == ((rd_T25 l0 (ji11)).f3)) || (!(t211 == ((rd_T25 l0 (ji11)).f4)))))))), (by first | rfl | (simp; done) | (simp only [← hji11] <;> (first | rfl | simp)) | (simp [*]; done)), H', ⟨by have := HJ5.out; first | omega | exact Nat.le_refl _⟩, ⟨by (with_reducible repeat (first | refine blk_drewN ?_ _ | refine blk_drew ?_ | refine blk_alloc ?_ _)); refine blk_put (cs := #[.int .i64 t200, .int .i64 t201, .int .i64 t202, .int .i64 t203, .int .i64 t204, .int .i64 t205, .int .i64 t206, .int .i64 t207, .int .i64 t208, .int .i64 t209, .int .i64 t210, .int .i64 0]) ?_ 11 _ rfl; (with_reducible repeat (first | refine blk_drewN ?_ _ | refine blk_drew ?_ | refine blk_alloc ?_ _)); refine blk_put (cs := #[.int .i64 t200, .int .i64 t201, .int .i64 t202, .int .i64 t203, .int .i64 t204, .int .i64 t205, .int .i64 t206, .int .i64 t207, .int .i64 t208, .int .i64 t209, .int .i64 0, .int .i64 0]) ?_ 10 _ rfl; (with_reducible repeat (first | refine blk_drewN ?_ _ | refine blk_drew ?_ | refine blk_alloc ?_ _)); refine blk_put (cs := #[.int .i64 t200, .int .i64 t201, .int .i64 t202, .int .i64 t203, .int .i64 t204, .int .i64 t205, .int .i64 t206, .int .i64 t207, .int .i64 t208, .int .i64 0, .int .i64 0, .int .i64 0]) ?_ 9 _ rfl; (with_reducible repeat (first | refine blk_drewN ?_ _ | refine blk_drew ?_ | refine blk_alloc ?_ _)); refine blk_put (cs := #[.int .i64 t200, .int .i64 t201, .int .i64 t202, .int .i64 t203, .int .i64 t204, .int .i64 t205, .int .i64 t206, .int .i64 t207, .int .i64 0, .int .i64 0, .int .i64 0, .int .i64 0]) ?_ 8 _ rfl; (with_reducible repeat (first | refine blk_drewN ?_ _ | refine blk_drew ?_ | refine blk_alloc ?_ _)); refine blk_put (cs := #[.int .i64 t200, .int .i64 t201, .int .i64 t202, .int .i64 t203, .int .i64 t204, .int .i64 t205, .int .i64 t206, .int .i64 0, .int .i64 0, .int .i64 0, .int .i64 0, .int .i64 0]) ?_ 7 _ rfl; (with_reducible repeat (first | refine blk_drewN ?_ _ | refine blk_drew ?_ | refine blk_alloc ?_ _)); refine blk_put (cs := #[.int .i64 t200, .int .i64 t201, .int .i64 t202, .int .i64 t203, .int .i64 t204, .int .i64 t205, .int .i64 0, .int .i64 0, .int .i64 0, .int .i64 0, .int .i64 0, .int .i64 0]) ?_ 6 _ rfl; (with_reducible repeat (first | refine blk_drewN ?_ _ | refine blk_drew ?_ | refine blk_alloc ?_ _)); refine blk_put (cs := #[.int .i64 t200, .int .i64 t201, .int .i64 t202, .int .i64 t203, .int .i64 t204, .int .i64 0, .int .i64 0, .int .i64 0, .int .i64 0, .int .i64 0, .int .i64 0, .int .i64 0]) ?_ 5 _ rfl; (with_reducible repeat (first | refine blk_drewN ?_ _ | refine blk_drew ?_ | refine blk_alloc ?_ _)); refine blk_put (cs := #[.int .i64 t200, .int .i64 t201, .int .i64 t202, .int .i64 t203, .int .i64 0, .int .i64 0, .int .i64 0, .int .i64 0, .int .i64 0, .int .i64 0, .int .i64 0, .int .i64 0]) ?_ 4 _ rfl; (with_reducible repeat (first | refine blk_drewN ?_ _ | refine blk_drew ?_ | refine blk_alloc ?_ _)); refine blk_put (cs := #[.int .i64 t200, .int .i64 t201, .int .i64 t202, .int .i64 0, .int .i64 0, .int .i64 0, .int .i64 0, .int .i64 0, .int .i64 0, .int .i64 0, .int .i64 0, .int .i64 0]) ?_ 3 _ rfl; (with_reducible repeat (first | refine blk_drewN ?_ _ | refine blk_drew ?_ | refine blk_alloc ?_ _)); refine blk_put (cs := #[.int .i64 t200, .int .i64 t201, .int .i64 0, .int .i64 0, .int .i64 0, .int .i64 0, .int .i64 0, .int .i64 0, .int .i64 0, .int .i64 0, .int .i64 0, .int .i64 0]) ?_ 2 _ rfl; (with_reducible repeat (first | refine blk_drewN ?_ _ | refine blk_drew ?_ | refine blk_alloc ?_ _)); refine blk_put (cs := #[.int .i64 t200, .int .i64 0, .int .i64 0, .int .i64 0, .int .i64 0, .int .i64 0, .int .i64 0, .int .i64 0, .int .i64 0, .int .i64 0, .int .i64 0, .int .i64 0]) ?_ 1 _ rfl; (with_reducible repeat (first | refine blk_drewN ?_ _ | refine blk_drew ?_ | refine blk_alloc ?_ _)); refine blk_put (cs := #[.int .i64 0, .int .i64 0, .int .i64 0, .int .i64 0, .int .i64 0, .int .i64 0, .int .i64 0, .int .i64 0, .int .i64 0, .int .i64 0, .int .i64 0, .int .i64 0]) ?_ 0 _ rfl; (with_reducible repeat (first | refine blk_drewN ?_ _ | refine blk_drew ?_ | refine blk_alloc ?_ _)); exact BK212.out⟩, ⟨by repeat (first | (with_reducible first | exact HB.out | apply below_alloc | apply pw_below_drewN | apply below_drew1 | refine below_set ?_ GE212.out) | exact HB.out)⟩⟩
            ·rw [if_neg c24] at H
             have c24b0 : (t201 == 2) = false := beq_eq_false_iff_ne.mpr c24
             have c24b1 : (t201 != 2) = true := bne_iff_ne.mpr c24
             have H' := Aside0.mk H
             clear H
             have hcz26_0 : w18.cell? ⟨gb212, 0, none⟩ = some (.int .i64 0) := (blk_cell BK212.out 0).trans rfl
             have hcz26_1 : w18.cell? ⟨gb212, 1, none⟩ = some (.int .i64 0) := (blk_cell BK212.out 1).trans rfl
             have hcz26_2 : w18.cell? ⟨gb212, 2, none⟩ = some (.int .i64 0) := (blk_cell BK212.out 2).trans rfl
             have hcz26_3 : w18.cell? ⟨gb212, 3, none⟩ = some (.int .i64 0) := (blk_cell BK212.out 3).trans rfl
             have hcz26_4 : w18.cell? ⟨gb212, 4, none⟩ = some (.int .i64 0) := (blk_cell BK212.out 4).trans rfl
             have hcz26_5 : w18.cell? ⟨gb212, 5, none⟩ = some (.int .i64 0) := (blk_cell BK212.out 5).trans rfl
             have hcz26_6 : w18.cell? ⟨gb212, 6, none⟩ = some (.int .i64 0) := (blk_cell BK212.out 6).trans rfl
             have hcz26_7 : w18.cell? ⟨gb212, 7, none⟩ = some (.int .i64 0) := (blk_cell BK212.out 7).trans rfl
             have hcz26_8 : w18.cell? ⟨gb212, 8, none⟩ = some (.int .i64 0) := (blk_cell BK212.out 8).trans rfl
             have hcz26_9 : w18.cell? ⟨gb212, 9, none⟩ = some (.int .i64 0) := (blk_cell BK212.out 9).trans rfl
             have hcz26_10 : w18.cell? ⟨gb212, 10, none⟩ = some (.int .i64 0) := (blk_cell BK212.out 10).trans rfl
             have hcz26_11 : w18.cell? ⟨gb212, 11, none⟩ = some (.int .i64 0) := (blk_cell BK212.out 11).trans rfl
             have hfz26_0 := blk_frozen BK212.out 0
             have hfz26_1 := blk_frozen BK212.out 1
             have hfz26_2 := blk_frozen BK212.out 2
             have hfz26_3 := blk_frozen BK212.out 3
             have hfz26_4 := blk_frozen BK212.out 4
             have hfz26_5 := blk_frozen BK212.out 5
             have hfz26_6 := blk_frozen BK212.out 6
             have hfz26_7 := blk_frozen BK212.out 7
             have hfz26_8 := blk_frozen BK212.out 8
             have hfz26_9 := blk_frozen BK212.out 9
             have hfz26_10 := blk_frozen BK212.out 10
             have hfz26_11 := blk_frozen BK212.out 11
             go_wp2
             repeat (go_quiet (fail); try go_wp2)
             go_meet
             case rel => exact ⟨_, (true), (by first | rfl | (simp; done) | (simp [*]; done)), H', ⟨by have := HJ5.out; first | omega | exact Nat.le_refl _⟩, ⟨by (with_reducible repeat (first | refine blk_drewN ?_ _ | refine blk_drew ?_ | refine blk_alloc ?_ _)); refine blk_put (cs := #[.int .i64 t200, .int .i64 t201, .int .i64 t202, .int .i64 t203, .int .i64 t204, .int .i64 t205, .int .i64 t206, .int .i64 t207, .int .i64 t208, .int .i64 t209, .int .i64 t210, .int .i64 0]) ?_ 11 _ rfl; (with_reducible repeat (first | refine blk_drewN ?_ _ | refine blk_drew ?_ | refine blk_alloc ?_ _)); refine blk_put (cs := #[.int .i64 t200, .int .i64 t201, .int .i64 t202, .int .i64 t203, .int .i64 t204, .int .i64 t205, .int .i64 t206, .int .i64 t207, .int .i64 t208, .int .i64 t209, .int .i64 0, .int .i64 0]) ?_ 10 _ rfl; (with_reducible repeat (first | refine blk_drewN ?_ _ | refine blk_drew ?_ | refine blk_alloc ?_ _)); refine blk_put (cs := #[.int .i64 t200, .int .i64 t201, .int .i64 t202, .int .i64 t203, .int .i64 t204, .int .i64 t205, .int .i64 t206, .int .i64 t207, .int .i64 t208, .int .i64 0, .int .i64 0, .int .i64 0]) ?_ 9 _ rfl; (with_reducible repeat (first | refine blk_drewN ?_ _ | refine blk_drew ?_ | refine blk_alloc ?_ _)); refine blk_put (cs := #[.int .i64 t200, .int .i64 t201, .int .i64 t202, .int .i64 t203, .int .i64 t204, .int .i64 t205, .int .i64 t206, .int .i64 t207, .int .i64 0, .int .i64 0, .int .i64 0, .int .i64 0]) ?_ 8 _ rfl; (with_reducible repeat (first | refine blk_drewN ?_ _ | refine blk_drew ?_ | refine blk_alloc ?_ _)); refine blk_put (cs := #[.int .i64 t200, .int .i64 t201, .int .i64 t202, .int .i64 t203, .int .i64 t204, .int .i64 t205, .int .i64 t206, .int .i64 0, .int .i64 0, .int .i64 0, .int .i64 0, .int .i64 0]) ?_ 7 _ rfl; (with_reducible repeat (first | refine blk_drewN ?_ _ | refine blk_drew ?_ | refine blk_alloc ?_ _)); refine blk_put (cs := #[.int .i64 t200, .int .i64 t201, .int .i64 t202, .int .i64 t203, .int .i64 t204, .int .i64 t205, .int .i64 0, .int .i64 0, .int .i64 0, .int .i64 0, .int .i64 0, .int .i64 0]) ?_ 6 _ rfl; (with_reducible repeat (first | refine blk_drewN ?_ _ | refine blk_drew ?_ | refine blk_alloc ?_ _)); refine blk_put (cs := #[.int .i64 t200, .int .i64 t201, .int .i64 t202, .int .i64 t203, .int .i64 t204, .int .i64 0, .int .i64 0, .int .i64 0, .int .i64 0, .int .i64 0, .int .i64 0, .int .i64 0]) ?_ 5 _ rfl; (with_reducible repeat (first | refine blk_drewN ?_ _ | refine blk_drew ?_ | refine blk_alloc ?_ _)); refine blk_put (cs := #[.int .i64 t200, .int .i64 t201, .int .i64 t202, .int .i64 t203, .int .i64 0, .int .i64 0, .int .i64 0, .int .i64 0, .int .i64 0, .int .i64 0, .int .i64 0, .int .i64 0]) ?_ 4 _ rfl; (with_reducible repeat (first | refine blk_drewN ?_ _ | refine blk_drew ?_ | refine blk_alloc ?_ _)); refine blk_put (cs := #[.int .i64 t200, .int .i64 t201, .int .i64 t202, .int .i64 0, .int .i64 0, .int .i64 0, .int .i64 0, .int .i64 0, .int .i64 0, .int .i64 0, .int .i64 0, .int .i64 0]) ?_ 3 _ rfl; (with_reducible repeat (first | refine blk_drewN ?_ _ | refine blk_drew ?_ | refine blk_alloc ?_ _)); refine blk_put (cs := #[.int .i64 t200, .int .i64 t201, .int .i64 0, .int .i64 0, .int .i64 0, .int .i64 0, .int .i64 0, .int .i64 0, .int .i64 0, .int .i64 0, .int .i64 0, .int .i64 0]) ?_ 2 _ rfl; (with_reducible repeat (first | refine blk_drewN ?_ _ | refine blk_drew ?_ | refine blk_alloc ?_ _)); refine blk_put (cs := #[.int .i64 t200, .int .i64 0, .int .i64 0, .int .i64 0, .int .i64 0, .int .i64 0, .int .i64 0, .int .i64 0, .int .i64 0, .int .i64 0, .int .i64 0, .int .i64 0]) ?_ 1 _ rfl; (with_reducible repeat (first | refine blk_drewN ?_ _ | refine blk_drew ?_ | refine blk_alloc ?_ _)); refine blk_put (cs := #[.int .i64 0, .int .i64 0, .int .i64 0, .int .i64 0, .int .i64 0, .int .i64 0, .int .i64 0, .int .i64 0, .int .i64 0, .int .i64 0, .int .i64 0, .int .i64 0]) ?_ 0 _ rfl; (with_reducible repeat (first | refine blk_drewN ?_ _ | refine blk_drew ?_ | refine blk_alloc ?_ _)); exact BK212.out⟩, ⟨by repeat (first | (with_reducible first | exact HB.out | apply below_alloc | apply pw_below_drewN | apply below_drew1 | refine below_set ?_ GE212.out) | exact HB.out)⟩⟩
           ·rw [if_neg c23] at H
            have c23b0 : decide ((ji11) < (l0.length : Int)) = false := decide_eq_false c23
            clear c23
            have H' := Aside0.mk H
            clear H
            have hcz27_0 : w18.cell? ⟨gb212, 0, none⟩ = some (.int .i64 0) := (blk_cell BK212.out 0).trans rfl
            have hcz27_1 : w18.cell? ⟨gb212, 1, none⟩ = some (.int .i64 0) := (blk_cell BK212.out 1).trans rfl
            have hcz27_2 : w18.cell? ⟨gb212, 2, none⟩ = some (.int .i64 0) := (blk_cell BK212.out 2).trans rfl
            have hcz27_3 : w18.cell? ⟨gb212, 3, none⟩ = some (.int .i64 0) := (blk_cell BK212.out 3).trans rfl
            have hcz27_4 : w18.cell? ⟨gb212, 4, none⟩ = some (.int .i64 0) := (blk_cell BK212.out 4).trans rfl
            have hcz27_5 : w18.cell? ⟨gb212, 5, none⟩ = some (.int .i64 0) := (blk_cell BK212.out 5).trans rfl
            have hcz27_6 : w18.cell? ⟨gb212, 6, none⟩ = some (.int .i64 0) := (blk_cell BK212.out 6).trans rfl
            have hcz27_7 : w18.cell? ⟨gb212, 7, none⟩ = some (.int .i64 0) := (blk_cell BK212.out 7).trans rfl
            have hcz27_8 : w18.cell? ⟨gb212, 8, none⟩ = some (.int .i64 0) := (blk_cell BK212.out 8).trans rfl
            have hcz27_9 : w18.cell? ⟨gb212, 9, none⟩ = some (.int .i64 0) := (blk_cell BK212.out 9).trans rfl
            have hcz27_10 : w18.cell? ⟨gb212, 10, none⟩ = some (.int .i64 0) := (blk_cell BK212.out 10).trans rfl
            have hcz27_11 : w18.cell? ⟨gb212, 11, none⟩ = some (.int .i64 0) := (blk_cell BK212.out 11).trans rfl
            have hfz27_0 := blk_frozen BK212.out 0
            have hfz27_1 := blk_frozen BK212.out 1
            have hfz27_2 := blk_frozen BK212.out 2
            have hfz27_3 := blk_frozen BK212.out 3
            have hfz27_4 := blk_frozen BK212.out 4
            have hfz27_5 := blk_frozen BK212.out 5
            have hfz27_6 := blk_frozen BK212.out 6
            have hfz27_7 := blk_frozen BK212.out 7
            have hfz27_8 := blk_frozen BK212.out 8
            have hfz27_9 := blk_frozen BK212.out 9
            have hfz27_10 := blk_frozen BK212.out 10
            have hfz27_11 := blk_frozen BK212.out 11
            go_wp2
            repeat (go_quiet (fail); try go_wp2)
            go_meet
            case rel => exact ⟨_, (false), (by first | rfl | (simp; done) | (simp [*]; done)), H', ⟨by have := HJ5.out; first | omega | exact Nat.le_refl _⟩, ⟨by (with_reducible repeat (first | refine blk_drewN ?_ _ | refine blk_drew ?_ | refine blk_alloc ?_ _)); refine blk_put (cs := #[.int .i64 t200, .int .i64 t201, .int .i64 t202, .int .i64 t203, .int .i64 t204, .int .i64 t205, .int .i64 t206, .int .i64 t207, .int .i64 t208, .int .i64 t209, .int .i64 t210, .int .i64 0]) ?_ 11 _ rfl; (with_reducible repeat (first | refine blk_drewN ?_ _ | refine blk_drew ?_ | refine blk_alloc ?_ _)); refine blk_put (cs := #[.int .i64 t200, .int .i64 t201, .int .i64 t202, .int .i64 t203, .int .i64 t204, .int .i64 t205, .int .i64 t206, .int .i64 t207, .int .i64 t208, .int .i64 t209, .int .i64 0, .int .i64 0]) ?_ 10 _ rfl; (with_reducible repeat (first | refine blk_drewN ?_ _ | refine blk_drew ?_ | refine blk_alloc ?_ _)); refine blk_put (cs := #[.int .i64 t200, .int .i64 t201, .int .i64 t202, .int .i64 t203, .int .i64 t204, .int .i64 t205, .int .i64 t206, .int .i64 t207, .int .i64 t208, .int .i64 0, .int .i64 0, .int .i64 0]) ?_ 9 _ rfl; (with_reducible repeat (first | refine blk_drewN ?_ _ | refine blk_drew ?_ | refine blk_alloc ?_ _)); refine blk_put (cs := #[.int .i64 t200, .int .i64 t201, .int .i64 t202, .int .i64 t203, .int .i64 t204, .int .i64 t205, .int .i64 t206, .int .i64 t207, .int .i64 0, .int .i64 0, .int .i64 0, .int .i64 0]) ?_ 8 _ rfl; (with_reducible repeat (first | refine blk_drewN ?_ _ | refine blk_drew ?_ | refine blk_alloc ?_ _)); refine blk_put (cs := #[.int .i64 t200, .int .i64 t201, .int .i64 t202, .int .i64 t203, .int .i64 t204, .int .i64 t205, .int .i64 t206, .int .i64 0, .int .i64 0, .int .i64 0, .int .i64 0, .int .i64 0]) ?_ 7 _ rfl; (with_reducible repeat (first | refine blk_drewN ?_ _ | refine blk_drew ?_ | refine blk_alloc ?_ _)); refine blk_put (cs := #[.int .i64 t200, .int .i64 t201, .int .i64 t202, .int .i64 t203, .int .i64 t204, .int .i64 t205, .int .i64 0, .int .i64 0, .int .i64 0, .int .i64 0, .int .i64 0, .int .i64 0]) ?_ 6 _ rfl; (with_reducible repeat (first | refine blk_drewN ?_ _ | refine blk_drew ?_ | refine blk_alloc ?_ _)); refine blk_put (cs := #[.int .i64 t200, .int .i64 t201, .int .i64 t202, .int .i64 t203, .int .i64 t204, .int .i64 0, .int .i64 0, .int .i64 0, .int .i64 0, .int .i64 0, .int .i64 0, .int .i64 0]) ?_ 5 _ rfl; (with_reducible repeat (first | refine blk_drewN ?_ _ | refine blk_drew ?_ | refine blk_alloc ?_ _)); refine blk_put (cs := #[.int .i64 t200, .int .i64 t201, .int .i64 t202, .int .i64 t203, .int .i64 0, .int .i64 0, .int .i64 0, .int .i64 0, .int .i64 0, .int .i64 0, .int .i64 0, .int .i64 0]) ?_ 4 _ rfl; (with_reducible repeat (first | refine blk_drewN ?_ _ | refine blk_drew ?_ | refine blk_alloc ?_ _)); refine blk_put (cs := #[.int .i64 t200, .int .i64 t201, .int .i64 t202, .int .i64 0, .int .i64 0, .int .i64 0, .int .i64 0, .int .i64 0, .int .i64 0, .int .i64 0, .int .i64 0, .int .i64 0]) ?_ 3 _ rfl; (with_reducible repeat (first | refine blk_drewN ?_ _ | refine blk_drew ?_ | refine blk_alloc ?_ _)); refine blk_put (cs := #[.int .i64 t200, .int .i64 t201, .int .i64 0, .int .i64 0, .int .i64 0, .int .i64 0, .int .i64 0, .int .i64 0, .int .i64 0, .int .i64 0, .int .i64 0, .int .i64 0]) ?_ 2 _ rfl; (with_reducible repeat (first | refine blk_drewN ?_ _ | refine blk_drew ?_ | refine blk_alloc ?_ _)); refine blk_put (cs := #[.int .i64 t200, .int .i64 0, .int .i64 0, .int .i64 0, .int .i64 0, .int .i64 0, .int .i64 0, .int .i64 0, .int .i64 0, .int .i64 0, .int .i64 0, .int .i64 0]) ?_ 1 _ rfl; (with_reducible repeat (first | refine blk_drewN ?_ _ | refine blk_drew ?_ | refine blk_alloc ?_ _)); refine blk_put (cs := #[.int .i64 0, .int .i64 0, .int .i64 0, .int .i64 0, .int .i64 0, .int .i64 0, .int .i64 0, .int .i64 0, .int .i64 0, .int .i64 0, .int .i64 0, .int .i64 0]) ?_ 0 _ rfl; (with_reducible repeat (first | refine blk_drewN ?_ _ | refine blk_drew ?_ | refine blk_alloc ?_ _)); exact BK212.out⟩, ⟨by repeat (first | (with_reducible first | exact HB.out | apply below_alloc | apply pw_below_drewN | apply below_drew1 | refine below_set ?_ GE212.out) | exact HB.out)⟩⟩
         ·rw [if_neg c20] at H
          have c20b0 : (t200 == (ji11)) = false := beq_eq_false_iff_ne.mpr c20
          have c20b1 : (t200 != (ji11)) = true := bne_iff_ne.mpr c20
          (first | rw [c20b0] | (simp only [i64_w, i32_w]; rw [c20b0]) | skip)
          have H' := Aside0.mk H
          clear H
          have hcz28_0 : w18.cell? ⟨gb212, 0, none⟩ = some (.int .i64 0) := (blk_cell BK212.out 0).trans rfl
          have hcz28_1 : w18.cell? ⟨gb212, 1, none⟩ = some (.int .i64 0) := (blk_cell BK212.out 1).trans rfl
          have hcz28_2 : w18.cell? ⟨gb212, 2, none⟩ = some (.int .i64 0) := (blk_cell BK212.out 2).trans rfl
          have hcz28_3 : w18.cell? ⟨gb212, 3, none⟩ = some (.int .i64 0) := (blk_cell BK212.out 3).trans rfl
          have hcz28_4 : w18.cell? ⟨gb212, 4, none⟩ = some (.int .i64 0) := (blk_cell BK212.out 4).trans rfl
          have hcz28_5 : w18.cell? ⟨gb212, 5, none⟩ = some (.int .i64 0) := (blk_cell BK212.out 5).trans rfl
          have hcz28_6 : w18.cell? ⟨gb212, 6, none⟩ = some (.int .i64 0) := (blk_cell BK212.out 6).trans rfl
          have hcz28_7 : w18.cell? ⟨gb212, 7, none⟩ = some (.int .i64 0) := (blk_cell BK212.out 7).trans rfl
          have hcz28_8 : w18.cell? ⟨gb212, 8, none⟩ = some (.int .i64 0) := (blk_cell BK212.out 8).trans rfl
          have hcz28_9 : w18.cell? ⟨gb212, 9, none⟩ = some (.int .i64 0) := (blk_cell BK212.out 9).trans rfl
          have hcz28_10 : w18.cell? ⟨gb212, 10, none⟩ = some (.int .i64 0) := (blk_cell BK212.out 10).trans rfl
          have hcz28_11 : w18.cell? ⟨gb212, 11, none⟩ = some (.int .i64 0) := (blk_cell BK212.out 11).trans rfl
          have hfz28_0 := blk_frozen BK212.out 0
          have hfz28_1 := blk_frozen BK212.out 1
          have hfz28_2 := blk_frozen BK212.out 2
          have hfz28_3 := blk_frozen BK212.out 3
          have hfz28_4 := blk_frozen BK212.out 4
          have hfz28_5 := blk_frozen BK212.out 5
          have hfz28_6 := blk_frozen BK212.out 6
          have hfz28_7 := blk_frozen BK212.out 7
          have hfz28_8 := blk_frozen BK212.out 8
          have hfz28_9 := blk_frozen BK212.out 9
          have hfz28_10 := blk_frozen BK212.out 10
          have hfz28_11 := blk_frozen BK212.out 11
          go_wp2
          repeat (go_quiet (fail); try go_wp2)
          go_meet
          case rel => exact ⟨_, (true), (by first | rfl | (simp; done) | (simp [*]; done)), H', ⟨by have := HJ5.out; first | omega | exact Nat.le_refl _⟩, ⟨by (with_reducible repeat (first | refine blk_drewN ?_ _ | refine blk_drew ?_ | refine blk_alloc ?_ _)); refine blk_put (cs := #[.int .i64 t200, .int .i64 t201, .int .i64 t202, .int .i64 t203, .int .i64 t204, .int .i64 t205, .int .i64 t206, .int .i64 t207, .int .i64 t208, .int .i64 t209, .int .i64 t210, .int .i64 0]) ?_ 11 _ rfl; (with_reducible repeat (first | refine blk_drewN ?_ _ | refine blk_drew ?_ | refine blk_alloc ?_ _)); refine blk_put (cs := #[.int .i64 t200, .int .i64 t201, .int .i64 t202, .int .i64 t203, .int .i64 t204, .int .i64 t205, .int .i64 t206, .int .i64 t207, .int .i64 t208, .int .i64 t209, .int .i64 0, .int .i64 0]) ?_ 10 _ rfl; (with_reducible repeat (first | refine blk_drewN ?_ _ | refine blk_drew ?_ | refine blk_alloc ?_ _)); refine blk_put (cs := #[.int .i64 t200, .int .i64 t201, .int .i64 t202, .int .i64 t203, .int .i64 t204, .int .i64 t205, .int .i64 t206, .int .i64 t207, .int .i64 t208, .int .i64 0, .int .i64 0, .int .i64 0]) ?_ 9 _ rfl; (with_reducible repeat (first | refine blk_drewN ?_ _ | refine blk_drew ?_ | refine blk_alloc ?_ _)); refine blk_put (cs := #[.int .i64 t200, .int .i64 t201, .int .i64 t202, .int .i64 t203, .int .i64 t204, .int .i64 t205, .int .i64 t206, .int .i64 t207, .int .i64 0, .int .i64 0, .int .i64 0, .int .i64 0]) ?_ 8 _ rfl; (with_reducible repeat (first | refine blk_drewN ?_ _ | refine blk_drew ?_ | refine blk_alloc ?_ _)); refine blk_put (cs := #[.int .i64 t200, .int .i64 t201, .int .i64 t202, .int .i64 t203, .int .i64 t204, .int .i64 t205, .int .i64 t206, .int .i64 0, .int .i64 0, .int .i64 0, .int .i64 0, .int .i64 0]) ?_ 7 _ rfl; (with_reducible repeat (first | refine blk_drewN ?_ _ | refine blk_drew ?_ | refine blk_alloc ?_ _)); refine blk_put (cs := #[.int .i64 t200, .int .i64 t201, .int .i64 t202, .int .i64 t203, .int .i64 t204, .int .i64 t205, .int .i64 0, .int .i64 0, .int .i64 0, .int .i64 0, .int .i64 0, .int .i64 0]) ?_ 6 _ rfl; (with_reducible repeat (first | refine blk_drewN ?_ _ | refine blk_drew ?_ | refine blk_alloc ?_ _)); refine blk_put (cs := #[.int .i64 t200, .int .i64 t201, .int .i64 t202, .int .i64 t203, .int .i64 t204, .int .i64 0, .int .i64 0, .int .i64 0, .int .i64 0, .int .i64 0, .int .i64 0, .int .i64 0]) ?_ 5 _ rfl; (with_reducible repeat (first | refine blk_drewN ?_ _ | refine blk_drew ?_ | refine blk_alloc ?_ _)); refine blk_put (cs := #[.int .i64 t200, .int .i64 t201, .int .i64 t202, .int .i64 t203, .int .i64 0, .int .i64 0, .int .i64 0, .int .i64 0, .int .i64 0, .int .i64 0, .int .i64 0, .int .i64 0]) ?_ 4 _ rfl; (with_reducible repeat (first | refine blk_drewN ?_ _ | refine blk_drew ?_ | refine blk_alloc ?_ _)); refine blk_put (cs := #[.int .i64 t200, .int .i64 t201, .int .i64 t202, .int .i64 0, .int .i64 0, .int .i64 0, .int .i64 0, .int .i64 0, .int .i64 0, .int .i64 0, .int .i64 0, .int .i64 0]) ?_ 3 _ rfl; (with_reducible repeat (first | refine blk_drewN ?_ _ | refine blk_drew ?_ | refine blk_alloc ?_ _)); refine blk_put (cs := #[.int .i64 t200, .int .i64 t201, .int .i64 0, .int .i64 0, .int .i64 0, .int .i64 0, .int .i64 0, .int .i64 0, .int .i64 0, .int .i64 0, .int .i64 0, .int .i64 0]) ?_ 2 _ rfl; (with_reducible repeat (first | refine blk_drewN ?_ _ | refine blk_drew ?_ | refine blk_alloc ?_ _)); refine blk_put (cs := #[.int .i64 t200, .int .i64 0, .int .i64 0, .int .i64 0, .int .i64 0, .int .i64 0, .int .i64 0, .int .i64 0, .int .i64 0, .int .i64 0, .int .i64 0, .int .i64 0]) ?_ 1 _ rfl; (with_reducible repeat (first | refine blk_drewN ?_ _ | refine blk_drew ?_ | refine blk_alloc ?_ _)); refine blk_put (cs := #[.int .i64 0, .int .i64 0, .int .i64 0, .int .i64 0, .int .i64 0, .int .i64 0, .int .i64 0, .int .i64 0, .int .i64 0, .int .i64 0, .int .i64 0, .int .i64 0]) ?_ 0 _ rfl; (with_reducible repeat (first | refine blk_drewN ?_ _ | refine blk_drew ?_ | refine blk_alloc ?_ _)); exact BK212.out⟩, ⟨by repeat (first | (with_reducible first | exact HB.out | apply below_alloc | apply pw_below_drewN | apply below_drew1 | refine below_set ?_ GE212.out) | exact HB.out)⟩⟩
        case rest =>
         clear HC15
         try clear c1
         try clear q1
         try clear c2
         try clear p2
         try clear q2
         try clear hx2
         try clear c4
         try clear c5
         try clear p6
         try clear c8
         try clear c8b0
         try clear c8b1
         try clear c9
         try clear c10
         try clear c10b0
         try clear c10b1
         try clear c12
         try clear c12b0
         try clear c12b1
         try clear c13
         try clear c13b0
         try clear c13b1
         try clear q16
         try clear c20
         try clear c20b0
         try clear c20b1
         try clear c21
         try clear c21b0
         try clear c21b1
         try clear c21b2
         try clear p21
         try clear q21
         try clear hx21
         try clear c23
         try clear c23b0
         try clear c24
         try clear c24b0
         try clear c24b1
         try clear hcz19_0
         try clear hcz19_1
         try clear hcz19_10
         try clear hcz19_11
         try clear hcz19_2
         try clear hcz19_3
         try clear hcz19_4
         try clear hcz19_5
         try clear hcz19_6
         try clear hcz19_7
         try clear hcz19_8
         try clear hcz19_9
         try clear hcz22_0
         try clear hcz22_1
         try clear hcz22_10
         try clear hcz22_11
         try clear hcz22_2
         try clear hcz22_3
         try clear hcz22_4
         try clear hcz22_5
         try clear hcz22_6
         try clear hcz22_7
         try clear hcz22_8
         try clear hcz22_9
         try clear hcz25_0
         try clear hcz25_1
         try clear hcz25_10
         try clear hcz25_11
         try clear hcz25_2
         try clear hcz25_3
         try clear hcz25_4
         try clear hcz25_5
         try clear hcz25_6
         try clear hcz25_7
         try clear hcz25_8
         try clear hcz25_9
         try clear hcz26_0
         try clear hcz26_1
         try clear hcz26_10
         try clear hcz26_11
         try clear hcz26_2
         try clear hcz26_3
         try clear hcz26_4
         try clear hcz26_5
         try clear hcz26_6
         try clear hcz26_7
         try clear hcz26_8
         try clear hcz26_9
         try clear hcz27_0
         try clear hcz27_1
         try clear hcz27_10
         try clear hcz27_11
         try clear hcz27_2
         try clear hcz27_3
         try clear hcz27_4
         try clear hcz27_5
         try clear hcz27_6
         try clear hcz27_7
         try clear hcz27_8
         try clear hcz27_9
         try clear hcz28_0
         try clear hcz28_1
         try clear hcz28_10
         try clear hcz28_11
         try clear hcz28_2
         try clear hcz28_3
         try clear hcz28_4
         try clear hcz28_5
         try clear hcz28_6
         try clear hcz28_7
         try clear hcz28_8
         try clear hcz28_9
         try clear hfz19_0
         try clear hfz19_1
         try clear hfz19_10
         try clear hfz19_11
         try clear hfz19_2
         try clear hfz19_3
         try clear hfz19_4
         try clear hfz19_5
         try clear hfz19_6
         try clear hfz19_7
         try clear hfz19_8
         try clear hfz19_9
         try clear hfz22_0
         try clear hfz22_1
         try clear hfz22_10
         try clear hfz22_11
         try clear hfz22_2
         try clear hfz22_3
         try clear hfz22_4
         try clear hfz22_5
         try clear hfz22_6
         try clear hfz22_7
         try clear hfz22_8
         try clear hfz22_9
         try clear hfz25_0
         try clear hfz25_1
         try clear hfz25_10
         try clear hfz25_11
         try clear hfz25_2
         try clear hfz25_3
         try clear hfz25_4
         try clear hfz25_5
         try clear hfz25_6
         try clear hfz25_7
         try clear hfz25_8
         try clear hfz25_9
         try clear hfz26_0
         try clear hfz26_1
         try clear hfz26_10
         try clear hfz26_11
         try clear hfz26_2
         try clear hfz26_3
         try clear hfz26_4
         try clear hfz26_5
         try clear hfz26_6
         try clear hfz26_7
         try clear hfz26_8
         try clear hfz26_9
         try clear hfz27_0
         try clear hfz27_1
         try clear hfz27_10
         try clear hfz27_11
         try clear hfz27_2
         try clear hfz27_3
         try clear hfz27_4
         try clear hfz27_5
         try clear hfz27_6
         try clear hfz27_7
         try clear hfz27_8
         try clear hfz27_9
         try clear hfz28_0
         try clear hfz28_1
         try clear hfz28_10
         try clear hfz28_11
         try clear hfz28_2
         try clear hfz28_3
         try clear hfz28_4
         try clear hfz28_5
         try clear hfz28_6
         try clear hfz28_7
         try clear hfz28_8
         try clear hfz28_9
         try clear hx213_0
         try clear hx213_1
         try clear hx213_2
         try clear hx213_3
         try clear hx213_4
         try clear p2
         try clear p213
         try clear q16
         try clear q213
         obtain ⟨kq, x72_14, rfl, HA, HJ14, BK212, HB⟩ := hcut
         cases kq with
         | zero => exact absurd HA.out (by simp [palletlaw23_DiffCuts.j1])
         | succ kj14 =>
          have H := HA.out
          clear HA
          simp only [palletlaw23_DiffCuts.j1] at H
          by_cases c29 : x72_14 = true
          ·subst c29
           have H1 : (some false) = some r := by rw [if_pos rfl] at H; exact H
           clear H
           have H := H1
           clear H1
           obtain rfl := Option.some.inj H
           exact absurd hr_.out (by decide)
          ·replace c29 := Bool.eq_false_iff.mpr c29
           subst c29
           have H1 : (if true = true then (if 0 ≤ ji11 then (if ji11 ≤ (l0.length : Int) then ((diff_Prefix.f kj14 (l0.take (ji11 : Int).toNat) l1).bind fun t218 => ((diff_Prefix.f kj14 l0 l1).bind fun t219 => (some (t218 == (mn ji11 t219))))) else (none)) else (none)) else (some false)) = some r := by rw [if_neg (show ¬ (false = true) by decide)] at H; exact H
           clear H
           have H := H1
           clear H1
           have H1 : (if 0 ≤ ji11 then (if ji11 ≤ (l0.length : Int) then ((diff_Prefix.f kj14 (l0.take (ji11 : Int).toNat) l1).bind fun t218 => ((diff_Prefix.f kj14 l0 l1).bind fun t219 => (some (t218 == (mn ji11 t219))))) else (none)) else (none)) = some r := by first | (rw [if_pos rfl] at H; exact H) | exact H
           clear H
           have H := H1
           clear H1
           by_cases c30 : 0 ≤ ji11
           ·rw [if_pos c30] at H
            have c30b0 := eq_true c30
            have c30b1 : decide (0 ≤ ji11) = true := decide_eq_true c30
            clear c30
            by_cases c31 : ji11 ≤ (l0.length : Int)
            ·rw [if_pos c31] at H
             have c31b0 := eq_true c31
             have c31b1 : decide (ji11 ≤ (l0.length : Int)) = true := decide_eq_true c31
             clear c31
             obtain ⟨y214, hy214⟩ : ∃ y_ : List (S25), y_ = (l0.take (ji11 : Int).toNat) := ⟨_, rfl⟩
             replace H : ((diff_Prefix.f kj14 y214 l1).bind fun t218 => ((diff_Prefix.f kj14 l0 l1).bind fun t219 => (some (t218 == (mn ji11 t219))))) = some r := by first | (rw [hy214]; with_reducible exact H) | (have H2_ := (Option.bind_some _ _).symm.trans H; rw [hy214]; with_reducible exact H2_) | (have H2_ := (Option.bind_some _ _).symm.trans H; with_reducible exact H2_) | with_reducible exact H | (rw [hy214]; exact H) | exact H
             have Ny214 := Aside0.mk hy214
             clear hy214
             replace H := Option.bind_eq_some_iff.mp H
             obtain ⟨t218, A320, H⟩ := H
             replace H : ((diff_Prefix.f kj14 l0 l1).bind fun t219 => (some (t218 == (mn ji11 t219)))) = some r := H
             have A32 := Aside0.mk A320
             clear A320
             replace H := Option.bind_eq_some_iff.mp H
             obtain ⟨t219, A330, H⟩ := H
             replace H : (some (t218 == (mn ji11 t219))) = some r := H
             have A33 := Aside0.mk A330
             clear A330
             obtain ⟨ji34, hji34⟩ : ∃ j_ : Int, (mn ji11 t219) = j_ := ⟨_, rfl⟩
             replace H : (some (t218 == (ji34))) = some r := by first | (rw [hji34] at H; exact H) | (simp only [hji34] at H ⊢; exact H)
             (try rw [hji34] at A32)
             (try rw [hji34] at A33)
             have hji34_ : (if t219 < ji11 then t219 else ji11) = ji34 := hji34
             obtain rfl := Option.some.inj H
             have q35 : (ji11 : Int) ≤ ((l0.length : Int) : Int) := of_decide_eq_true (by first | (with_reducible assumption) | assumption)
             obtain ⟨i035, hi035, _, hsz35, _⟩ := info_parts info25
             have hroom35 : l0.length ≤ c0 := HC0.out
             have hC35 : Kd.C k25 _ A0 l0.length l0 := HR0.out
             (try clear hcut16)
             have hcut35 := cut_to (P := Try.prog) 22 25 .i64 Try.underlying22 hi035 A0 l0.length c0 ji11 (of_decide_eq_true (by first | (with_reducible assumption) | assumption)) q35 hroom35
             have hr35 := Kd.C_take (m := (ji11 : Int).toNat) hC35 (by omega)
             have hy35 : y214.length = (ji11 : Int).toNat := (by rw [Ny214.out, List.length_take]; omega)
             rw [← Ny214.out] at hr35
             rw [← hy35] at hcut35
             have HR217 := Aside0.mk hr35
             have HC217 := Aside0.mk (show y214.length ≤ c0 from by omega)
             clear hr35 hC35 hroom35 hi035 hsz35
             have KY35 := Aside0.mk hy35
             clear hy35
             replace q35 := eq_true q35
             go_wp2_with (first | (go_at_call 9; (with_reducible refine (diff_Prefix.calls kj14 _ _ y214 _ _ l1 t218 _ ?side1 ?side2 ?side3 ?side4 A32.out).mono ?_); (case side1 => repeat (first | exact (Kd.C_below HR217.out HB.out) | (with_reducible refine Kd.C_alloc ?_ _) | (with_reducible refine Kd.C_drewN ?_ _) | (with_reducible refine Kd.C_drew ?_))); (case side2 => exact HC217.out); (case side3 => repeat (first | exact (Kd.C_below HR1.out HB.out) | (with_reducible refine Kd.C_alloc ?_ _) | (with_reducible refine Kd.C_drewN ?_ _) | (with_reducible refine Kd.C_drew ?_))); (case side4 => exact HC1.out); rintro e w' ⟨rfl, ⟨nd, rfl⟩⟩; (try first | exact ⟨rfl, _, World.drewN_drewN _ _ _⟩ | exact ⟨rfl, _, Eq.trans (World.drewN_drewN _ _ _) (congrArg (World.drewN _) (Nat.add_assoc _ _ _))⟩)) | (go_at_call 9; (with_reducible refine (diff_Prefix.calls kj14 _ _ l0 _ _ l1 t219 _ ?side1 ?side2 ?side3 ?side4 A33.out).mono ?_); (case side1 => repeat (first | exact (Kd.C_below HR0.out (by repeat (first | (with_reducible first | exact HB.out | apply below_alloc | apply pw_below_drewN | apply below_drew1 | refine below_set ?_ GE212.out) | exact HB.out))) | (with_reducible refine Kd.C_alloc ?_ _) | (with_reducible refine Kd.C_drewN ?_ _) | (with_reducible refine Kd.C_drew ?_))); (case side2 => exact HC0.out); (case side3 => repeat (first | exact (Kd.C_below HR1.out (by repeat (first | (with_reducible first | exact HB.out | apply below_alloc | apply pw_below_drewN | apply below_drew1 | refine below_set ?_ GE212.out) | exact HB.out))) | (with_reducible refine Kd.C_alloc ?_ _) | (with_reducible refine Kd.C_drewN ?_ _) | (with_reducible refine Kd.C_drew ?_))); (case side4 => exact HC1.out); rintro e w' ⟨rfl, ⟨nd, rfl⟩⟩; (try first | exact ⟨rfl, _, World.drewN_drewN _ _ _⟩ | exact ⟨rfl, _, Eq.trans (World.drewN_drewN _ _ _) (congrArg (World.drewN _) (Nat.add_assoc _ _ _))⟩)))
             repeat (go_quiet (first | (go_at_call 9; (with_reducible refine (diff_Prefix.calls kj14 _ _ y214 _ _ l1 t218 _ ?side1 ?side2 ?side3 ?side4 A32.out).mono ?_); (case side1 => repeat (first | exact (Kd.C_below HR217.out HB.out) | (with_reducible refine Kd.C_alloc ?_ _) | (with_reducible refine Kd.C_drewN ?_ _) | (with_reducible refine Kd.C_drew ?_))); (case side2 => exact HC217.out); (case side3 => repeat (first | exact (Kd.C_below HR1.out HB.out) | (with_reducible refine Kd.C_alloc ?_ _) | (with_reducible refine Kd.C_drewN ?_ _) | (with_reducible refine Kd.C_drew ?_))); (case side4 => exact HC1.out); rintro e w' ⟨rfl, ⟨nd, rfl⟩⟩; (try first | exact ⟨rfl, _, World.drewN_drewN _ _ _⟩ | exact ⟨rfl, _, Eq.trans (World.drewN_drewN _ _ _) (congrArg (World.drewN _) (Nat.add_assoc _ _ _))⟩)) | (go_at_call 9; (with_reducible refine (diff_Prefix.calls kj14 _ _ l0 _ _ l1 t219 _ ?side1 ?side2 ?side3 ?side4 A33.out).mono ?_); (case side1 => repeat (first | exact (Kd.C_below HR0.out (by repeat (first | (with_reducible first | exact HB.out | apply below_alloc | apply pw_below_drewN | apply below_drew1 | refine below_set ?_ GE212.out) | exact HB.out))) | (with_reducible refine Kd.C_alloc ?_ _) | (with_reducible refine Kd.C_drewN ?_ _) | (with_reducible refine Kd.C_drew ?_))); (case side2 => exact HC0.out); (case side3 => repeat (first | exact (Kd.C_below HR1.out (by repeat (first | (with_reducible first | exact HB.out | apply below_alloc | apply pw_below_drewN | apply below_drew1 | refine below_set ?_ GE212.out) | exact HB.out))) | (with_reducible refine Kd.C_alloc ?_ _) | (with_reducible refine Kd.C_drewN ?_ _) | (with_reducible refine Kd.C_drew ?_))); (case side4 => exact HC1.out); rintro e w' ⟨rfl, ⟨nd, rfl⟩⟩; (try first | exact ⟨rfl, _, World.drewN_drewN _ _ _⟩ | exact ⟨rfl, _, Eq.trans (World.drewN_drewN _ _ _) (congrArg (World.drewN _) (Nat.add_assoc _ _ _))⟩))); try go_wp2_with (first | (go_at_call 9; (with_reducible refine (diff_Prefix.calls kj14 _ _ y214 _ _ l1 t218 _ ?side1 ?side2 ?side3 ?side4 A32.out).mono ?_); (case side1 => repeat (first | exact (Kd.C_below HR217.out HB.out) | (with_reducible refine Kd.C_alloc ?_ _) | (with_reducible refine Kd.C_drewN ?_ _) | (with_reducible refine Kd.C_drew ?_))); (case side2 => exact HC217.out); (case side3 => repeat (first | exact (Kd.C_below HR1.out HB.out) | (with_reducible refine Kd.C_alloc ?_ _) | (with_reducible refine Kd.C_drewN ?_ _) | (with_reducible refine Kd.C_drew ?_))); (case side4 => exact HC1.out); rintro e w' ⟨rfl, ⟨nd, rfl⟩⟩; (try first | exact ⟨rfl, _, World.drewN_drewN _ _ _⟩ | exact ⟨rfl, _, Eq.trans (World.drewN_drewN _ _ _) (congrArg (World.drewN _) (Nat.add_assoc _ _ _))⟩)) | (go_at_call 9; (with_reducible refine (diff_Prefix.calls kj14 _ _ l0 _ _ l1 t219 _ ?side1 ?side2 ?side3 ?side4 A33.out).mono ?_); (case side1 => repeat (first | exact (Kd.C_below HR0.out (by repeat (first | (with_reducible first | exact HB.out | apply below_alloc | apply pw_below_drewN | apply below_drew1 | refine below_set ?_ GE212.out) | exact HB.out))) | (with_reducible refine Kd.C_alloc ?_ _) | (with_reducible refine Kd.C_drewN ?_ _) | (with_reducible refine Kd.C_drew ?_))); (case side2 => exact HC0.out); (case side3 => repeat (first | exact (Kd.C_below HR1.out (by repeat (first | (with_reducible first | exact HB.out | apply below_alloc | apply pw_below_drewN | apply below_drew1 | refine below_set ?_ GE212.out) | exact HB.out))) | (with_reducible refine Kd.C_alloc ?_ _) | (with_reducible refine Kd.C_drewN ?_ _) | (with_reducible refine Kd.C_drew ?_))); (case side4 => exact HC1.out); rintro e w' ⟨rfl, ⟨nd, rfl⟩⟩; (try first | exact ⟨rfl, _, World.drewN_drewN _ _ _⟩ | exact ⟨rfl, _, Eq.trans (World.drewN_drewN _ _ _) (congrArg (World.drewN _) (Nat.add_assoc _ _ _))⟩))))
             go_ret
             exact ⟨by first | rfl | (simp [errW_none, errW_some] <;> rfl) | (simp only [← hji11, ← hji34]; first | rfl | (simp [errW_none, errW_some] <;> rfl)) | (simp [*, errW_none, errW_some] <;> rfl), by repeat (first | (with_reducible first | exact HB.out | apply below_alloc | apply pw_below_drewN | apply below_drew1 | refine below_set ?_ GE212.out) | exact HB.out)⟩
            ·rw [if_neg c31] at H
             exact absurd H (by simp)
           ·rw [if_neg c30] at H
            exact absurd H (by simp)
       ·rw [if_neg c13] at H
        exact absurd H (by simp)
      ·rw [if_neg c12] at H
       exact absurd H (by simp)
 ·replace c5 := Bool.eq_false_iff.mpr c5
  subst c5
  have H1 : (some false) = some r := by rw [if_neg (show ¬ (false = true) by decide)] at H; exact H
  clear H
  have H := H1
  clear H1
  obtain rfl := Option.some.inj H
  exact absurd hr_.out (by decide)

end Go.Proofs.Ytpjfdnifliekiaa.Print
