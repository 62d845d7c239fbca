-- PRINTED by print.py (a twelfth state) out of the translation. Not trusted: Lean checks it.
import Derived.Test.YtpfkiljakiiieaaPrint0
import Derived.Test.YtpfkiljakiiieaaPrint3
import Derived.Test.YtpfkiljakiiieaaPrint5
import Derived.Test.YtpfkiljakiiieaaPrint7
import Derived.Test.YtpfkiljakiiieaaPrint8
import Derived.Test.YtpfkiljakiiieaaPrint14
import Derived.Test.YtpfkiljakiiieaaPrint15
namespace Go.Proofs.Ytpfkiljakiiieaa.Print
open Go.RowKit Go.Proofs.YtpfkiljakiiieaaW.PrintWords Go.Proofs.YtpfkiljakiiieaaW.PrintLast Go.Proofs.YtpfkiljakiiieaaW.PrintMore Go.Proofs.YtpfkiljakiiieaaX
attribute [local go_sem] max2_int min2_int max_two min_two max_three min_three max_four min_four   -- for this text's walks alone
set_option linter.unusedVariables false
set_option linter.unusedSimpArgs false

/-! ### palletlaw07_MedlFinds: function 8 -/
def palletlaw07_MedlFinds.f (k : Nat) (a0_0 : Int) (a0_1 : Int) (a0_2 : Int) (a0_3 : Int) (a0_4 : Int) (a1 : Int) (a2 : Int) (a3 : Int) : Option (Bool) := (palletlaw07_live.f).bind fun t253 => (if t253 = true then ((medl_At.f k a0_0 a0_1 a0_2 a0_3 a0_4 a2).bind fun bt254 => ((palletref07_At.f k a0_0 a0_1 a0_2 a0_3 a0_4 a2).bind fun bt257 => ((medl_Off.f a0_0 a0_1 a0_2 a0_3 a0_4 a2).bind fun bt260 => ((palletref07_Off.f k a0_0 a0_1 a0_2 a0_3 a0_4 a2).bind fun bt263 => ((medl_Next.f k a0_0 a0_1 a0_2 a0_3 a0_4 a1 a3).bind fun bt266 => ((palletref07_Next.f k a0_0 a0_1 a0_2 a0_3 a0_4 a1 a3).bind fun bt268 => (if bt254.1 = bt257.1 then (if bt254.2.1 = bt257.2.1 then (if bt254.2.2 = bt257.2.2 then (if bt260.1 = bt263.1 then (if (bt260.2.1 == bt263.2.1) = true then (if bt260.2.2 = bt263.2.2 then (if bt266.1 = bt268.1 then (some (bt266.2 == bt268.2)) else (some false)) else (some false)) else (some false)) else (some false)) else (some false)) else (some false)) else (some false)))))))) else (some false))
theorem palletlaw07_MedlFinds.mono : ∀ a0 a1 a2 a3 a4 a5 a6 a7 k, LeO (palletlaw07_MedlFinds.f k a0 a1 a2 a3 a4 a5 a6 a7) (palletlaw07_MedlFinds.f (k + 1) a0 a1 a2 a3 a4 a5 a6 a7) := by
  intro a0 a1 a2 a3 a4 a5 a6 a7 k
  unfold palletlaw07_MedlFinds.f
  repeat' first
      | (with_reducible exact medl_At.mono _ _ _ _ _ _ _)
      | (with_reducible exact medl_Next.mono _ _ _ _ _ _ _ _)
      | (with_reducible exact palletref07_At.mono _ _ _ _ _ _ _)
      | (with_reducible exact palletref07_Next.mono _ _ _ _ _ _ _ _)
      | (with_reducible exact palletref07_Off.mono _ _ _ _ _ _ _)
      | (with_reducible exact LeO.refl _)
      | (with_reducible exact LeO.none _)
      | (with_reducible refine LeO.ite ?_ ?_)
      | (with_reducible refine LeO.bind ?_ (fun _ => ?_))
      | exact medl_At.mono _ _ _ _ _ _ _
      | exact medl_Next.mono _ _ _ _ _ _ _ _
      | exact palletref07_At.mono _ _ _ _ _ _ _
      | exact palletref07_Next.mono _ _ _ _ _ _ _ _
      | exact palletref07_Off.mono _ _ _ _ _ _ _
      | exact LeO.none _
      | refine LeO.ite ?_ ?_
      | refine LeO.bind ?_ (fun _ => ?_)
set_option maxHeartbeats 8000000 in
set_option maxRecDepth 100000 in
theorem palletlaw07_MedlFinds.calls (k : Nat) (a0_0 : Int) (a0_1 : Int) (a0_2 : Int) (a0_3 : Int) (a0_4 : Int) (a1 : Int) (a2 : Int) (a3 : Int) (r : Bool) (w : World) (hr_ : Aside0 (r = true)) (h : palletlaw07_MedlFinds.f k a0_0 a0_1 a0_2 a0_3 a0_4 a1 a2 a3 = some r) :
    Calls Try.prog 8 #[.agg #[.int .i64 a0_0, .int .i64 a0_1, .int .i64 a0_2, .int .i64 a0_3, .int .i64 a0_4], .int .u64 a1, .int .i64 a2, .int .i64 a3] w fun e w' => e = .returned (.bool r) ∧ Below w.heap.size w w' := by
  have hu23 := Try.underlying23
  have HB := Aside0.mk (Below.refl w.heap.size w)
  have H : ((palletlaw07_live.f).bind fun t253 => (if t253 = true then ((medl_At.f k a0_0 a0_1 a0_2 a0_3 a0_4 a2).bind fun bt254 => ((palletref07_At.f k a0_0 a0_1 a0_2 a0_3 a0_4 a2).bind fun bt257 => ((medl_Off.f a0_0 a0_1 a0_2 a0_3 a0_4 a2).bind fun bt260 => ((palletref07_Off.f k a0_0 a0_1 a0_2 a0_3 a0_4 a2).bind fun bt263 => ((medl_Next.f k a0_0 a0_1 a0_2 a0_3 a0_4 a1 a3).bind fun bt266 => ((palletref07_Next.f k a0_0 a0_1 a0_2 a0_3 a0_4 a1 a3).bind fun bt268 => (if bt254.1 = bt257.1 then (if bt254.2.1 = bt257.2.1 then (if bt254.2.2 = bt257.2.2 then (if bt260.1 = bt263.1 then (if (bt260.2.1 == bt263.2.1) = true then (if bt260.2.2 = bt263.2.2 then (if bt266.1 = bt268.1 then (some (bt266.2 == bt268.2)) else (some false)) else (some false)) else (some false)) else (some false)) else (some false)) else (some false)) else (some false)))))))) else (some false))) = some r := h
  clear h
  replace H := Option.bind_eq_some_iff.mp H
  obtain ⟨t253, A50, H⟩ := H
  replace H : (if t253 = true then ((medl_At.f k a0_0 a0_1 a0_2 a0_3 a0_4 a2).bind fun bt254 => ((palletref07_At.f k a0_0 a0_1 a0_2 a0_3 a0_4 a2).bind fun bt257 => ((medl_Off.f a0_0 a0_1 a0_2 a0_3 a0_4 a2).bind fun bt260 => ((palletref07_Off.f k a0_0 a0_1 a0_2 a0_3 a0_4 a2).bind fun bt263 => ((medl_Next.f k a0_0 a0_1 a0_2 a0_3 a0_4 a1 a3).bind fun bt266 => ((palletref07_Next.f k a0_0 a0_1 a0_2 a0_3 a0_4 a1 a3).bind fun bt268 => (if bt254.1 = bt257.1 then (if bt254.2.1 = bt257.2.1 then (if bt254.2.2 = bt257.2.2 then (if bt260.1 = bt263.1 then (if (bt260.2.1 == bt263.2.1) = true then (if bt260.2.2 = bt263.2.2 then (if bt266.1 = bt268.1 then (some (bt266.2 == bt268.2)) else (some false)) else (some false)) else (some false)) else (some false)) else (some false)) else (some false)) else (some false)))))))) else (some false)) = some r := H
  have A5 := Aside0.mk A50
  clear A50
  by_cases c6 : t253 = true
  · subst c6
    have H1 : ((medl_At.f k a0_0 a0_1 a0_2 a0_3 a0_4 a2).bind fun bt254 => ((palletref07_At.f k a0_0 a0_1 a0_2 a0_3 a0_4 a2).bind fun bt257 => ((medl_Off.f a0_0 a0_1 a0_2 a0_3 a0_4 a2).bind fun bt260 => ((palletref07_Off.f k a0_0 a0_1 a0_2 a0_3 a0_4 a2).bind fun bt263 => ((medl_Next.f k a0_0 a0_1 a0_2 a0_3 a0_4 a1 a3).bind fun bt266 => ((palletref07_Next.f k a0_0 a0_1 a0_2 a0_3 a0_4 a1 a3).bind fun bt268 => (if bt254.1 = bt257.1 then (if bt254.2.1 = bt257.2.1 then (if bt254.2.2 = bt257.2.2 then (if bt260.1 = bt263.1 then (if (bt260.2.1 == bt263.2.1) = true then (if bt260.2.2 = bt263.2.2 then (if bt266.1 = bt268.1 then (some (bt266.2 == bt268.2)) else (some false)) else (some false)) else (some false)) else (some false)) else (some false)) else (some false)) else (some false)))))))) = some r := by rw [if_pos rfl] at H; exact H
    clear H
    have H := H1
    clear H1
    replace H := Option.bind_eq_some_iff.mp H
    obtain ⟨⟨t254, t255, t256⟩, A70, H⟩ := H
    replace H : ((palletref07_At.f k a0_0 a0_1 a0_2 a0_3 a0_4 a2).bind fun bt257 => ((medl_Off.f a0_0 a0_1 a0_2 a0_3 a0_4 a2).bind fun bt260 => ((palletref07_Off.f k a0_0 a0_1 a0_2 a0_3 a0_4 a2).bind fun bt263 => ((medl_Next.f k a0_0 a0_1 a0_2 a0_3 a0_4 a1 a3).bind fun bt266 => ((palletref07_Next.f k a0_0 a0_1 a0_2 a0_3 a0_4 a1 a3).bind fun bt268 => (if t254 = bt257.1 then (if t255 = bt257.2.1 then (if t256 = bt257.2.2 then (if bt260.1 = bt263.1 then (if (bt260.2.1 == bt263.2.1) = true then (if bt260.2.2 = bt263.2.2 then (if bt266.1 = bt268.1 then (some (bt266.2 == bt268.2)) else (some false)) else (some false)) else (some false)) else (some false)) else (some false)) else (some false)) else (some false))))))) = some r := H
    have A7 := Aside0.mk A70
    clear A70
    replace H := Option.bind_eq_some_iff.mp H
    obtain ⟨⟨t257, t258, t259⟩, A80, H⟩ := H
    replace H : ((medl_Off.f a0_0 a0_1 a0_2 a0_3 a0_4 a2).bind fun bt260 => ((palletref07_Off.f k a0_0 a0_1 a0_2 a0_3 a0_4 a2).bind fun bt263 => ((medl_Next.f k a0_0 a0_1 a0_2 a0_3 a0_4 a1 a3).bind fun bt266 => ((palletref07_Next.f k a0_0 a0_1 a0_2 a0_3 a0_4 a1 a3).bind fun bt268 => (if t254 = t257 then (if t255 = t258 then (if t256 = t259 then (if bt260.1 = bt263.1 then (if (bt260.2.1 == bt263.2.1) = true then (if bt260.2.2 = bt263.2.2 then (if bt266.1 = bt268.1 then (some (bt266.2 == bt268.2)) else (some false)) else (some false)) else (some false)) else (some false)) else (some false)) else (some false)) else (some false)))))) = some r := H
    have A8 := Aside0.mk A80
    clear A80
    replace H := Option.bind_eq_some_iff.mp H
    obtain ⟨⟨t260, t261, t262⟩, A90, H⟩ := H
    replace H : ((palletref07_Off.f k a0_0 a0_1 a0_2 a0_3 a0_4 a2).bind fun bt263 => ((medl_Next.f k a0_0 a0_1 a0_2 a0_3 a0_4 a1 a3).bind fun bt266 => ((palletref07_Next.f k a0_0 a0_1 a0_2 a0_3 a0_4 a1 a3).bind fun bt268 => (if t254 = t257 then (if t255 = t258 then (if t256 = t259 then (if t260 = bt263.1 then (if (t261 == bt263.2.1) = true then (if t262 = bt263.2.2 then (if bt266.1 = bt268.1 then (some (bt266.2 == bt268.2)) else (some false)) else (some false)) else (some false)) else (some false)) else (some false)) else (some false)) else (some false))))) = some r := H
    have A9 := Aside0.mk A90
    clear A90
    replace H := Option.bind_eq_some_iff.mp H
    obtain ⟨⟨t263, t264, t265⟩, A100, H⟩ := H
    replace H : ((medl_Next.f k a0_0 a0_1 a0_2 a0_3 a0_4 a1 a3).bind fun bt266 => ((palletref07_Next.f k a0_0 a0_1 a0_2 a0_3 a0_4 a1 a3).bind fun bt268 => (if t254 = t257 then (if t255 = t258 then (if t256 = t259 then (if t260 = t263 then (if (t261 == t264) = true then (if t262 = t265 then (if bt266.1 = bt268.1 then (some (bt266.2 == bt268.2)) else (some false)) else (some false)) else (some false)) else (some false)) else (some false)) else (some false)) else (some false)))) = some r := H
    have A10 := Aside0.mk A100
    clear A100
    replace H := Option.bind_eq_some_iff.mp H
    obtain ⟨⟨t266, t267⟩, A110, H⟩ := H
    replace H : ((palletref07_Next.f k a0_0 a0_1 a0_2 a0_3 a0_4 a1 a3).bind fun bt268 => (if t254 = t257 then (if t255 = t258 then (if t256 = t259 then (if t260 = t263 then (if (t261 == t264) = true then (if t262 = t265 then (if t266 = bt268.1 then (some (t267 == bt268.2)) else (some false)) else (some false)) else (some false)) else (some false)) else (some false)) else (some false)) else (some false))) = some r := H
    have A11 := Aside0.mk A110
    clear A110
    replace H := Option.bind_eq_some_iff.mp H
    obtain ⟨⟨t268, t269⟩, A120, H⟩ := H
    replace H : (if t254 = t257 then (if t255 = t258 then (if t256 = t259 then (if t260 = t263 then (if (t261 == t264) = true then (if t262 = t265 then (if t266 = t268 then (some (t267 == t269)) else (some false)) else (some false)) else (some false)) else (some false)) else (some false)) else (some false)) else (some false)) = some r := H
    have A12 := Aside0.mk A120
    clear A120
    by_cases c13 : t254 = t257
    · rw [if_pos c13] at H
      have c13b0 : (t254 == t257) = true := beq_iff_eq.mpr c13
      have c13b1 : (t254 != t257) = false := bne_eq_false_iff_eq.mpr c13
      clear c13
      by_cases c14 : t255 = t258
      · rw [if_pos c14] at H
        have c14b0 : (t255 == t258) = true := beq_iff_eq.mpr c14
        have c14b1 : (t255 != t258) = false := bne_eq_false_iff_eq.mpr c14
        clear c14
        by_cases c15 : t256 = t259
        · rw [if_pos c15] at H
          have c15b0 : (t256 == t259) = true := beq_iff_eq.mpr c15
          have c15b1 : (t256 != t259) = false := bne_eq_false_iff_eq.mpr c15
          clear c15
          by_cases c16 : t260 = t263
          · rw [if_pos c16] at H
            have c16b0 : (t260 == t263) = true := beq_iff_eq.mpr c16
            have c16b1 : (t260 != t263) = false := bne_eq_false_iff_eq.mpr c16
            clear c16
            by_cases c17 : (t261 == t264) = true
            · rw [if_pos c17] at H
              have c17b0 : (t261 == t264) = true := c17
              (try (have c17b1 : decide (t261 = t264) = true := by simpa using c17))
              (try (have c17b2 : (t261 == t264) = true := by simpa using c17))
              clear c17
              by_cases c18 : t262 = t265
              · rw [if_pos c18] at H
                have c18b0 : (t262 == t265) = true := beq_iff_eq.mpr c18
                have c18b1 : (t262 != t265) = false := bne_eq_false_iff_eq.mpr c18
                clear c18
                by_cases c19 : t266 = t268
                · rw [if_pos c19] at H
                  have c19b0 : (t266 == t268) = true := beq_iff_eq.mpr c19
                  have c19b1 : (t266 != t268) = false := bne_eq_false_iff_eq.mpr c19
                  clear c19
                  obtain rfl := Option.some.inj H
                  go_enter Try.func8, Try.ntmps8
                  go_wp2_with (first | ((with_reducible refine gate_dst (N := 4) rfl ?_); refine box_event ?hg (N := 4) ?hd (cs := #[.int .i64 a0_0, .int .i64 a0_1, .int .i64 a0_2, .int .i64 a0_3, .int .i64 a0_4]) (t := 23) ?hr ?_; (case hd => rfl); (case hg => rfl); (case hr => first | (go_simp; done) | (go_simp; rfl)); intro gb252 hg w20 hbox hb; have n0_ := Aside0.mk (below_step (by repeat (first | (with_reducible first | exact HB.out | apply below_alloc | apply pw_below_drewN | apply below_drew1) | exact HB.out)) hb); have n1_ := Aside0.mk (hbox); have n2_ := Aside0.mk ((by rw [hg]; exact (below_size (by repeat (first | (with_reducible first | exact HB.out | apply below_alloc | apply pw_below_drewN | apply below_drew1) | exact HB.out))) : w.heap.size ≤ gb252)); have n3_ := Aside0.mk ((by rw [hg]; exact (below_size (by repeat (first | (with_reducible first | exact HB.out | apply below_alloc | apply pw_below_drewN | apply below_drew1) | exact HB.out))) : w.heap.size ≤ gb252)); clear HB; have HB := n0_; have BK252 := n1_; have GW252 := n2_; have GE252 := n3_; clear n0_ n1_ n2_ n3_; clear hb hbox hg) | ((with_reducible refine gate_callee (f := 12) rfl ?_); refine goesL_ (some 26) rfl rfl Try.func12 (by kernel_rfl) rfl #[] rfl (by (try simp only [List.map_toArray, List.map_cons, List.map_nil]); first | done | rfl | (simp only [List.length_drop, List.length_take]; rfl)) ?_; (with_reducible refine (palletlaw07_live.calls  true _ A5.out).mono ?_); rintro e w21 ⟨rfl, hb⟩; refine ⟨_, rfl, ?_⟩; have n0_ := Aside0.mk (blk_below (g := gb252) (o := .cells #[.int .i64 a0_0, .int .i64 a0_1, .int .i64 a0_2, .int .i64 a0_3, .int .i64 a0_4] 23 (0, 0)) (by (with_reducible repeat (first | refine blk_drewN ?_ _ | refine blk_drew ?_ | refine blk_alloc ?_ _)); exact BK252.out) hb); have n1_ := Aside0.mk (below_step (by repeat (first | (with_reducible first | exact HB.out | apply below_alloc | apply pw_below_drewN | apply below_drew1 | refine below_set ?_ GE252.out) | exact HB.out)) hb); clear BK252; clear HB; have BK252 := n0_; have HB := n1_; clear n0_ n1_; (try clear hb); (try clear hb2); (try clear hk); (try clear hi); have hcz22_0 : w21.cell? ⟨gb252, 0, none⟩ = some (.int .i64 a0_0) := (blk_cell BK252.out 0).trans rfl; have hcz22_1 : w21.cell? ⟨gb252, 1, none⟩ = some (.int .i64 a0_1) := (blk_cell BK252.out 1).trans rfl; have hcz22_2 : w21.cell? ⟨gb252, 2, none⟩ = some (.int .i64 a0_2) := (blk_cell BK252.out 2).trans rfl; have hcz22_3 : w21.cell? ⟨gb252, 3, none⟩ = some (.int .i64 a0_3) := (blk_cell BK252.out 3).trans rfl; have hcz22_4 : w21.cell? ⟨gb252, 4, none⟩ = some (.int .i64 a0_4) := (blk_cell BK252.out 4).trans rfl; have hfz22_0 := blk_frozen BK252.out 0; have hfz22_1 := blk_frozen BK252.out 1; have hfz22_2 := blk_frozen BK252.out 2; have hfz22_3 := blk_frozen BK252.out 3; have hfz22_4 := blk_frozen BK252.out 4) | ((with_reducible refine gate_callee (f := 20) rfl ?_); refine goesL_ (some 32) rfl rfl Try.func20 (by kernel_rfl) rfl #[.agg #[.int .i64 a0_0, .int .i64 a0_1, .int .i64 a0_2, .int .i64 a0_3, .int .i64 a0_4], .int .i64 a2] rfl (by (try simp only [List.map_toArray, List.map_cons, List.map_nil]); first | done | rfl | (simp only [List.length_drop, List.length_take]; rfl)) ?_; (with_reducible refine (medl_At.calls k a0_0 a0_1 a0_2 a0_3 a0_4 a2 t254 t255 t256 _ A7.out).mono ?_); rintro e w23 ⟨rfl, hb⟩; refine ⟨_, rfl, ?_⟩; have n0_ := Aside0.mk (blk_below (g := gb252) (o := .cells #[.int .i64 a0_0, .int .i64 a0_1, .int .i64 a0_2, .int .i64 a0_3, .int .i64 a0_4] 23 (0, 0)) (by (with_reducible repeat (first | refine blk_drewN ?_ _ | refine blk_drew ?_ | refine blk_alloc ?_ _)); exact BK252.out) hb); have n1_ := Aside0.mk (below_step (by repeat (first | (with_reducible first | exact HB.out | apply below_alloc | apply pw_below_drewN | apply below_drew1 | refine below_set ?_ GE252.out) | exact HB.out)) hb); clear BK252; clear HB; have BK252 := n0_; have HB := n1_; clear n0_ n1_; (try clear hb); (try clear hb2); (try clear hk); (try clear hi); have hcz24_0 : w23.cell? ⟨gb252, 0, none⟩ = some (.int .i64 a0_0) := (blk_cell BK252.out 0).trans rfl; have hcz24_1 : w23.cell? ⟨gb252, 1, none⟩ = some (.int .i64 a0_1) := (blk_cell BK252.out 1).trans rfl; have hcz24_2 : w23.cell? ⟨gb252, 2, none⟩ = some (.int .i64 a0_2) := (blk_cell BK252.out 2).trans rfl; have hcz24_3 : w23.cell? ⟨gb252, 3, none⟩ = some (.int .i64 a0_3) := (blk_cell BK252.out 3).trans rfl; have hcz24_4 : w23.cell? ⟨gb252, 4, none⟩ = some (.int .i64 a0_4) := (blk_cell BK252.out 4).trans rfl; have hfz24_0 := blk_frozen BK252.out 0; have hfz24_1 := blk_frozen BK252.out 1; have hfz24_2 := blk_frozen BK252.out 2; have hfz24_3 := blk_frozen BK252.out 3; have hfz24_4 := blk_frozen BK252.out 4) | ((with_reducible refine gate_callee (f := 23) rfl ?_); refine goesL_ (some 39) rfl rfl Try.func23 (by kernel_rfl) rfl #[.agg #[.int .i64 a0_0, .int .i64 a0_1, .int .i64 a0_2, .int .i64 a0_3, .int .i64 a0_4], .int .i64 a2] rfl (by (try simp only [List.map_toArray, List.map_cons, List.map_nil]); first | done | rfl | (simp only [List.length_drop, List.length_take]; rfl)) ?_; (with_reducible refine (palletref07_At.calls k a0_0 a0_1 a0_2 a0_3 a0_4 a2 t257 t258 t259 _ A8.out).mono ?_); rintro e w25 ⟨rfl, hb⟩; refine ⟨_, rfl, ?_⟩; have n0_ := Aside0.mk (blk_below (g := gb252) (o := .cells #[.int .i64 a0_0, .int .i64 a0_1, .int .i64 a0_2, .int .i64 a0_3, .int .i64 a0_4] 23 (0, 0)) (by (with_reducible repeat (first | refine blk_drewN ?_ _ | refine blk_drew ?_ | refine blk_alloc ?_ _)); exact BK252.out) hb); have n1_ := Aside0.mk (below_step (by repeat (first | (with_reducible first | exact HB.out | apply below_alloc | apply pw_below_drewN | apply below_drew1 | refine below_set ?_ GE252.out) | exact HB.out)) hb); clear BK252; clear HB; have BK252 := n0_; have HB := n1_; clear n0_ n1_; (try clear hb); (try clear hb2); (try clear hk); (try clear hi); have hcz26_0 : w25.cell? ⟨gb252, 0, none⟩ = some (.int .i64 a0_0) := (blk_cell BK252.out 0).trans rfl; have hcz26_1 : w25.cell? ⟨gb252, 1, none⟩ = some (.int .i64 a0_1) := (blk_cell BK252.out 1).trans rfl; have hcz26_2 : w25.cell? ⟨gb252, 2, none⟩ = some (.int .i64 a0_2) := (blk_cell BK252.out 2).trans rfl; have hcz26_3 : w25.cell? ⟨gb252, 3, none⟩ = some (.int .i64 a0_3) := (blk_cell BK252.out 3).trans rfl; have hcz26_4 : w25.cell? ⟨gb252, 4, none⟩ = some (.int .i64 a0_4) := (blk_cell BK252.out 4).trans rfl; have hfz26_0 := blk_frozen BK252.out 0; have hfz26_1 := blk_frozen BK252.out 1; have hfz26_2 := blk_frozen BK252.out 2; have hfz26_3 := blk_frozen BK252.out 3; have hfz26_4 := blk_frozen BK252.out 4) | ((with_reducible refine gate_callee (f := 17) rfl ?_); refine goesL_ (some 46) rfl rfl Try.func17 (by kernel_rfl) rfl #[.agg #[.int .i64 a0_0, .int .i64 a0_1, .int .i64 a0_2, .int .i64 a0_3, .int .i64 a0_4], .int .i64 a2] rfl (by (try simp only [List.map_toArray, List.map_cons, List.map_nil]); first | done | rfl | (simp only [List.length_drop, List.length_take]; rfl)) ?_; (with_reducible refine (medl_Off.calls a0_0 a0_1 a0_2 a0_3 a0_4 a2 t260 t261 t262 _ A9.out).mono ?_); rintro e w27 ⟨rfl, hb⟩; refine ⟨_, rfl, ?_⟩; have n0_ := Aside0.mk (blk_below (g := gb252) (o := .cells #[.int .i64 a0_0, .int .i64 a0_1, .int .i64 a0_2, .int .i64 a0_3, .int .i64 a0_4] 23 (0, 0)) (by (with_reducible repeat (first | refine blk_drewN ?_ _ | refine blk_drew ?_ | refine blk_alloc ?_ _)); exact BK252.out) hb); have n1_ := Aside0.mk (below_step (by repeat (first | (with_reducible first | exact HB.out | apply below_alloc | apply pw_below_drewN | apply below_drew1 | refine below_set ?_ GE252.out) | exact HB.out)) hb); clear BK252; clear HB; have BK252 := n0_; have HB := n1_; clear n0_ n1_; (try clear hb); (try clear hb2); (try clear hk); (try clear hi); have hcz28_0 : w27.cell? ⟨gb252, 0, none⟩ = some (.int .i64 a0_0) := (blk_cell BK252.out 0).trans rfl; have hcz28_1 : w27.cell? ⟨gb252, 1, none⟩ = some (.int .i64 a0_1) := (blk_cell BK252.out 1).trans rfl; have hcz28_2 : w27.cell? ⟨gb252, 2, none⟩ = some (.int .i64 a0_2) := (blk_cell BK252.out 2).trans rfl; have hcz28_3 : w27.cell? ⟨gb252, 3, none⟩ = some (.int .i64 a0_3) := (blk_cell BK252.out 3).trans rfl; have hcz28_4 : w27.cell? ⟨gb252, 4, none⟩ = some (.int .i64 a0_4) := (blk_cell BK252.out 4).trans rfl; have hfz28_0 := blk_frozen BK252.out 0; have hfz28_1 := blk_frozen BK252.out 1; have hfz28_2 := blk_frozen BK252.out 2; have hfz28_3 := blk_frozen BK252.out 3; have hfz28_4 := blk_frozen BK252.out 4) | ((with_reducible refine gate_callee (f := 24) rfl ?_); refine goesL_ (some 53) rfl rfl Try.func24 (by kernel_rfl) rfl #[.agg #[.int .i64 a0_0, .int .i64 a0_1, .int .i64 a0_2, .int .i64 a0_3, .int .i64 a0_4], .int .i64 a2] rfl (by (try simp only [List.map_toArray, List.map_cons, List.map_nil]); first | done | rfl | (simp only [List.length_drop, List.length_take]; rfl)) ?_; (with_reducible refine (palletref07_Off.calls k a0_0 a0_1 a0_2 a0_3 a0_4 a2 t263 t264 t265 _ A10.out).mono ?_); rintro e w29 ⟨rfl, hb⟩; refine ⟨_, rfl, ?_⟩; have n0_ := Aside0.mk (blk_below (g := gb252) (o := .cells #[.int .i64 a0_0, .int .i64 a0_1, .int .i64 a0_2, .int .i64 a0_3, .int .i64 a0_4] 23 (0, 0)) (by (with_reducible repeat (first | refine blk_drewN ?_ _ | refine blk_drew ?_ | refine blk_alloc ?_ _)); exact BK252.out) hb); have n1_ := Aside0.mk (below_step (by repeat (first | (with_reducible first | exact HB.out | apply below_alloc | apply pw_below_drewN | apply below_drew1 | refine below_set ?_ GE252.out) | exact HB.out)) hb); clear BK252; clear HB; have BK252 := n0_; have HB := n1_; clear n0_ n1_; (try clear hb); (try clear hb2); (try clear hk); (try clear hi); have hcz30_0 : w29.cell? ⟨gb252, 0, none⟩ = some (.int .i64 a0_0) := (blk_cell BK252.out 0).trans rfl; have hcz30_1 : w29.cell? ⟨gb252, 1, none⟩ = some (.int .i64 a0_1) := (blk_cell BK252.out 1).trans rfl; have hcz30_2 : w29.cell? ⟨gb252, 2, none⟩ = some (.int .i64 a0_2) := (blk_cell BK252.out 2).trans rfl; have hcz30_3 : w29.cell? ⟨gb252, 3, none⟩ = some (.int .i64 a0_3) := (blk_cell BK252.out 3).trans rfl; have hcz30_4 : w29.cell? ⟨gb252, 4, none⟩ = some (.int .i64 a0_4) := (blk_cell BK252.out 4).trans rfl; have hfz30_0 := blk_frozen BK252.out 0; have hfz30_1 := blk_frozen BK252.out 1; have hfz30_2 := blk_frozen BK252.out 2; have hfz30_3 := blk_frozen BK252.out 3; have hfz30_4 := blk_frozen BK252.out 4) | ((with_reducible refine gate_callee (f := 18) rfl ?_); refine goesL_ (some 61) rfl rfl Try.func18 (by kernel_rfl) rfl #[.agg #[.int .i64 a0_0, .int .i64 a0_1, .int .i64 a0_2, .int .i64 a0_3, .int .i64 a0_4], .int .u64 a1, .int .i64 a3] rfl (by (try simp only [List.map_toArray, List.map_cons, List.map_nil]); first | done | rfl | (simp only [List.length_drop, List.length_take]; rfl)) ?_; (with_reducible refine (medl_Next.calls k a0_0 a0_1 a0_2 a0_3 a0_4 a1 a3 t266 t267 _ A11.out).mono ?_); rintro e w31 ⟨rfl, hb⟩; refine ⟨_, rfl, ?_⟩; have n0_ := Aside0.mk (blk_below (g := gb252) (o := .cells #[.int .i64 a0_0, .int .i64 a0_1, .int .i64 a0_2, .int .i64 a0_3, .int .i64 a0_4] 23 (0, 0)) (by (with_reducible repeat (first | refine blk_drewN ?_ _ | refine blk_drew ?_ | refine blk_alloc ?_ _)); exact BK252.out) hb); have n1_ := Aside0.mk (below_step (by repeat (first | (with_reducible first | exact HB.out | apply below_alloc | apply pw_below_drewN | apply below_drew1 | refine below_set ?_ GE252.out) | exact HB.out)) hb); clear BK252; clear HB; have BK252 := n0_; have HB := n1_; clear n0_ n1_; (try clear hb); (try clear hb2); (try clear hk); (try clear hi); have hcz32_0 : w31.cell? ⟨gb252, 0, none⟩ = some (.int .i64 a0_0) := (blk_cell BK252.out 0).trans rfl; have hcz32_1 : w31.cell? ⟨gb252, 1, none⟩ = some (.int .i64 a0_1) := (blk_cell BK252.out 1).trans rfl; have hcz32_2 : w31.cell? ⟨gb252, 2, none⟩ = some (.int .i64 a0_2) := (blk_cell BK252.out 2).trans rfl; have hcz32_3 : w31.cell? ⟨gb252, 3, none⟩ = some (.int .i64 a0_3) := (blk_cell BK252.out 3).trans rfl; have hcz32_4 : w31.cell? ⟨gb252, 4, none⟩ = some (.int .i64 a0_4) := (blk_cell BK252.out 4).trans rfl; have hfz32_0 := blk_frozen BK252.out 0; have hfz32_1 := blk_frozen BK252.out 1; have hfz32_2 := blk_frozen BK252.out 2; have hfz32_3 := blk_frozen BK252.out 3; have hfz32_4 := blk_frozen BK252.out 4) | ((with_reducible refine gate_callee (f := 25) rfl ?_); refine goesL_ (some 68) rfl rfl Try.func25 (by kernel_rfl) rfl #[.agg #[.int .i64 a0_0, .int .i64 a0_1, .int .i64 a0_2, .int .i64 a0_3, .int .i64 a0_4], .int .u64 a1, .int .i64 a3] rfl (by (try simp only [List.map_toArray, List.map_cons, List.map_nil]); first | done | rfl | (simp only [List.length_drop, List.length_take]; rfl)) ?_; (with_reducible refine (palletref07_Next.calls k a0_0 a0_1 a0_2 a0_3 a0_4 a1 a3 t268 t269 _ A12.out).mono ?_); rintro e w33 ⟨rfl, hb⟩; refine ⟨_, rfl, ?_⟩; have n0_ := Aside0.mk (blk_below (g := gb252) (o := .cells #[.int .i64 a0_0, .int .i64 a0_1, .int .i64 a0_2, .int .i64 a0_3, .int .i64 a0_4] 23 (0, 0)) (by (with_reducible repeat (first | refine blk_drewN ?_ _ | refine blk_drew ?_ | refine blk_alloc ?_ _)); exact BK252.out) hb); have n1_ := Aside0.mk (below_step (by repeat (first | (with_reducible first | exact HB.out | apply below_alloc | apply pw_below_drewN | apply below_drew1 | refine below_set ?_ GE252.out) | exact HB.out)) hb); clear BK252; clear HB; have BK252 := n0_; have HB := n1_; clear n0_ n1_; (try clear hb); (try clear hb2); (try clear hk); (try clear hi)))
                  go_ret
                  exact ⟨by first | rfl | (simp [errW_none, errW_some] <;> rfl) | (simp [*, errW_none, errW_some] <;> rfl), by repeat (first | (with_reducible first | exact HB.out | apply below_alloc | apply pw_below_drewN | apply below_drew1 | refine below_set ?_ GE252.out) | exact HB.out)⟩
                · rw [if_neg c19] at H
                  have c19b0 : (t266 == t268) = false := beq_eq_false_iff_ne.mpr c19
                  have c19b1 : (t266 != t268) = true := bne_iff_ne.mpr c19
                  obtain rfl := Option.some.inj H
                  exact absurd hr_.out (by decide)
              · rw [if_neg c18] at H
                have c18b0 : (t262 == t265) = false := beq_eq_false_iff_ne.mpr c18
                have c18b1 : (t262 != t265) = true := bne_iff_ne.mpr c18
                obtain rfl := Option.some.inj H
                exact absurd hr_.out (by decide)
            · rw [if_neg c17] at H
              have c17b0 : (t261 == t264) = false := by simpa using c17
              (try (have c17b1 : decide (t261 = t264) = false := by simpa using c17))
              (try (have c17b2 : (t261 == t264) = false := by simpa using c17))
              (try (have c17b3 : ¬ (t261 = t264) := by simpa using c17))
              clear c17
              obtain rfl := Option.some.inj H
              exact absurd hr_.out (by decide)
          · rw [if_neg c16] at H
            have c16b0 : (t260 == t263) = false := beq_eq_false_iff_ne.mpr c16
            have c16b1 : (t260 != t263) = true := bne_iff_ne.mpr c16
            obtain rfl := Option.some.inj H
            exact absurd hr_.out (by decide)
        · rw [if_neg c15] at H
          have c15b0 : (t256 == t259) = false := beq_eq_false_iff_ne.mpr c15
          have c15b1 : (t256 != t259) = true := bne_iff_ne.mpr c15
          obtain rfl := Option.some.inj H
          exact absurd hr_.out (by decide)
      · rw [if_neg c14] at H
        have c14b0 : (t255 == t258) = false := beq_eq_false_iff_ne.mpr c14
        have c14b1 : (t255 != t258) = true := bne_iff_ne.mpr c14
        obtain rfl := Option.some.inj H
        exact absurd hr_.out (by decide)
    · rw [if_neg c13] at H
      have c13b0 : (t254 == t257) = false := beq_eq_false_iff_ne.mpr c13
      have c13b1 : (t254 != t257) = true := bne_iff_ne.mpr c13
      obtain rfl := Option.some.inj H
      exact absurd hr_.out (by decide)
  · replace c6 := Bool.eq_false_iff.mpr c6
    subst c6
    have H1 : (some false) = some r := by rw [if_neg (show ¬ (false = true) by decide)] at H; exact H
    clear H
    have H := H1
    clear H1
    obtain rfl := Option.some.inj H
    exact absurd hr_.out (by decide)

/-! ### palletref01_May: function 26 -/
def palletref01_May.l0 : Nat → List Int → Int → Int → Option (Bool)
  | 0, _, _, _ => none
  | k + 1, x5, x6, x7 => if x7 < x6 then (if 0 ≤ x7 then (if x7 < (x5.length : Int) then (if (rd x5 x7) > 1152921504606846976 then (some false) else (if (rd x5 x7) < (-1152921504606846976) then (some false) else (palletref01_May.l0 k x5 x6 (wrap64 (x7 + 1))))) else (none)) else (none)) else (some true)
def palletref01_May.f (k : Nat) (l0 : List Int) : Option (Bool) := palletref01_May.l0 k l0 (l0.length : Int) 0
theorem palletref01_May.mono_l : ∀ k, (∀ y0 y1 y2, LeO (palletref01_May.l0 k y0 y1 y2) (palletref01_May.l0 (k + 1) y0 y1 y2))
  | 0 => fun _ _ _ r h => by simp [palletref01_May.l0] at h
  | k + 1 => by
    have ih0 := palletref01_May.mono_l k
    · intro y0 y1 y2
      unfold palletref01_May.l0
      repeat' first
      | (with_reducible exact ih0 _ _ _)
      | (with_reducible exact LeO.refl _)
      | (with_reducible exact LeO.none _)
      | (with_reducible refine LeO.ite ?_ ?_)
      | (with_reducible refine LeO.bind ?_ (fun _ => ?_))
      | exact ih0 _ _ _
      | exact LeO.none _
      | refine LeO.ite ?_ ?_
      | refine LeO.bind ?_ (fun _ => ?_)
theorem palletref01_May.mono : ∀ a0 k, LeO (palletref01_May.f k a0) (palletref01_May.f (k + 1) a0) := by
  intro a0 k
  have ih0 := palletref01_May.mono_l k
  unfold palletref01_May.f
  repeat' first
      | (with_reducible exact ih0 _ _ _)
      | (with_reducible exact LeO.refl _)
      | (with_reducible exact LeO.none _)
      | (with_reducible refine LeO.ite ?_ ?_)
      | (with_reducible refine LeO.bind ?_ (fun _ => ?_))
      | exact ih0 _ _ _
      | exact LeO.none _
      | refine LeO.ite ?_ ?_
      | refine LeO.bind ?_ (fun _ => ?_)
set_option maxHeartbeats 8000000 in
set_option maxRecDepth 100000 in
theorem palletref01_May.calls (k : Nat) (A0 : Option Addr) (c0 : Nat) (l0 : List Int) (r : Bool) (w : World) (hr0 : Kd.C (Kd.int .i64) w A0 l0.length l0) (hc0 : l0.length ≤ c0) (h : palletref01_May.f k l0 = some r) :
    Calls Try.prog 26 #[.slice A0 l0.length c0] w fun e w' => e = .returned (.bool r) ∧ Drawn0 w w' := by
  have HR0 := Aside0.mk hr0
  have HC0 := Aside0.mk hc0
  clear hr0 hc0
  have H : (palletref01_May.l0 k l0 (l0.length : Int) 0) = some r := h
  clear h
  have H' := Aside0.mk H
  clear H
  go_enter Try.func26, Try.ntmps26
  go_wp2
  go_loopg [7] k (fun kq v7 w' => ∃ (x7_1 : Int), v7 = .int .i64 x7_1 ∧ Aside0 (palletref01_May.l0 kq l0 (l0.length : Int) x7_1 = some r) ∧ Aside0 (kq ≤ k) ∧ Drawn0 w w')
  case atStart => exact ⟨(0), (by first | rfl | (simp; done) | (simp [*]; done)), H', ⟨Nat.le_refl _⟩, by repeat (first | exact Drawn0.refl _ | apply Drawn0.step)⟩
  case round =>
    clear H'
    obtain ⟨x7_1, rfl, HA, HK1, ⟨m1, rfl⟩⟩ := hrel
    cases gk with
    | zero => exact absurd HA.out (by simp [palletref01_May.l0])
    | succ k1 =>
      have H := HA.out
      clear HA
      simp only [palletref01_May.l0] at H
      by_cases c2 : x7_1 < (l0.length : Int)
      · rw [if_pos c2] at H
        have c2b0 : decide (x7_1 < (l0.length : Int)) = true := decide_eq_true c2
        clear c2
        by_cases c3 : 0 ≤ x7_1
        · rw [if_pos c3] at H
          have c3b0 : decide (0 ≤ x7_1) = true := decide_eq_true c3
          clear c3
          by_cases c4 : x7_1 < (l0.length : Int)
          · rw [if_pos c4] at H
            have c4b0 : decide (x7_1 < (l0.length : Int)) = true := decide_eq_true c4
            clear c4
            by_cases c5 : (rd l0 x7_1) > 1152921504606846976
            · rw [if_pos c5] at H
              have c5b0 : decide (1152921504606846976 < (rd l0 x7_1)) = true := decide_eq_true c5
              clear c5
              obtain rfl := Option.some.inj H
              have p270 : 0 ≤ (x7_1 : Int) := of_decide_eq_true (by first | (with_reducible assumption) | assumption)
              have q270 : x7_1 < (l0.length : Int) := of_decide_eq_true (by first | (with_reducible assumption) | assumption)
              obtain ⟨ad270, e270, hx270_0⟩ := Kd.at_int HR0.out x7_1 p270 q270
              cases e270
              replace p270 := eq_true p270
              replace q270 := eq_true q270
              go_wp2
              go_ret
              exact ⟨by first | rfl | (simp; done) | (simp [*]; done), by repeat (first | exact Drawn0.refl _ | apply Drawn0.step)⟩
            · rw [if_neg c5] at H
              have c5b0 : decide (1152921504606846976 < (rd l0 x7_1)) = false := decide_eq_false c5
              clear c5
              by_cases c6 : (rd l0 x7_1) < (-1152921504606846976)
              · rw [if_pos c6] at H
                have c6b0 : decide ((rd l0 x7_1) < (-1152921504606846976)) = true := decide_eq_true c6
                clear c6
                obtain rfl := Option.some.inj H
                have p270 : 0 ≤ (x7_1 : Int) := of_decide_eq_true (by first | (with_reducible assumption) | assumption)
                have q270 : x7_1 < (l0.length : Int) := of_decide_eq_true (by first | (with_reducible assumption) | assumption)
                obtain ⟨ad270, e270, hx270_0⟩ := Kd.at_int HR0.out x7_1 p270 q270
                cases e270
                replace p270 := eq_true p270
                replace q270 := eq_true q270
                go_wp2
                go_ret
                exact ⟨by first | rfl | (simp; done) | (simp [*]; done), by repeat (first | exact Drawn0.refl _ | apply Drawn0.step)⟩
              · rw [if_neg c6] at H
                have c6b0 : decide ((rd l0 x7_1) < (-1152921504606846976)) = false := decide_eq_false c6
                clear c6
                have H' := Aside0.mk H
                clear H
                have p270 : 0 ≤ (x7_1 : Int) := of_decide_eq_true (by first | (with_reducible assumption) | assumption)
                have q270 : x7_1 < (l0.length : Int) := of_decide_eq_true (by first | (with_reducible assumption) | assumption)
                obtain ⟨ad270, e270, hx270_0⟩ := Kd.at_int HR0.out x7_1 p270 q270
                cases e270
                replace p270 := eq_true p270
                replace q270 := eq_true q270
                go_wp2
                go_roundg k1
                case measure => have := HK1.out; omega
                case rel => exact ⟨(wrap64 (x7_1 + 1)), (by first | rfl | (simp; done) | (simp [*]; done)), H', ⟨by have := HK1.out; omega⟩, by repeat (first | exact Drawn0.refl _ | apply Drawn0.step)⟩
          · rw [if_neg c4] at H
            exact absurd H (by simp)
        · rw [if_neg c3] at H
          exact absurd H (by simp)
      · rw [if_neg c2] at H
        have c2b0 : decide (x7_1 < (l0.length : Int)) = false := decide_eq_false c2
        clear c2
        obtain rfl := Option.some.inj H
        go_wp2
        go_ret
        exact ⟨by first | rfl | (simp; done) | (simp [*]; done), by repeat (first | exact Drawn0.refl _ | apply Drawn0.step)⟩

end Go.Proofs.Ytpfkiljakiiieaa.Print
