-- PRINTED by print.py (a twelfth state) out of the translation. Not trusted: Lean checks it.
import Derived.Test.YtmkjljekofondaaPrint0
import Derived.Test.YtmkjljekofondaaPrint1
import Derived.Test.YtmkjljekofondaaPrint6
import Derived.Test.YtmkjljekofondaaPrint7
import Derived.Test.YtmkjljekofondaaPrint11
import Derived.Test.YtmkjljekofondaaPrint17
namespace Go.Proofs.Ytmkjljekofondaa.Print
open Go.RowKit Go.Proofs.YtmkjljekofondaaW.PrintWords Go.Proofs.YtmkjljekofondaaW.PrintLast Go.Proofs.YtmkjljekofondaaW.PrintMore Go.Proofs.YtmkjljekofondaaX
attribute [local go_sem] str_lss str_geq max2_int min2_int max_two min_two max_three min_three max_four min_four   -- for this text's walks alone
set_option linter.unusedVariables false
set_option linter.unusedSimpArgs false

/-! ### palletlaw01_PicoBack: function 13 -/
def palletlaw01_PicoBack.j0 : Nat → Int → Bool → Option (Bool)
 | 0, _, _ => none
 | k + 1, x0, x5 => (pico_Text.f k x0).bind fun bt316 => (if bt316.2 = 0 then ((pico_Read.f k bt316.1).bind fun bt318 => (if x5 = true then (if bt318.1 = x0 then (some (bt318.2 == 0)) else (some false)) else (some false))) else (if x5 = true then ((pico_May.f k (([x0] : List Int))).bind fun t323 => (some (!t323))) else (some false)))
def palletlaw01_PicoBack.f (k : Nat) (a0 : Int) (a1 : Int) : Option (Bool) := (palletlaw01_live.f k).bind fun t309 => (if t309 = true then ((pico_Add.f k a0 a1).bind fun bt310 => (if bt310.2 = 0 then ((pico_Sub.f k bt310.1 a1).bind fun bt312 => ((pico_Add.f k a1 a0).bind fun bt314 => (if bt312.1 = a0 then (if bt312.2 = 0 then (if bt314.1 = bt310.1 then (if bt314.2 = 0 then (palletlaw01_PicoBack.j0 k a0 t309) else (some false)) else (some false)) else (some false)) else (some false)))) else (palletlaw01_PicoBack.j0 k a0 t309))) else (some false))
theorem palletlaw01_PicoBack.mono_l : ∀ k, (∀ y0 y1, LeO (palletlaw01_PicoBack.j0 k y0 y1) (palletlaw01_PicoBack.j0 (k + 1) y0 y1))
 | 0 => fun _ _ r h => by simp [palletlaw01_PicoBack.j0] at h
 | k + 1 => by
  have ih0 := palletlaw01_PicoBack.mono_l k
  ·intro y0 y1
   unfold palletlaw01_PicoBack.j0
   repeat' first
   | (with_reducible exact ih0 _ _)
   | (with_reducible exact palletlaw01_live.mono _)
   | (with_reducible exact pico_Add.mono _ _ _)
   | (with_reducible exact pico_May.mono _ _)
   | (with_reducible exact pico_Read.mono _ _)
   | (with_reducible exact pico_Sub.mono _ _ _)
   | (with_reducible exact pico_Text.mono _ _)
   | (with_reducible exact LeO.refl _)
   | (with_reducible exact LeO.none _)
   | (with_reducible refine LeO.ite ?_ ?_)
   | (with_reducible refine LeO.bind ?_ (fun _ => ?_))
   | exact ih0 _ _
   | exact palletlaw01_live.mono _
   | exact pico_Add.mono _ _ _
   | exact pico_May.mono _ _
   | exact pico_Read.mono _ _
   | exact pico_Sub.mono _ _ _
   | exact pico_Text.mono _ _
   | exact LeO.none _
   | refine LeO.ite ?_ ?_
   | refine LeO.bind ?_ (fun _ => ?_)
theorem palletlaw01_PicoBack.mono : ∀ a0 a1 k, LeO (palletlaw01_PicoBack.f k a0 a1) (palletlaw01_PicoBack.f (k + 1) a0 a1) := by
 intro a0 a1 k
 have ih0 := palletlaw01_PicoBack.mono_l k
 unfold palletlaw01_PicoBack.f
 repeat' first
   | (with_reducible exact ih0 _ _)
   | (with_reducible exact palletlaw01_live.mono _)
   | (with_reducible exact pico_Add.mono _ _ _)
   | (with_reducible exact pico_May.mono _ _)
   | (with_reducible exact pico_Read.mono _ _)
   | (with_reducible exact pico_Sub.mono _ _ _)
   | (with_reducible exact pico_Text.mono _ _)
   | (with_reducible exact LeO.refl _)
   | (with_reducible exact LeO.none _)
   | (with_reducible refine LeO.ite ?_ ?_)
   | (with_reducible refine LeO.bind ?_ (fun _ => ?_))
   | exact ih0 _ _
   | exact palletlaw01_live.mono _
   | exact pico_Add.mono _ _ _
   | exact pico_May.mono _ _
   | exact pico_Read.mono _ _
   | exact pico_Sub.mono _ _ _
   | exact pico_Text.mono _ _
   | exact LeO.none _
   | refine LeO.ite ?_ ?_
   | refine LeO.bind ?_ (fun _ => ?_)
set_option maxHeartbeats 8000000 in
set_option maxRecDepth 100000 in
theorem palletlaw01_PicoBack.calls (k : Nat) (a0 : Int) (a1 : Int) (r : Bool) (w : World) (hr_ : Aside0 (r = true)) (h : palletlaw01_PicoBack.f k a0 a1 = some r) :
  Calls Try.prog 13 #[.int .i64 a0, .int .i64 a1] w fun e w' => e = .returned (.bool r) ∧ Below w.heap.size w w' := by
 have HB := Aside0.mk (Below.refl w.heap.size w)
 have H : ((palletlaw01_live.f k).bind fun t309 => (if t309 = true then ((pico_Add.f k a0 a1).bind fun bt310 => (if bt310.2 = 0 then ((pico_Sub.f k bt310.1 a1).bind fun bt312 => ((pico_Add.f k a1 a0).bind fun bt314 => (if bt312.1 = a0 then (if bt312.2 = 0 then (if bt314.1 = bt310.1 then (if bt314.2 = 0 then (palletlaw01_PicoBack.j0 k a0 t309) else (some false)) else (some false)) else (some false)) else (some false)))) else (palletlaw01_PicoBack.j0 k a0 t309))) else (some false))) = some r := h
 clear h
 replace H := Option.bind_eq_some_iff.mp H
 obtain ⟨t309, A30, H⟩ := H
 replace H : (if t309 = true then ((pico_Add.f k a0 a1).bind fun bt310 => (if bt310.2 = 0 then ((pico_Sub.f k bt310.1 a1).bind fun bt312 => ((pico_Add.f k a1 a0).bind fun bt314 => (if bt312.1 = a0 then (if bt312.2 = 0 then (if bt314.1 = bt310.1 then (if bt314.2 = 0 then (palletlaw01_PicoBack.j0 k a0 t309) else (some false)) else (some false)) else (some false)) else (some false)))) else (palletlaw01_PicoBack.j0 k a0 t309))) else (some false)) = some r := H
 have A3 := Aside0.mk A30
 clear A30
 by_cases c4 : t309 = true
 ·subst c4
  have H1 : ((pico_Add.f k a0 a1).bind fun bt310 => (if bt310.2 = 0 then ((pico_Sub.f k bt310.1 a1).bind fun bt312 => ((pico_Add.f k a1 a0).bind fun bt314 => (if bt312.1 = a0 then (if bt312.2 = 0 then (if bt314.1 = bt310.1 then (if bt314.2 = 0 then (palletlaw01_PicoBack.j0 k a0 true) else (some false)) else (some false)) else (some false)) else (some false)))) else (palletlaw01_PicoBack.j0 k a0 true))) = some r := by rw [if_pos rfl] at H; exact H
  clear H
  have H := H1
  clear H1
  replace H := Option.bind_eq_some_iff.mp H
  obtain ⟨⟨t310, t311⟩, A50, H⟩ := H
  replace H : (if t311 = 0 then ((pico_Sub.f k t310 a1).bind fun bt312 => ((pico_Add.f k a1 a0).bind fun bt314 => (if bt312.1 = a0 then (if bt312.2 = 0 then (if bt314.1 = t310 then (if bt314.2 = 0 then (palletlaw01_PicoBack.j0 k a0 true) else (some false)) else (some false)) else (some false)) else (some false)))) else (palletlaw01_PicoBack.j0 k a0 true)) = some r := H
  have A5 := Aside0.mk A50
  clear A50
  have HC6 := Aside0.mk H
  clear H
  go_enter Try.func13, Try.ntmps13
  go_upto_if 26 with (first | ((with_reducible refine gate_callee (f := 20) rfl ?_); refine goesL_ (some 16) rfl rfl Try.func20 (by kernel_rfl) rfl #[] rfl (by (try simp only [List.map_toArray, List.map_cons, List.map_nil]); first | done | rfl | (simp only [List.length_drop, List.length_take]; rfl)) ?_; (with_reducible refine (palletlaw01_live.calls k  true _ A3.out).mono ?_); rintro e w7 ⟨rfl, hb⟩; refine ⟨_, rfl, ?_⟩; have n0_ := Aside0.mk (below_step (by repeat (first | (with_reducible first | exact HB.out | apply below_alloc | apply pw_below_drewN | apply below_drew1) | exact HB.out)) hb); clear HB; have HB := n0_; clear n0_; (try clear hb); (try clear hb2); (try clear hk); (try clear hi)) | ((with_reducible refine gate_callee (f := 22) rfl ?_); refine goesL_ (some 22) rfl rfl Try.func22 (by kernel_rfl) rfl #[.int .i64 a0, .int .i64 a1] rfl (by (try simp only [List.map_toArray, List.map_cons, List.map_nil]); first | done | rfl | (simp only [List.length_drop, List.length_take]; rfl)) ?_; (with_reducible refine (pico_Add.calls k a0 a1 t310 t311 _ A5.out).mono ?_); rintro e w8 ⟨rfl, hb⟩; refine ⟨_, rfl, ?_⟩; have n0_ := Aside0.mk (below_step (by repeat (first | (with_reducible first | exact HB.out | apply below_alloc | apply pw_below_drewN | apply below_drew1) | exact HB.out)) hb); clear HB; have HB := n0_; clear n0_; (try clear hb); (try clear hb2); (try clear hk); (try clear hi)))
  (try simp only [Act.put, List.setIfInBounds_toArray, List.set_cons_zero, List.set_cons_succ])
  go_cut [] (fun wc => ∃ (kq : Nat), Aside0 (palletlaw01_PicoBack.j0 kq a0 true = some r) ∧ Aside0 (kq ≤ k) ∧ Aside0 (Below w.heap.size w wc))
  case first =>
   have H := HC6.out
   clear HC6
   by_cases c9 : t311 = 0
   ·rw [if_pos c9] at H
    have c9b0 : (t311 == 0) = true := beq_iff_eq.mpr c9
    have c9b1 : (t311 != 0) = false := bne_eq_false_iff_eq.mpr c9
    clear c9
    (first | rw [c9b0] | (simp only [i64_w, i32_w]; rw [c9b0]) | skip)
    replace H := Option.bind_eq_some_iff.mp H
    obtain ⟨⟨t312, t313⟩, A100, H⟩ := H
    replace H : ((pico_Add.f k a1 a0).bind fun bt314 => (if t312 = a0 then (if t313 = 0 then (if bt314.1 = t310 then (if bt314.2 = 0 then (palletlaw01_PicoBack.j0 k a0 true) else (some false)) else (some false)) else (some false)) else (some false))) = some r := H
    have A10 := Aside0.mk A100
    clear A100
    replace H := Option.bind_eq_some_iff.mp H
    obtain ⟨⟨t314, t315⟩, A110, H⟩ := H
    replace H : (if t312 = a0 then (if t313 = 0 then (if t314 = t310 then (if t315 = 0 then (palletlaw01_PicoBack.j0 k a0 true) else (some false)) else (some false)) else (some false)) else (some false)) = some r := H
    have A11 := Aside0.mk A110
    clear A110
    by_cases c12 : t312 = a0
    ·rw [if_pos c12] at H
     have c12b0 : (t312 == a0) = true := beq_iff_eq.mpr c12
     have c12b1 : (t312 != a0) = false := bne_eq_false_iff_eq.mpr c12
     clear c12
     by_cases c13 : t313 = 0
     ·rw [if_pos c13] at H
      have c13b0 : (t313 == 0) = true := beq_iff_eq.mpr c13
      have c13b1 : (t313 != 0) = false := bne_eq_false_iff_eq.mpr c13
      clear c13
      by_cases c14 : t314 = t310
      ·rw [if_pos c14] at H
       have c14b0 : (t314 == t310) = true := beq_iff_eq.mpr c14
       have c14b1 : (t314 != t310) = false := bne_eq_false_iff_eq.mpr c14
       clear c14
       by_cases c15 : t315 = 0
       ·rw [if_pos c15] at H
        have c15b0 : (t315 == 0) = true := beq_iff_eq.mpr c15
        have c15b1 : (t315 != 0) = false := bne_eq_false_iff_eq.mpr c15
        clear c15
        have H' := Aside0.mk H
        clear H
        go_wp2_with (first | ((with_reducible refine gate_callee (f := 24) rfl ?_); refine goesL_ (some 30) rfl rfl Try.func24 (by kernel_rfl) rfl #[.int .i64 t310, .int .i64 a1] rfl (by (try simp only [List.map_toArray, List.map_cons, List.map_nil]); first | done | rfl | (simp only [List.length_drop, List.length_take]; rfl)) ?_; (with_reducible refine (pico_Sub.calls k t310 a1 t312 t313 _ A10.out).mono ?_); rintro e w16 ⟨rfl, hb⟩; refine ⟨_, rfl, ?_⟩; have n0_ := Aside0.mk (below_step (by repeat (first | (with_reducible first | exact HB.out | apply below_alloc | apply pw_below_drewN | apply below_drew1) | exact HB.out)) hb); clear HB; have HB := n0_; clear n0_; (try clear hb); (try clear hb2); (try clear hk); (try clear hi)) | ((with_reducible refine gate_callee (f := 22) rfl ?_); refine goesL_ (some 36) rfl rfl Try.func22 (by kernel_rfl) rfl #[.int .i64 a1, .int .i64 a0] rfl (by (try simp only [List.map_toArray, List.map_cons, List.map_nil]); first | done | rfl | (simp only [List.length_drop, List.length_take]; rfl)) ?_; (with_reducible refine (pico_Add.calls k a1 a0 t314 t315 _ A11.out).mono ?_); rintro e w17 ⟨rfl, hb⟩; refine ⟨_, rfl, ?_⟩; have n0_ := Aside0.mk (below_step (by repeat (first | (with_reducible first | exact HB.out | apply below_alloc | apply pw_below_drewN | apply below_drew1) | exact HB.out)) hb); clear HB; have HB := n0_; clear n0_; (try clear hb); (try clear hb2); (try clear hk); (try clear hi)))
        go_meet
        case rel => exact ⟨_, H', ⟨by first | omega | exact Nat.le_refl _⟩, ⟨by repeat (first | (with_reducible first | exact HB.out | apply below_alloc | apply pw_below_drewN | apply below_drew1) | exact HB.out)⟩⟩
       ·rw [if_neg c15] at H
        have c15b0 : (t315 == 0) = false := beq_eq_false_iff_ne.mpr c15
        have c15b1 : (t315 != 0) = true := bne_iff_ne.mpr c15
        obtain rfl := Option.some.inj H
        exact absurd hr_.out (by decide)
      ·rw [if_neg c14] at H
       have c14b0 : (t314 == t310) = false := beq_eq_false_iff_ne.mpr c14
       have c14b1 : (t314 != t310) = true := bne_iff_ne.mpr c14
       obtain rfl := Option.some.inj H
       exact absurd hr_.out (by decide)
     ·rw [if_neg c13] at H
      have c13b0 : (t313 == 0) = false := beq_eq_false_iff_ne.mpr c13
      have c13b1 : (t313 != 0) = true := bne_iff_ne.mpr c13
      obtain rfl := Option.some.inj H
      exact absurd hr_.out (by decide)
    ·rw [if_neg c12] at H
     have c12b0 : (t312 == a0) = false := beq_eq_false_iff_ne.mpr c12
     have c12b1 : (t312 != a0) = true := bne_iff_ne.mpr c12
     obtain rfl := Option.some.inj H
     exact absurd hr_.out (by decide)
   ·rw [if_neg c9] at H
    have c9b0 : (t311 == 0) = false := beq_eq_false_iff_ne.mpr c9
    have c9b1 : (t311 != 0) = true := bne_iff_ne.mpr c9
    (first | rw [c9b0] | (simp only [i64_w, i32_w]; rw [c9b0]) | skip)
    have H' := Aside0.mk H
    clear H
    go_wp2
    go_meet
    case rel => exact ⟨_, H', ⟨by first | omega | exact Nat.le_refl _⟩, ⟨by repeat (first | (with_reducible first | exact HB.out | apply below_alloc | apply pw_below_drewN | apply below_drew1) | exact HB.out)⟩⟩
  case rest =>
   clear HC6
   try clear c1
   try clear c2
   try clear p2
   try clear c4
   try clear c9
   try clear c9b0
   try clear c9b1
   try clear c12
   try clear c12b0
   try clear c12b1
   try clear c13
   try clear c13b0
   try clear c13b1
   try clear c14
   try clear c14b0
   try clear c14b1
   try clear c15
   try clear c15b0
   try clear c15b1
   obtain ⟨kq, HA, HJ5, HB⟩ := hcut
   cases kq with
   | zero => exact absurd HA.out (by simp [palletlaw01_PicoBack.j0])
   | succ kj5 =>
    have H := HA.out
    clear HA
    simp only [palletlaw01_PicoBack.j0] at H
    replace H := Option.bind_eq_some_iff.mp H
    obtain ⟨⟨t316, t317⟩, A180, H⟩ := H
    replace H : (if t317 = 0 then ((pico_Read.f kj5 t316).bind fun bt318 => (if true = true then (if bt318.1 = a0 then (some (bt318.2 == 0)) else (some false)) else (some false))) else (if true = true then ((pico_May.f kj5 (([a0] : List Int))).bind fun t323 => (some (!t323))) else (some false))) = some r := H
    have A18 := Aside0.mk A180
    clear A180
    by_cases c19 : t317 = 0
    ·rw [if_pos c19] at H
     have c19b0 : (t317 == 0) = true := beq_iff_eq.mpr c19
     have c19b1 : (t317 != 0) = false := bne_eq_false_iff_eq.mpr c19
     clear c19
     replace H := Option.bind_eq_some_iff.mp H
     obtain ⟨⟨t318, t319⟩, A200, H⟩ := H
     replace H : (if true = true then (if t318 = a0 then (some (t319 == 0)) else (some false)) else (some false)) = some r := H
     have A20 := Aside0.mk A200
     clear A200
     have H1 : (if t318 = a0 then (some (t319 == 0)) else (some false)) = some r := by first | (rw [if_pos rfl] at H; exact H) | exact H
     clear H
     have H := H1
     clear H1
     by_cases c21 : t318 = a0
     ·rw [if_pos c21] at H
      have c21b0 : (t318 == a0) = true := beq_iff_eq.mpr c21
      have c21b1 : (t318 != a0) = false := bne_eq_false_iff_eq.mpr c21
      clear c21
      obtain rfl := Option.some.inj H
      go_wp2_with (first | ((with_reducible refine gate_callee (f := 32) rfl ?_); refine goesL_ (some 57) rfl rfl Try.func32 (by kernel_rfl) rfl #[.int .i64 a0] rfl (by (try simp only [List.map_toArray, List.map_cons, List.map_nil]); first | done | rfl | (simp only [List.length_drop, List.length_take]; rfl)) ?_; (with_reducible refine (pico_Text.calls kj5 a0 t316 t317 _ A18.out).mono ?_); rintro e w22 ⟨rfl, hb⟩; refine ⟨_, rfl, ?_⟩; have n0_ := Aside0.mk (below_step (by repeat (first | (with_reducible first | exact HB.out | apply below_alloc | apply pw_below_drewN | apply below_drew1) | exact HB.out)) hb); clear HB; have HB := n0_; clear n0_; (try clear hb); (try clear hb2); (try clear hk); (try clear hi)) | ((with_reducible refine gate_callee (f := 33) rfl ?_); refine goesL_ (some 71) rfl rfl Try.func33 (by kernel_rfl) rfl #[.string t316] rfl (by (try simp only [List.map_toArray, List.map_cons, List.map_nil]); first | done | rfl | (simp only [List.length_drop, List.length_take]; rfl)) ?_; (with_reducible refine (pico_Read.calls kj5 t316 t318 t319 _ A20.out).mono ?_); rintro e w23 ⟨rfl, hb⟩; refine ⟨_, rfl, ?_⟩; have n0_ := Aside0.mk (below_step (by repeat (first | (with_reducible first | exact HB.out | apply below_alloc | apply pw_below_drewN | apply below_drew1) | exact HB.out)) hb); clear HB; have HB := n0_; clear n0_; (try clear hb); (try clear hb2); (try clear hk); (try clear hi)))
      go_ret
      exact ⟨by first | rfl | (simp [errW_none, errW_some] <;> rfl) | (simp [*, errW_none, errW_some] <;> rfl), by repeat (first | (with_reducible first | exact HB.out | apply below_alloc | apply pw_below_drewN | apply below_drew1) | exact HB.out)⟩
     ·rw [if_neg c21] at H
      have c21b0 : (t318 == a0) = false := beq_eq_false_iff_ne.mpr c21
      have c21b1 : (t318 != a0) = true := bne_iff_ne.mpr c21
      obtain rfl := Option.some.inj H
      exact absurd hr_.out (by decide)
    ·rw [if_neg c19] at H
     have c19b0 : (t317 == 0) = false := beq_eq_false_iff_ne.mpr c19
     have c19b1 : (t317 != 0) = true := bne_iff_ne.mpr c19
     have H1 : ((pico_May.f kj5 (([a0] : List Int))).bind fun t323 => (some (!t323))) = some r := by first | (rw [if_pos rfl] at H; exact H) | exact H
     clear H
     have H := H1
     clear H1
     obtain ⟨y320, hy320⟩ : ∃ y_ : List Int, y_ = (([a0] : List Int)) := ⟨_, rfl⟩
     replace H : ((pico_May.f kj5 y320).bind fun t323 => (some (!t323))) = some r := by first | (rw [hy320]; with_reducible exact H) | (have H2_ := (Option.bind_some _ _).symm.trans H; rw [hy320]; with_reducible exact H2_) | (have H2_ := (Option.bind_some _ _).symm.trans H; with_reducible exact H2_) | with_reducible exact H | (rw [hy320]; exact H) | exact H
     have Ny320 := Aside0.mk hy320
     clear hy320
     replace H := Option.bind_eq_some_iff.mp H
     obtain ⟨t323, A240, H⟩ := H
     replace H : (some (!t323)) = some r := H
     have A24 := Aside0.mk A240
     clear A240
     obtain rfl := Option.some.inj H
     go_wp2_with (first | ((with_reducible refine gate_callee (f := 32) rfl ?_); refine goesL_ (some 57) rfl rfl Try.func32 (by kernel_rfl) rfl #[.int .i64 a0] rfl (by (try simp only [List.map_toArray, List.map_cons, List.map_nil]); first | done | rfl | (simp only [List.length_drop, List.length_take]; rfl)) ?_; (with_reducible refine (pico_Text.calls kj5 a0 t316 t317 _ A18.out).mono ?_); rintro e w25 ⟨rfl, hb⟩; refine ⟨_, rfl, ?_⟩; have n0_ := Aside0.mk (below_step (by repeat (first | (with_reducible first | exact HB.out | apply below_alloc | apply pw_below_drewN | apply below_drew1) | exact HB.out)) hb); clear HB; have HB := n0_; clear n0_; (try clear hb); (try clear hb2); (try clear hk); (try clear hi)) | ((with_reducible refine gate_dst (N := 65) rfl ?_); (try (refine gate_guard (by rfl) ?_; dsimp only)); refine Kd.R_lit (Kd.int .i64) _ 2 ?hg (N := 65) ?hd (xs := ([a0] : List Int)) (inner := [.int .i64 a0]) (ok := fun _ => True) (okp := fun _ => True) ?hr ?hp (fun _ hk => hk) trivial (Below.refl _ _) (Nat.le_refl _) (by simp) ?_; (case hd => rfl); (case hg => rfl); (case hr => first | (go_simp; done) | (go_simp; rfl)); (case hp => exact (Reps.one (show Kd.M (Kd.int .i64) _ _ _ a0 [.int .i64 a0] from rfl) (Reps.none _ _))); intro v321 w26 ho27 hb hg_ hnew_; clear hg_ hnew_; (first | rw [← Ny320.out] at ho27 | (simp only [Int.reduceToNat] at ho27; rw [← Ny320.out] at ho27)); have n0_ := Aside0.mk (Kd.R_lower ho27 (below_size (by repeat (first | (with_reducible first | exact HB.out | apply below_alloc | apply pw_below_drewN | apply below_drew1) | exact HB.out)))); have n1_ := Aside0.mk (below_step (by repeat (first | (with_reducible first | exact HB.out | apply below_alloc | apply pw_below_drewN | apply below_drew1) | exact HB.out)) hb); clear HB; have HO322 := n0_; have HB := n1_; clear n0_ n1_; clear hb ho27; obtain ⟨Ao28, co28, eo28⟩ := Kd.R_slice HO322.out; subst eo28) | (go_at_call 29; (with_reducible refine (pico_May.calls kj5 _ _ y320 t323 _ ?side1 ?side2 A24.out).mono ?_); (case side1 => repeat (first | exact (Kd.R_reads' HO322.out).2.2 | (with_reducible refine Kd.C_alloc ?_ _) | (with_reducible refine Kd.C_drewN ?_ _) | (with_reducible refine Kd.C_drew ?_))); (case side2 => exact (Kd.R_reads' HO322.out).2.1); rintro e w29 ⟨rfl, hb⟩; have n0_ := Aside0.mk (Kd.R_below (by (with_reducible repeat (first | apply Kd.R_alloc | apply Kd.R_drewN | apply Kd.R_drew)); exact HO322.out) hb); have n1_ := Aside0.mk (below_step (by repeat (first | (with_reducible first | exact HB.out | apply below_alloc | apply pw_below_drewN | apply below_drew1) | exact HB.out)) hb); clear HO322; clear HB; have HO322 := n0_; have HB := n1_; clear n0_ n1_; (try clear hb); (try clear hb2); (try clear hk); (try clear hi)))
     go_ret
     exact ⟨by first | rfl | (simp [errW_none, errW_some] <;> rfl) | (simp [*, errW_none, errW_some] <;> rfl), by repeat (first | (with_reducible first | exact HB.out | apply below_alloc | apply pw_below_drewN | apply below_drew1) | exact HB.out)⟩
 ·replace c4 := Bool.eq_false_iff.mpr c4
  subst c4
  have H1 : (some false) = some r := by rw [if_neg (show ¬ (false = true) by decide)] at H; exact H
  clear H
  have H := H1
  clear H1
  obtain rfl := Option.some.inj H
  exact absurd hr_.out (by decide)

end Go.Proofs.Ytmkjljekofondaa.Print
