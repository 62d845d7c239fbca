-- PRINTED by print.py (a twelfth state) out of the translation. Not trusted: Lean checks it.
import Derived.Test.YtmkjljekofondaaPrint0
import Derived.Test.YtmkjljekofondaaPrint1
import Derived.Test.YtmkjljekofondaaPrint4
import Derived.Test.YtmkjljekofondaaPrint7
import Derived.Test.YtmkjljekofondaaPrint11
import Derived.Test.YtmkjljekofondaaPrint12
import Derived.Test.YtmkjljekofondaaPrint13
import Derived.Test.YtmkjljekofondaaPrint14
namespace Go.Proofs.Ytmkjljekofondaa.Print
open Go.RowKit Go.Proofs.YtmkjljekofondaaW.PrintWords Go.Proofs.YtmkjljekofondaaW.PrintLast Go.Proofs.YtmkjljekofondaaW.PrintMore Go.Proofs.YtmkjljekofondaaX
attribute [local go_sem] str_lss str_geq max2_int min2_int max_two min_two max_three min_three max_four min_four   -- for this text's walks alone
set_option linter.unusedVariables false
set_option linter.unusedSimpArgs false

/-! ### palletlaw01_PicoReckons: function 11 -/
def palletlaw01_PicoReckons.f (k : Nat) (a0 : Int) (a1 : Int) (a2 : Int) : Option (Bool) := (palletlaw01_live.f k).bind fun t256 => (if t256 = true then ((pico_Add.f k a0 a1).bind fun bt257 => ((palletref01_Add.f k a0 a1).bind fun bt259 => ((pico_Sub.f k a0 a1).bind fun bt261 => ((palletref01_Sub.f k a0 a1).bind fun bt263 => ((pico_Mul.f k a0 a1).bind fun bt265 => ((palletref01_Mul.f k a0 a1).bind fun bt267 => ((pico_Scale.f k a0 a1 a2).bind fun bt269 => ((palletref01_Scale.f k a0 a1 a2).bind fun bt272 => (if bt257.1 = bt259.1 then (if bt257.2 = bt259.2 then (if bt261.1 = bt263.1 then (if bt261.2 = bt263.2 then (if bt265.1 = bt267.1 then (if bt265.2 = bt267.2 then (if bt269.1 = bt272.1 then (if bt269.2.1 = bt272.2.1 then (if bt269.2.2 = bt272.2.2 then ((pico_May.f k (([a0, a1, a2] : List Int))).bind fun t278 => ((palletref01_May.f k (([a0, a1, a2] : List Int))).bind fun t282 => (some (t278 == t282)))) else (some false)) else (some false)) else (some false)) else (some false)) else (some false)) else (some false)) else (some false)) else (some false)) else (some false)))))))))) else (some false))
theorem palletlaw01_PicoReckons.mono : ∀ a0 a1 a2 k, LeO (palletlaw01_PicoReckons.f k a0 a1 a2) (palletlaw01_PicoReckons.f (k + 1) a0 a1 a2) := by
 intro a0 a1 a2 k
 unfold palletlaw01_PicoReckons.f
 repeat' first
   | (with_reducible exact palletlaw01_live.mono _)
   | (with_reducible exact palletref01_Add.mono _ _ _)
   | (with_reducible exact palletref01_May.mono _ _)
   | (with_reducible exact palletref01_Mul.mono _ _ _)
   | (with_reducible exact palletref01_Scale.mono _ _ _ _)
   | (with_reducible exact palletref01_Sub.mono _ _ _)
   | (with_reducible exact pico_Add.mono _ _ _)
   | (with_reducible exact pico_May.mono _ _)
   | (with_reducible exact pico_Mul.mono _ _ _)
   | (with_reducible exact pico_Scale.mono _ _ _ _)
   | (with_reducible exact pico_Sub.mono _ _ _)
   | (with_reducible exact LeO.refl _)
   | (with_reducible exact LeO.none _)
   | (with_reducible refine LeO.ite ?_ ?_)
   | (with_reducible refine LeO.bind ?_ (fun _ => ?_))
   | exact palletlaw01_live.mono _
   | exact palletref01_Add.mono _ _ _
   | exact palletref01_May.mono _ _
   | exact palletref01_Mul.mono _ _ _
   | exact palletref01_Scale.mono _ _ _ _
   | exact palletref01_Sub.mono _ _ _
   | exact pico_Add.mono _ _ _
   | exact pico_May.mono _ _
   | exact pico_Mul.mono _ _ _
   | exact pico_Scale.mono _ _ _ _
   | exact pico_Sub.mono _ _ _
   | exact LeO.none _
   | refine LeO.ite ?_ ?_
   | refine LeO.bind ?_ (fun _ => ?_)
set_option maxHeartbeats 8000000 in
set_option maxRecDepth 100000 in
theorem palletlaw01_PicoReckons.calls (k : Nat) (a0 : Int) (a1 : Int) (a2 : Int) (r : Bool) (w : World) (hr_ : Aside0 (r = true)) (h : palletlaw01_PicoReckons.f k a0 a1 a2 = some r) :
  Calls Try.prog 11 #[.int .i64 a0, .int .i64 a1, .int .i64 a2] w fun e w' => e = .returned (.bool r) ∧ Below w.heap.size w w' := by
 have HB := Aside0.mk (Below.refl w.heap.size w)
 have H : ((palletlaw01_live.f k).bind fun t256 => (if t256 = true then ((pico_Add.f k a0 a1).bind fun bt257 => ((palletref01_Add.f k a0 a1).bind fun bt259 => ((pico_Sub.f k a0 a1).bind fun bt261 => ((palletref01_Sub.f k a0 a1).bind fun bt263 => ((pico_Mul.f k a0 a1).bind fun bt265 => ((palletref01_Mul.f k a0 a1).bind fun bt267 => ((pico_Scale.f k a0 a1 a2).bind fun bt269 => ((palletref01_Scale.f k a0 a1 a2).bind fun bt272 => (if bt257.1 = bt259.1 then (if bt257.2 = bt259.2 then (if bt261.1 = bt263.1 then (if bt261.2 = bt263.2 then (if bt265.1 = bt267.1 then (if bt265.2 = bt267.2 then (if bt269.1 = bt272.1 then (if bt269.2.1 = bt272.2.1 then (if bt269.2.2 = bt272.2.2 then ((pico_May.f k (([a0, a1, a2] : List Int))).bind fun t278 => ((palletref01_May.f k (([a0, a1, a2] : List Int))).bind fun t282 => (some (t278 == t282)))) else (some false)) else (some false)) else (some false)) else (some false)) else (some false)) else (some false)) else (some false)) else (some false)) else (some false)))))))))) else (some false))) = some r := h
 clear h
 replace H := Option.bind_eq_some_iff.mp H
 obtain ⟨t256, A40, H⟩ := H
 replace H : (if t256 = true then ((pico_Add.f k a0 a1).bind fun bt257 => ((palletref01_Add.f k a0 a1).bind fun bt259 => ((pico_Sub.f k a0 a1).bind fun bt261 => ((palletref01_Sub.f k a0 a1).bind fun bt263 => ((pico_Mul.f k a0 a1).bind fun bt265 => ((palletref01_Mul.f k a0 a1).bind fun bt267 => ((pico_Scale.f k a0 a1 a2).bind fun bt269 => ((palletref01_Scale.f k a0 a1 a2).bind fun bt272 => (if bt257.1 = bt259.1 then (if bt257.2 = bt259.2 then (if bt261.1 = bt263.1 then (if bt261.2 = bt263.2 then (if bt265.1 = bt267.1 then (if bt265.2 = bt267.2 then (if bt269.1 = bt272.1 then (if bt269.2.1 = bt272.2.1 then (if bt269.2.2 = bt272.2.2 then ((pico_May.f k (([a0, a1, a2] : List Int))).bind fun t278 => ((palletref01_May.f k (([a0, a1, a2] : List Int))).bind fun t282 => (some (t278 == t282)))) else (some false)) else (some false)) else (some false)) else (some false)) else (some false)) else (some false)) else (some false)) else (some false)) else (some false)))))))))) else (some false)) = some r := H
 have A4 := Aside0.mk A40
 clear A40
 by_cases c5 : t256 = true
 ·subst c5
  have H1 : ((pico_Add.f k a0 a1).bind fun bt257 => ((palletref01_Add.f k a0 a1).bind fun bt259 => ((pico_Sub.f k a0 a1).bind fun bt261 => ((palletref01_Sub.f k a0 a1).bind fun bt263 => ((pico_Mul.f k a0 a1).bind fun bt265 => ((palletref01_Mul.f k a0 a1).bind fun bt267 => ((pico_Scale.f k a0 a1 a2).bind fun bt269 => ((palletref01_Scale.f k a0 a1 a2).bind fun bt272 => (if bt257.1 = bt259.1 then (if bt257.2 = bt259.2 then (if bt261.1 = bt263.1 then (if bt261.2 = bt263.2 then (if bt265.1 = bt267.1 then (if bt265.2 = bt267.2 then (if bt269.1 = bt272.1 then (if bt269.2.1 = bt272.2.1 then (if bt269.2.2 = bt272.2.2 then ((pico_May.f k (([a0, a1, a2] : List Int))).bind fun t278 => ((palletref01_May.f k (([a0, a1, a2] : List Int))).bind fun t282 => (some (t278 == t282)))) else (some false)) else (some false)) else (some false)) else (some false)) else (some false)) else (some false)) else (some false)) else (some false)) else (some false)))))))))) = some r := by rw [if_pos rfl] at H; exact H
  clear H
  have H := H1
  clear H1
  replace H := Option.bind_eq_some_iff.mp H
  obtain ⟨⟨t257, t258⟩, A60, H⟩ := H
  replace H : ((palletref01_Add.f k a0 a1).bind fun bt259 => ((pico_Sub.f k a0 a1).bind fun bt261 => ((palletref01_Sub.f k a0 a1).bind fun bt263 => ((pico_Mul.f k a0 a1).bind fun bt265 => ((palletref01_Mul.f k a0 a1).bind fun bt267 => ((pico_Scale.f k a0 a1 a2).bind fun bt269 => ((palletref01_Scale.f k a0 a1 a2).bind fun bt272 => (if t257 = bt259.1 then (if t258 = bt259.2 then (if bt261.1 = bt263.1 then (if bt261.2 = bt263.2 then (if bt265.1 = bt267.1 then (if bt265.2 = bt267.2 then (if bt269.1 = bt272.1 then (if bt269.2.1 = bt272.2.1 then (if bt269.2.2 = bt272.2.2 then ((pico_May.f k (([a0, a1, a2] : List Int))).bind fun t278 => ((palletref01_May.f k (([a0, a1, a2] : List Int))).bind fun t282 => (some (t278 == t282)))) else (some false)) else (some false)) else (some false)) else (some false)) else (some false)) else (some false)) else (some false)) else (some false)) else (some false))))))))) = some r := H
  have A6 := Aside0.mk A60
  clear A60
  replace H := Option.bind_eq_some_iff.mp H
  obtain ⟨⟨t259, t260⟩, A70, H⟩ := H
  replace H : ((pico_Sub.f k a0 a1).bind fun bt261 => ((palletref01_Sub.f k a0 a1).bind fun bt263 => ((pico_Mul.f k a0 a1).bind fun bt265 => ((palletref01_Mul.f k a0 a1).bind fun bt267 => ((pico_Scale.f k a0 a1 a2).bind fun bt269 => ((palletref01_Scale.f k a0 a1 a2).bind fun bt272 => (if t257 = t259 then (if t258 = t260 then (if bt261.1 = bt263.1 then (if bt261.2 = bt263.2 then (if bt265.1 = bt267.1 then (if bt265.2 = bt267.2 then (if bt269.1 = bt272.1 then (if bt269.2.1 = bt272.2.1 then (if bt269.2.2 = bt272.2.2 then ((pico_May.f k (([a0, a1, a2] : List Int))).bind fun t278 => ((palletref01_May.f k (([a0, a1, a2] : List Int))).bind fun t282 => (some (t278 == t282)))) else (some false)) else (some false)) else (some false)) else (some false)) else (some false)) else (some false)) else (some false)) else (some false)) else (some false)))))))) = some r := H
  have A7 := Aside0.mk A70
  clear A70
  replace H := Option.bind_eq_some_iff.mp H
  obtain ⟨⟨t261, t262⟩, A80, H⟩ := H
  replace H : ((palletref01_Sub.f k a0 a1).bind fun bt263 => ((pico_Mul.f k a0 a1).bind fun bt265 => ((palletref01_Mul.f k a0 a1).bind fun bt267 => ((pico_Scale.f k a0 a1 a2).bind fun bt269 => ((palletref01_Scale.f k a0 a1 a2).bind fun bt272 => (if t257 = t259 then (if t258 = t260 then (if t261 = bt263.1 then (if t262 = bt263.2 then (if bt265.1 = bt267.1 then (if bt265.2 = bt267.2 then (if bt269.1 = bt272.1 then (if bt269.2.1 = bt272.2.1 then (if bt269.2.2 = bt272.2.2 then ((pico_May.f k (([a0, a1, a2] : List Int))).bind fun t278 => ((palletref01_May.f k (([a0, a1, a2] : List Int))).bind fun t282 => (some (t278 == t282)))) else (some false)) else (some false)) else (some false)) else (some false)) else (some false)) else (some false)) else (some false)) else (some false)) else (some false))))))) = some r := H
  have A8 := Aside0.mk A80
  clear A80
  replace H := Option.bind_eq_some_iff.mp H
  obtain ⟨⟨t263, t264⟩, A90, H⟩ := H
  replace H : ((pico_Mul.f k a0 a1).bind fun bt265 => ((palletref01_Mul.f k a0 a1).bind fun bt267 => ((pico_Scale.f k a0 a1 a2).bind fun bt269 => ((palletref01_Scale.f k a0 a1 a2).bind fun bt272 => (if t257 = t259 then (if t258 = t260 then (if t261 = t263 then (if t262 = t264 then (if bt265.1 = bt267.1 then (if bt265.2 = bt267.2 then (if bt269.1 = bt272.1 then (if bt269.2.1 = bt272.2.1 then (if bt269.2.2 = bt272.2.2 then ((pico_May.f k (([a0, a1, a2] : List Int))).bind fun t278 => ((palletref01_May.f k (([a0, a1, a2] : List Int))).bind fun t282 => (some (t278 == t282)))) else (some false)) else (some false)) else (some false)) else (some false)) else (some false)) else (some false)) else (some false)) else (some false)) else (some false)))))) = some r := H
  have A9 := Aside0.mk A90
  clear A90
  replace H := Option.bind_eq_some_iff.mp H
  obtain ⟨⟨t265, t266⟩, A100, H⟩ := H
  replace H : ((palletref01_Mul.f k a0 a1).bind fun bt267 => ((pico_Scale.f k a0 a1 a2).bind fun bt269 => ((palletref01_Scale.f k a0 a1 a2).bind fun bt272 => (if t257 = t259 then (if t258 = t260 then (if t261 = t263 then (if t262 = t264 then (if t265 = bt267.1 then (if t266 = bt267.2 then (if bt269.1 = bt272.1 then (if bt269.2.1 = bt272.2.1 then (if bt269.2.2 = bt272.2.2 then ((pico_May.f k (([a0, a1, a2] : List Int))).bind fun t278 => ((palletref01_May.f k (([a0, a1, a2] : List Int))).bind fun t282 => (some (t278 == t282)))) else (some false)) else (some false)) else (some false)) else (some false)) else (some false)) else (some false)) else (some false)) else (some false)) else (some false))))) = some r := H
  have A10 := Aside0.mk A100
  clear A100
  replace H := Option.bind_eq_some_iff.mp H
  obtain ⟨⟨t267, t268⟩, A110, H⟩ := H
  replace H : ((pico_Scale.f k a0 a1 a2).bind fun bt269 => ((palletref01_Scale.f k a0 a1 a2).bind fun bt272 => (if t257 = t259 then (if t258 = t260 then (if t261 = t263 then (if t262 = t264 then (if t265 = t267 then (if t266 = t268 then (if bt269.1 = bt272.1 then (if bt269.2.1 = bt272.2.1 then (if bt269.2.2 = bt272.2.2 then ((pico_May.f k (([a0, a1, a2] : List Int))).bind fun t278 => ((palletref01_May.f k (([a0, a1, a2] : List Int))).bind fun t282 => (some (t278 == t282)))) else (some false)) else (some false)) else (some false)) else (some false)) else (some false)) else (some false)) else (some false)) else (some false)) else (some false)))) = some r := H
  have A11 := Aside0.mk A110
  clear A110
  replace H := Option.bind_eq_some_iff.mp H
  obtain ⟨⟨t269, t270, t271⟩, A120, H⟩ := H
  replace H : ((palletref01_Scale.f k a0 a1 a2).bind fun bt272 => (if t257 = t259 then (if t258 = t260 then (if t261 = t263 then (if t262 = t264 then (if t265 = t267 then (if t266 = t268 then (if t269 = bt272.1 then (if t270 = bt272.2.1 then (if t271 = bt272.2.2 then ((pico_May.f k (([a0, a1, a2] : List Int))).bind fun t278 => ((palletref01_May.f k (([a0, a1, a2] : List Int))).bind fun t282 => (some (t278 == t282)))) else (some false)) else (some false)) else (some false)) else (some false)) else (some false)) else (some false)) else (some false)) else (some false)) else (some false))) = some r := H
  have A12 := Aside0.mk A120
  clear A120
  replace H := Option.bind_eq_some_iff.mp H
  obtain ⟨⟨t272, t273, t274⟩, A130, H⟩ := H
  replace H : (if t257 = t259 then (if t258 = t260 then (if t261 = t263 then (if t262 = t264 then (if t265 = t267 then (if t266 = t268 then (if t269 = t272 then (if t270 = t273 then (if t271 = t274 then ((pico_May.f k (([a0, a1, a2] : List Int))).bind fun t278 => ((palletref01_May.f k (([a0, a1, a2] : List Int))).bind fun t282 => (some (t278 == t282)))) else (some false)) else (some false)) else (some false)) else (some false)) else (some false)) else (some false)) else (some false)) else (some false)) else (some false)) = some r := H
  have A13 := Aside0.mk A130
  clear A130
  by_cases c14 : t257 = t259
  ·rw [if_pos c14] at H
   have c14b0 : (t257 == t259) = true := beq_iff_eq.mpr c14
   have c14b1 : (t257 != t259) = false := bne_eq_false_iff_eq.mpr c14
   clear c14
   by_cases c15 : t258 = t260
   ·rw [if_pos c15] at H
    have c15b0 : (t258 == t260) = true := beq_iff_eq.mpr c15
    have c15b1 : (t258 != t260) = false := bne_eq_false_iff_eq.mpr c15
    clear c15
    by_cases c16 : t261 = t263
    ·rw [if_pos c16] at H
     have c16b0 : (t261 == t263) = true := beq_iff_eq.mpr c16
     have c16b1 : (t261 != t263) = false := bne_eq_false_iff_eq.mpr c16
     clear c16
     by_cases c17 : t262 = t264
     ·rw [if_pos c17] at H
      have c17b0 : (t262 == t264) = true := beq_iff_eq.mpr c17
      have c17b1 : (t262 != t264) = false := bne_eq_false_iff_eq.mpr c17
      clear c17
      by_cases c18 : t265 = t267
      ·rw [if_pos c18] at H
       have c18b0 : (t265 == t267) = true := beq_iff_eq.mpr c18
       have c18b1 : (t265 != t267) = false := bne_eq_false_iff_eq.mpr c18
       clear c18
       by_cases c19 : t266 = t268
       ·rw [if_pos c19] at H
        have c19b0 : (t266 == t268) = true := beq_iff_eq.mpr c19
        have c19b1 : (t266 != t268) = false := bne_eq_false_iff_eq.mpr c19
        clear c19
        by_cases c20 : t269 = t272
        ·rw [if_pos c20] at H
         have c20b0 : (t269 == t272) = true := beq_iff_eq.mpr c20
         have c20b1 : (t269 != t272) = false := bne_eq_false_iff_eq.mpr c20
         clear c20
         by_cases c21 : t270 = t273
         ·rw [if_pos c21] at H
          have c21b0 : (t270 == t273) = true := beq_iff_eq.mpr c21
          have c21b1 : (t270 != t273) = false := bne_eq_false_iff_eq.mpr c21
          clear c21
          by_cases c22 : t271 = t274
          ·rw [if_pos c22] at H
           have c22b0 : (t271 == t274) = true := beq_iff_eq.mpr c22
           have c22b1 : (t271 != t274) = false := bne_eq_false_iff_eq.mpr c22
           clear c22
           obtain ⟨y275, hy275⟩ : ∃ y_ : List Int, y_ = (([a0, a1, a2] : List Int)) := ⟨_, rfl⟩
           replace H : ((pico_May.f k y275).bind fun t278 => ((palletref01_May.f k (([a0, a1, a2] : List Int))).bind fun t282 => (some (t278 == t282)))) = some r := by first | (rw [hy275]; with_reducible exact H) | (have H2_ := (Option.bind_some _ _).symm.trans H; rw [hy275]; with_reducible exact H2_) | (have H2_ := (Option.bind_some _ _).symm.trans H; with_reducible exact H2_) | with_reducible exact H | (rw [hy275]; exact H) | exact H
           have Ny275 := Aside0.mk hy275
           clear hy275
           replace H := Option.bind_eq_some_iff.mp H
           obtain ⟨t278, A230, H⟩ := H
           replace H : ((palletref01_May.f k (([a0, a1, a2] : List Int))).bind fun t282 => (some (t278 == t282))) = some r := H
           have A23 := Aside0.mk A230
           clear A230
           obtain ⟨y279, hy279⟩ : ∃ y_ : List Int, y_ = (([a0, a1, a2] : List Int)) := ⟨_, rfl⟩
           replace H : ((palletref01_May.f k y279).bind fun t282 => (some (t278 == t282))) = some r := by first | (rw [hy279]; with_reducible exact H) | (have H2_ := (Option.bind_some _ _).symm.trans H; rw [hy279]; with_reducible exact H2_) | (have H2_ := (Option.bind_some _ _).symm.trans H; with_reducible exact H2_) | with_reducible exact H | (rw [hy279]; exact H) | exact H
           have Ny279 := Aside0.mk hy279
           clear hy279
           replace H := Option.bind_eq_some_iff.mp H
           obtain ⟨t282, A240, H⟩ := H
           replace H : (some (t278 == t282)) = some r := H
           have A24 := Aside0.mk A240
           clear A240
           obtain rfl := Option.some.inj H
           go_enter Try.func11, Try.ntmps11
           go_wp2_with (first | ((with_reducible refine gate_callee (f := 20) rfl ?_); refine goesL_ (some 26) rfl rfl Try.func20 (by kernel_rfl) rfl #[] rfl (by (try simp only [List.map_toArray, List.map_cons, List.map_nil]); first | done | rfl | (simp only [List.length_drop, List.length_take]; rfl)) ?_; (with_reducible refine (palletlaw01_live.calls k  true _ A4.out).mono ?_); rintro e w25 ⟨rfl, hb⟩; refine ⟨_, rfl, ?_⟩; have n0_ := Aside0.mk (below_step (by repeat (first | (with_reducible first | exact HB.out | apply below_alloc | apply pw_below_drewN | apply below_drew1) | exact HB.out)) hb); clear HB; have HB := n0_; clear n0_; (try clear hb); (try clear hb2); (try clear hk); (try clear hi)) | ((with_reducible refine gate_callee (f := 22) rfl ?_); refine goesL_ (some 32) rfl rfl Try.func22 (by kernel_rfl) rfl #[.int .i64 a0, .int .i64 a1] rfl (by (try simp only [List.map_toArray, List.map_cons, List.map_nil]); first | done | rfl | (simp only [List.length_drop, List.length_take]; rfl)) ?_; (with_reducible refine (pico_Add.calls k a0 a1 t257 t258 _ A6.out).mono ?_); rintro e w26 ⟨rfl, hb⟩; refine ⟨_, rfl, ?_⟩; have n0_ := Aside0.mk (below_step (by repeat (first | (with_reducible first | exact HB.out | apply below_alloc | apply pw_below_drewN | apply below_drew1) | exact HB.out)) hb); clear HB; have HB := n0_; clear n0_; (try clear hb); (try clear hb2); (try clear hk); (try clear hi)) | ((with_reducible refine gate_callee (f := 23) rfl ?_); refine goesL_ (some 38) rfl rfl Try.func23 (by kernel_rfl) rfl #[.int .i64 a0, .int .i64 a1] rfl (by (try simp only [List.map_toArray, List.map_cons, List.map_nil]); first | done | rfl | (simp only [List.length_drop, List.length_take]; rfl)) ?_; (with_reducible refine (palletref01_Add.calls k a0 a1 t259 t260 _ A7.out).mono ?_); rintro e w27 ⟨rfl, hb⟩; refine ⟨_, rfl, ?_⟩; have n0_ := Aside0.mk (below_step (by repeat (first | (with_reducible first | exact HB.out | apply below_alloc | apply pw_below_drewN | apply below_drew1) | exact HB.out)) hb); clear HB; have HB := n0_; clear n0_; (try clear hb); (try clear hb2); (try clear hk); (try clear hi)) | ((with_reducible refine gate_callee (f := 24) rfl ?_); refine goesL_ (some 44) rfl rfl Try.func24 (by kernel_rfl) rfl #[.int .i64 a0, .int .i64 a1] rfl (by (try simp only [List.map_toArray, List.map_cons, List.map_nil]); first | done | rfl | (simp only [List.length_drop, List.length_take]; rfl)) ?_; (with_reducible refine (pico_Sub.calls k a0 a1 t261 t262 _ A8.out).mono ?_); rintro e w28 ⟨rfl, hb⟩; refine ⟨_, rfl, ?_⟩; have n0_ := Aside0.mk (below_step (by repeat (first | (with_reducible first | exact HB.out | apply below_alloc | apply pw_below_drewN | apply below_drew1) | exact HB.out)) hb); clear HB; have HB := n0_; clear n0_; (try clear hb); (try clear hb2); (try clear hk); (try clear hi)) | ((with_reducible refine gate_callee (f := 25) rfl ?_); refine goesL_ (some 50) rfl rfl Try.func25 (by kernel_rfl) rfl #[.int .i64 a0, .int .i64 a1] rfl (by (try simp only [List.map_toArray, List.map_cons, List.map_nil]); first | done | rfl | (simp only [List.length_drop, List.length_take]; rfl)) ?_; (with_reducible refine (palletref01_Sub.calls k a0 a1 t263 t264 _ A9.out).mono ?_); rintro e w29 ⟨rfl, hb⟩; refine ⟨_, rfl, ?_⟩; have n0_ := Aside0.mk (below_step (by repeat (first | (with_reducible first | exact HB.out | apply below_alloc | apply pw_below_drewN | apply below_drew1) | exact HB.out)) hb); clear HB; have HB := n0_; clear n0_; (try clear hb); (try clear hb2); (try clear hk); (try clear hi)) | ((with_reducible refine gate_callee (f := 26) rfl ?_); refine goesL_ (some 56) rfl rfl Try.func26 (by kernel_rfl) rfl #[.int .i64 a0, .int .i64 a1] rfl (by (try simp only [List.map_toArray, List.map_cons, List.map_nil]); first | done | rfl | (simp only [List.length_drop, List.length_take]; rfl)) ?_; (with_reducible refine (pico_Mul.calls k a0 a1 t265 t266 _ A10.out).mono ?_); rintro e w30 ⟨rfl, hb⟩; refine ⟨_, rfl, ?_⟩; have n0_ := Aside0.mk (below_step (by repeat (first | (with_reducible first | exact HB.out | apply below_alloc | apply pw_below_drewN | apply below_drew1) | exact HB.out)) hb); clear HB; have HB := n0_; clear n0_; (try clear hb); (try clear hb2); (try clear hk); (try clear hi)) | ((with_reducible refine gate_callee (f := 27) rfl ?_); refine goesL_ (some 62) rfl rfl Try.func27 (by kernel_rfl) rfl #[.int .i64 a0, .int .i64 a1] rfl (by (try simp only [List.map_toArray, List.map_cons, List.map_nil]); first | done | rfl | (simp only [List.length_drop, List.length_take]; rfl)) ?_; (with_reducible refine (palletref01_Mul.calls k a0 a1 t267 t268 _ A11.out).mono ?_); rintro e w31 ⟨rfl, hb⟩; refine ⟨_, rfl, ?_⟩; have n0_ := Aside0.mk (below_step (by repeat (first | (with_reducible first | exact HB.out | apply below_alloc | apply pw_below_drewN | apply below_drew1) | exact HB.out)) hb); clear HB; have HB := n0_; clear n0_; (try clear hb); (try clear hb2); (try clear hk); (try clear hi)) | ((with_reducible refine gate_callee (f := 21) rfl ?_); refine goesL_ (some 69) rfl rfl Try.func21 (by kernel_rfl) rfl #[.int .i64 a0, .int .i64 a1, .int .i64 a2] rfl (by (try simp only [List.map_toArray, List.map_cons, List.map_nil]); first | done | rfl | (simp only [List.length_drop, List.length_take]; rfl)) ?_; (with_reducible refine (pico_Scale.calls k a0 a1 a2 t269 t270 t271 _ A12.out).mono ?_); rintro e w32 ⟨rfl, hb⟩; refine ⟨_, rfl, ?_⟩; have n0_ := Aside0.mk (below_step (by repeat (first | (with_reducible first | exact HB.out | apply below_alloc | apply pw_below_drewN | apply below_drew1) | exact HB.out)) hb); clear HB; have HB := n0_; clear n0_; (try clear hb); (try clear hb2); (try clear hk); (try clear hi)) | ((with_reducible refine gate_callee (f := 28) rfl ?_); refine goesL_ (some 77) rfl rfl Try.func28 (by kernel_rfl) rfl #[.int .i64 a0, .int .i64 a1, .int .i64 a2] rfl (by (try simp only [List.map_toArray, List.map_cons, List.map_nil]); first | done | rfl | (simp only [List.length_drop, List.length_take]; rfl)) ?_; (with_reducible refine (palletref01_Scale.calls k a0 a1 a2 t272 t273 t274 _ A13.out).mono ?_); rintro e w33 ⟨rfl, hb⟩; refine ⟨_, rfl, ?_⟩; have n0_ := Aside0.mk (below_step (by repeat (first | (with_reducible first | exact HB.out | apply below_alloc | apply pw_below_drewN | apply below_drew1) | exact HB.out)) hb); clear HB; have HB := n0_; clear n0_; (try clear hb); (try clear hb2); (try clear hk); (try clear hi)) | ((with_reducible refine gate_dst (N := 131) rfl ?_); (try (refine gate_guard (by rfl) ?_; dsimp only)); refine Kd.R_lit (Kd.int .i64) _ 2 ?hg (N := 131) ?hd (xs := ([a0, a1, a2] : List Int)) (inner := [.int .i64 a0, .int .i64 a1, .int .i64 a2]) (ok := fun _ => True) (okp := fun _ => True) ?hr ?hp (fun _ hk => hk) trivial (Below.refl _ _) (Nat.le_refl _) (by simp) ?_; (case hd => rfl); (case hg => rfl); (case hr => first | (go_simp; done) | (go_simp; rfl)); (case hp => exact (Reps.one (show Kd.M (Kd.int .i64) _ _ _ a0 [.int .i64 a0] from rfl) (Reps.one (show Kd.M (Kd.int .i64) _ _ _ a1 [.int .i64 a1] from rfl) (Reps.one (show Kd.M (Kd.int .i64) _ _ _ a2 [.int .i64 a2] from rfl) (Reps.none _ _))))); intro v276 w34 ho35 hb hg_ hnew_; clear hg_ hnew_; (first | rw [← Ny275.out] at ho35 | (simp only [Int.reduceToNat] at ho35; rw [← Ny275.out] at ho35)); have n0_ := Aside0.mk (Kd.R_lower ho35 (below_size (by repeat (first | (with_reducible first | exact HB.out | apply below_alloc | apply pw_below_drewN | apply below_drew1) | exact HB.out)))); have n1_ := Aside0.mk (below_step (by repeat (first | (with_reducible first | exact HB.out | apply below_alloc | apply pw_below_drewN | apply below_drew1) | exact HB.out)) hb); clear HB; have HO277 := n0_; have HB := n1_; clear n0_ n1_; clear hb ho35; obtain ⟨Ao36, co36, eo36⟩ := Kd.R_slice HO277.out; subst eo36) | (go_at_call 29; (with_reducible refine (pico_May.calls k _ _ y275 t278 _ ?side1 ?side2 A23.out).mono ?_); (case side1 => repeat (first | exact (Kd.R_reads' HO277.out).2.2 | (with_reducible refine Kd.C_alloc ?_ _) | (with_reducible refine Kd.C_drewN ?_ _) | (with_reducible refine Kd.C_drew ?_))); (case side2 => exact (Kd.R_reads' HO277.out).2.1); rintro e w37 ⟨rfl, hb⟩; have n0_ := Aside0.mk (Kd.R_below (by (with_reducible repeat (first | apply Kd.R_alloc | apply Kd.R_drewN | apply Kd.R_drew)); exact HO277.out) hb); have n1_ := Aside0.mk (below_step (by repeat (first | (with_reducible first | exact HB.out | apply below_alloc | apply pw_below_drewN | apply below_drew1) | exact HB.out)) hb); clear HO277; clear HB; have HO277 := n0_; have HB := n1_; clear n0_ n1_; (try clear hb); (try clear hb2); (try clear hk); (try clear hi)) | ((with_reducible refine gate_dst (N := 136) rfl ?_); (try (refine gate_guard (by rfl) ?_; dsimp only)); refine Kd.R_lit (Kd.int .i64) _ 2 ?hg (N := 136) ?hd (xs := ([a0, a1, a2] : List Int)) (inner := [.int .i64 a0, .int .i64 a1, .int .i64 a2]) (ok := fun _ => True) (okp := fun _ => True) ?hr ?hp (fun _ hk => hk) trivial (Below.refl _ _) (Nat.le_refl _) (by simp) ?_; (case hd => rfl); (case hg => rfl); (case hr => first | (go_simp; done) | (go_simp; rfl)); (case hp => exact (Reps.one (show Kd.M (Kd.int .i64) _ _ _ a0 [.int .i64 a0] from rfl) (Reps.one (show Kd.M (Kd.int .i64) _ _ _ a1 [.int .i64 a1] from rfl) (Reps.one (show Kd.M (Kd.int .i64) _ _ _ a2 [.int .i64 a2] from rfl) (Reps.none _ _))))); intro v280 w38 ho39 hb hg_ hnew_; clear hg_ hnew_; (first | rw [← Ny279.out] at ho39 | (simp only [Int.reduceToNat] at ho39; rw [← Ny279.out] at ho39)); have n0_ := Aside0.mk (Kd.R_elder' (by (with_reducible repeat (first | apply Kd.R_alloc | apply Kd.R_drewN | apply Kd.R_drew)); exact HO277.out) (Kd.R_base ho39) hb); have n1_ := Aside0.mk (Kd.R_lower (Kd.R_new' ho39 (Kd.R_lt (by (with_reducible repeat (first | apply Kd.R_alloc | apply Kd.R_drewN | apply Kd.R_drew)); exact HO277.out))) (below_size (by repeat (first | (with_reducible first | exact HB.out | apply below_alloc | apply pw_below_drewN | apply below_drew1) | exact HB.out)))); have n2_ := Aside0.mk (below_step (by repeat (first | (with_reducible first | exact HB.out | apply below_alloc | apply pw_below_drewN | apply below_drew1) | exact HB.out)) hb); clear HO277; clear HB; have HO277 := n0_; have HO281 := n1_; have HB := n2_; clear n0_ n1_ n2_; clear hb ho39; obtain ⟨Ao40, co40, eo40⟩ := Kd.R_slice HO281.out; subst eo40) | (go_at_call 30; (with_reducible refine (palletref01_May.calls k _ _ y279 t282 _ ?side1 ?side2 A24.out).mono ?_); (case side1 => repeat (first | exact (Kd.R_reads' HO281.out).2.2 | (with_reducible refine Kd.C_alloc ?_ _) | (with_reducible refine Kd.C_drewN ?_ _) | (with_reducible refine Kd.C_drew ?_))); (case side2 => exact (Kd.R_reads' HO281.out).2.1); rintro e w' ⟨rfl, ⟨nd, rfl⟩⟩))
           go_ret
           exact ⟨by first | rfl | (simp [errW_none, errW_some] <;> rfl) | (simp [*, errW_none, errW_some] <;> rfl), by repeat (first | (with_reducible first | exact HB.out | apply below_alloc | apply pw_below_drewN | apply below_drew1) | exact HB.out)⟩
          ·rw [if_neg c22] at H
           have c22b0 : (t271 == t274) = false := beq_eq_false_iff_ne.mpr c22
           have c22b1 : (t271 != t274) = true := bne_iff_ne.mpr c22
           obtain rfl := Option.some.inj H
           exact absurd hr_.out (by decide)
         ·rw [if_neg c21] at H
          have c21b0 : (t270 == t273) = false := beq_eq_false_iff_ne.mpr c21
          have c21b1 : (t270 != t273) = true := bne_iff_ne.mpr c21
          obtain rfl := Option.some.inj H
          exact absurd hr_.out (by decide)
        ·rw [if_neg c20] at H
         have c20b0 : (t269 == t272) = false := beq_eq_false_iff_ne.mpr c20
         have c20b1 : (t269 != t272) = true := bne_iff_ne.mpr c20
         obtain rfl := Option.some.inj H
         exact absurd hr_.out (by decide)
       ·rw [if_neg c19] at H
        have c19b0 : (t266 == t268) = false := beq_eq_false_iff_ne.mpr c19
        have c19b1 : (t266 != t268) = true := bne_iff_ne.mpr c19
        obtain rfl := Option.some.inj H
        exact absurd hr_.out (by decide)
      ·rw [if_neg c18] at H
       have c18b0 : (t265 == t267) = false := beq_eq_false_iff_ne.mpr c18
       have c18b1 : (t265 != t267) = true := bne_iff_ne.mpr c18
       obtain rfl := Option.some.inj H
       exact absurd hr_.out (by decide)
     ·rw [if_neg c17] at H
      have c17b0 : (t262 == t264) = false := beq_eq_false_iff_ne.mpr c17
      have c17b1 : (t262 != t264) = true := bne_iff_ne.mpr c17
      obtain rfl := Option.some.inj H
      exact absurd hr_.out (by decide)
    ·rw [if_neg c16] at H
     have c16b0 : (t261 == t263) = false := beq_eq_false_iff_ne.mpr c16
     have c16b1 : (t261 != t263) = true := bne_iff_ne.mpr c16
     obtain rfl := Option.some.inj H
     exact absurd hr_.out (by decide)
   ·rw [if_neg c15] at H
    have c15b0 : (t258 == t260) = false := beq_eq_false_iff_ne.mpr c15
    have c15b1 : (t258 != t260) = true := bne_iff_ne.mpr c15
    obtain rfl := Option.some.inj H
    exact absurd hr_.out (by decide)
  ·rw [if_neg c14] at H
   have c14b0 : (t257 == t259) = false := beq_eq_false_iff_ne.mpr c14
   have c14b1 : (t257 != t259) = true := bne_iff_ne.mpr c14
   obtain rfl := Option.some.inj H
   exact absurd hr_.out (by decide)
 ·replace c5 := Bool.eq_false_iff.mpr c5
  subst c5
  have H1 : (some false) = some r := by rw [if_neg (show ¬ (false = true) by decide)] at H; exact H
  clear H
  have H := H1
  clear H1
  obtain rfl := Option.some.inj H
  exact absurd hr_.out (by decide)

end Go.Proofs.Ytmkjljekofondaa.Print
