-- PRINTED by print.py (a twelfth state) out of the translation. Not trusted: Lean checks it.
import Derived.Test.YtmkjljekofondaaPrint0
import Derived.Test.YtmkjljekofondaaPrint6
import Derived.Test.YtmkjljekofondaaPrint7
import Derived.Test.YtmkjljekofondaaPrint16
import Derived.Test.YtmkjljekofondaaPrint17
namespace Go.Proofs.Ytmkjljekofondaa.Print
open Go.RowKit Go.Proofs.YtmkjljekofondaaW.PrintWords Go.Proofs.YtmkjljekofondaaW.PrintLast Go.Proofs.YtmkjljekofondaaW.PrintMore Go.Proofs.YtmkjljekofondaaX
attribute [local go_sem] str_lss str_geq max2_int min2_int max_two min_two max_three min_three max_four min_four   -- for this text's walks alone
set_option linter.unusedVariables false
set_option linter.unusedSimpArgs false

/-! ### palletlaw01_PicoUnits: function 12 -/
mutual
def palletlaw01_PicoUnits.l0 : Nat → Int → Int → Bool → Int → List ByteArray → Int → Int → Option (Bool)
 | 0, _, _, _, _, _, _, _ => none
 | k + 1, x0, x1, x5, x6, x22, x23, x24 => if x24 < x23 then (if 0 ≤ x24 then (if x24 < (x22.length : Int) then ((pico_Unit.f (rdOf ByteArray.empty x22 x24)).bind fun bt301 => (if bt301.2 = true then (if x24 > 0 then (palletlaw01_PicoUnits.j1 k x0 x1 x5 (rdOf ByteArray.empty x22 x24) bt301.1 x22 x23 x24 (bt301.1 != (wrap64 (1000 * x6)))) else (palletlaw01_PicoUnits.j1 k x0 x1 x5 (rdOf ByteArray.empty x22 x24) bt301.1 x22 x23 x24 false)) else (palletlaw01_PicoUnits.j1 k x0 x1 x5 (rdOf ByteArray.empty x22 x24) bt301.1 x22 x23 x24 true))) else (none)) else (none)) else ((pico_Read.f k (⟨#[49, 109]⟩ : ByteArray)).bind fun bt298 => (if x5 = true then (some (bt298.2 == 4)) else (some false)))
def palletlaw01_PicoUnits.j1 : Nat → Int → Int → Bool → ByteArray → Int → List ByteArray → Int → Int → Bool → Option (Bool)
 | 0, _, _, _, _, _, _, _, _, _ => none
 | k + 1, x0, x1, x5, x8, x9, x22, x23, x24, x45 => if x45 = true then (some false) else ((pico_Text.f k (wrap64 (x0))).bind fun bt303 => (if bt303.2 = 0 then (palletlaw01_PicoUnits.j2 k x0 x1 x5 x9 x8 x9 x22 x23 x24 (decide ((bt303.1.size : Int) < 2))) else (palletlaw01_PicoUnits.j2 k x0 x1 x5 x9 x8 x9 x22 x23 x24 true)))
def palletlaw01_PicoUnits.j2 : Nat → Int → Int → Bool → Int → ByteArray → Int → List ByteArray → Int → Int → Bool → Option (Bool)
 | 0, _, _, _, _, _, _, _, _, _, _ => none
 | k + 1, x0, x1, x5, x6, x8, x9, x22, x23, x24, x59 => if x59 = true then (some false) else (if 1 + x8.size ≤ 9223372036854775807 then ((pico_Read.f k ((⟨#[49]⟩ : ByteArray) ++ x8)).bind fun bt305 => (if 0 ≤ (Int.tmod x1 11) then (if (Int.tmod x1 11) ≤ 10 then (if ((⟨#[48, 48, 48, 48, 48, 48, 48, 48, 48, 48]⟩ : ByteArray).extract 0 ((Int.tmod x1 11) : Int).toNat).size + 2 ≤ 9223372036854775807 then (if (((⟨#[48, 48, 48, 48, 48, 48, 48, 48, 48, 48]⟩ : ByteArray).extract 0 ((Int.tmod x1 11) : Int).toNat) ++ (⟨#[50, 53]⟩ : ByteArray)).size + x8.size ≤ 9223372036854775807 then ((pico_Read.f k ((((⟨#[48, 48, 48, 48, 48, 48, 48, 48, 48, 48]⟩ : ByteArray).extract 0 ((Int.tmod x1 11) : Int).toNat) ++ (⟨#[50, 53]⟩ : ByteArray)) ++ x8)).bind fun bt307 => (if bt305.2 = 0 then (if bt305.1 = x9 then (if bt307.2 = 0 then (if bt307.1 = (wrap64 (25 * x9)) then (palletlaw01_PicoUnits.l0 k x0 x1 x5 x6 x22 x23 (wrap64 (x24 + 1))) else (some false)) else (some false)) else (some false)) else (some false))) else (none)) else (none)) else (none)) else (none))) else (none))
end
def palletlaw01_PicoUnits.f (k : Nat) (a0 : Int) (a1 : Int) : Option (Bool) := (palletlaw01_live.f k).bind fun t294 => (if t294 = true then ((some (([(⟨#[112, 115]⟩ : ByteArray), (⟨#[110, 115]⟩ : ByteArray), (⟨#[117, 115]⟩ : ByteArray), (⟨#[109, 115]⟩ : ByteArray), (⟨#[115]⟩ : ByteArray)] : List ByteArray) : List ByteArray)).bind fun y295 => (palletlaw01_PicoUnits.l0 k a0 a1 t294 0 y295 (y295.length : Int) 0)) else (some false))
theorem palletlaw01_PicoUnits.mono_l : ∀ k, (∀ y0 y1 y2 y3 y4 y5 y6, LeO (palletlaw01_PicoUnits.l0 k y0 y1 y2 y3 y4 y5 y6) (palletlaw01_PicoUnits.l0 (k + 1) y0 y1 y2 y3 y4 y5 y6)) ∧ (∀ y0 y1 y2 y3 y4 y5 y6 y7 y8, LeO (palletlaw01_PicoUnits.j1 k y0 y1 y2 y3 y4 y5 y6 y7 y8) (palletlaw01_PicoUnits.j1 (k + 1) y0 y1 y2 y3 y4 y5 y6 y7 y8)) ∧ (∀ y0 y1 y2 y3 y4 y5 y6 y7 y8 y9, LeO (palletlaw01_PicoUnits.j2 k y0 y1 y2 y3 y4 y5 y6 y7 y8 y9) (palletlaw01_PicoUnits.j2 (k + 1) y0 y1 y2 y3 y4 y5 y6 y7 y8 y9))
 | 0 => ⟨fun _ _ _ _ _ _ _ r h => by simp [palletlaw01_PicoUnits.l0] at h, fun _ _ _ _ _ _ _ _ _ r h => by simp [palletlaw01_PicoUnits.j1] at h, fun _ _ _ _ _ _ _ _ _ _ r h => by simp [palletlaw01_PicoUnits.j2] at h⟩
 | k + 1 => by
  obtain ⟨ih0, ih1, ih2⟩ := palletlaw01_PicoUnits.mono_l k
  refine ⟨?_, ?_, ?_⟩
  ·intro y0 y1 y2 y3 y4 y5 y6
   unfold palletlaw01_PicoUnits.l0
   repeat' first
   | (with_reducible exact ih0 _ _ _ _ _ _ _)
   | (with_reducible exact ih1 _ _ _ _ _ _ _ _ _)
   | (with_reducible exact ih2 _ _ _ _ _ _ _ _ _ _)
   | (with_reducible exact palletlaw01_live.mono _)
   | (with_reducible exact pico_Read.mono _ _)
   | (with_reducible exact pico_Text.mono _ _)
   | (with_reducible exact LeO.refl _)
   | (with_reducible exact LeO.none _)
   | (with_reducible refine LeO.ite ?_ ?_)
   | (with_reducible refine LeO.bind ?_ (fun _ => ?_))
   | exact ih0 _ _ _ _ _ _ _
   | exact ih1 _ _ _ _ _ _ _ _ _
   | exact ih2 _ _ _ _ _ _ _ _ _ _
   | exact palletlaw01_live.mono _
   | exact pico_Read.mono _ _
   | exact pico_Text.mono _ _
   | exact LeO.none _
   | refine LeO.ite ?_ ?_
   | refine LeO.bind ?_ (fun _ => ?_)
  ·intro y0 y1 y2 y3 y4 y5 y6 y7 y8
   unfold palletlaw01_PicoUnits.j1
   repeat' first
   | (with_reducible exact ih0 _ _ _ _ _ _ _)
   | (with_reducible exact ih1 _ _ _ _ _ _ _ _ _)
   | (with_reducible exact ih2 _ _ _ _ _ _ _ _ _ _)
   | (with_reducible exact palletlaw01_live.mono _)
   | (with_reducible exact pico_Read.mono _ _)
   | (with_reducible exact pico_Text.mono _ _)
   | (with_reducible exact LeO.refl _)
   | (with_reducible exact LeO.none _)
   | (with_reducible refine LeO.ite ?_ ?_)
   | (with_reducible refine LeO.bind ?_ (fun _ => ?_))
   | exact ih0 _ _ _ _ _ _ _
   | exact ih1 _ _ _ _ _ _ _ _ _
   | exact ih2 _ _ _ _ _ _ _ _ _ _
   | exact palletlaw01_live.mono _
   | exact pico_Read.mono _ _
   | exact pico_Text.mono _ _
   | exact LeO.none _
   | refine LeO.ite ?_ ?_
   | refine LeO.bind ?_ (fun _ => ?_)
  ·intro y0 y1 y2 y3 y4 y5 y6 y7 y8 y9
   unfold palletlaw01_PicoUnits.j2
   repeat' first
   | (with_reducible exact ih0 _ _ _ _ _ _ _)
   | (with_reducible exact ih1 _ _ _ _ _ _ _ _ _)
   | (with_reducible exact ih2 _ _ _ _ _ _ _ _ _ _)
   | (with_reducible exact palletlaw01_live.mono _)
   | (with_reducible exact pico_Read.mono _ _)
   | (with_reducible exact pico_Text.mono _ _)
   | (with_reducible exact LeO.refl _)
   | (with_reducible exact LeO.none _)
   | (with_reducible refine LeO.ite ?_ ?_)
   | (with_reducible refine LeO.bind ?_ (fun _ => ?_))
   | exact ih0 _ _ _ _ _ _ _
   | exact ih1 _ _ _ _ _ _ _ _ _
   | exact ih2 _ _ _ _ _ _ _ _ _ _
   | exact palletlaw01_live.mono _
   | exact pico_Read.mono _ _
   | exact pico_Text.mono _ _
   | exact LeO.none _
   | refine LeO.ite ?_ ?_
   | refine LeO.bind ?_ (fun _ => ?_)
theorem palletlaw01_PicoUnits.mono : ∀ a0 a1 k, LeO (palletlaw01_PicoUnits.f k a0 a1) (palletlaw01_PicoUnits.f (k + 1) a0 a1) := by
 intro a0 a1 k
 obtain ⟨ih0, ih1, ih2⟩ := palletlaw01_PicoUnits.mono_l k
 unfold palletlaw01_PicoUnits.f
 repeat' first
   | (with_reducible exact ih0 _ _ _ _ _ _ _)
   | (with_reducible exact ih1 _ _ _ _ _ _ _ _ _)
   | (with_reducible exact ih2 _ _ _ _ _ _ _ _ _ _)
   | (with_reducible exact palletlaw01_live.mono _)
   | (with_reducible exact pico_Read.mono _ _)
   | (with_reducible exact pico_Text.mono _ _)
   | (with_reducible exact LeO.refl _)
   | (with_reducible exact LeO.none _)
   | (with_reducible refine LeO.ite ?_ ?_)
   | (with_reducible refine LeO.bind ?_ (fun _ => ?_))
   | exact ih0 _ _ _ _ _ _ _
   | exact ih1 _ _ _ _ _ _ _ _ _
   | exact ih2 _ _ _ _ _ _ _ _ _ _
   | exact palletlaw01_live.mono _
   | exact pico_Read.mono _ _
   | exact pico_Text.mono _ _
   | exact LeO.none _
   | refine LeO.ite ?_ ?_
   | refine LeO.bind ?_ (fun _ => ?_)
set_option maxHeartbeats 8000000 in
set_option maxRecDepth 100000 in
theorem palletlaw01_PicoUnits.calls (k : Nat) (a0 : Int) (a1 : Int) (r : Bool) (w : World) (hr_ : Aside0 (r = true)) (h : palletlaw01_PicoUnits.f k a0 a1 = some r) :
  Calls Try.prog 12 #[.int .i32 a0, .int .u8 a1] w fun e w' => e = .returned (.bool r) ∧ Below w.heap.size w w' := by
 have HB := Aside0.mk (Below.refl w.heap.size w)
 have H : ((palletlaw01_live.f k).bind fun t294 => (if t294 = true then ((some (([(⟨#[112, 115]⟩ : ByteArray), (⟨#[110, 115]⟩ : ByteArray), (⟨#[117, 115]⟩ : ByteArray), (⟨#[109, 115]⟩ : ByteArray), (⟨#[115]⟩ : ByteArray)] : List ByteArray) : List ByteArray)).bind fun y295 => (palletlaw01_PicoUnits.l0 k a0 a1 t294 0 y295 (y295.length : Int) 0)) else (some false))) = some r := h
 clear h
 replace H := Option.bind_eq_some_iff.mp H
 obtain ⟨t294, A30, H⟩ := H
 replace H : (if t294 = true then ((some (([(⟨#[112, 115]⟩ : ByteArray), (⟨#[110, 115]⟩ : ByteArray), (⟨#[117, 115]⟩ : ByteArray), (⟨#[109, 115]⟩ : ByteArray), (⟨#[115]⟩ : ByteArray)] : List ByteArray) : List ByteArray)).bind fun y295 => (palletlaw01_PicoUnits.l0 k a0 a1 t294 0 y295 (y295.length : Int) 0)) else (some false)) = some r := H
 have A3 := Aside0.mk A30
 clear A30
 by_cases c4 : t294 = true
 ·subst c4
  have H1 : ((some (([(⟨#[112, 115]⟩ : ByteArray), (⟨#[110, 115]⟩ : ByteArray), (⟨#[117, 115]⟩ : ByteArray), (⟨#[109, 115]⟩ : ByteArray), (⟨#[115]⟩ : ByteArray)] : List ByteArray) : List ByteArray)).bind fun y295 => (palletlaw01_PicoUnits.l0 k a0 a1 true 0 y295 (y295.length : Int) 0)) = some r := by rw [if_pos rfl] at H; exact H
  clear H
  have H := H1
  clear H1
  obtain ⟨y295, hy295⟩ : ∃ y_ : List ByteArray, y_ = (([(⟨#[112, 115]⟩ : ByteArray), (⟨#[110, 115]⟩ : ByteArray), (⟨#[117, 115]⟩ : ByteArray), (⟨#[109, 115]⟩ : ByteArray), (⟨#[115]⟩ : ByteArray)] : List ByteArray)) := ⟨_, rfl⟩
  replace H : (palletlaw01_PicoUnits.l0 k a0 a1 true 0 y295 (y295.length : Int) 0) = some r := by first | (rw [hy295]; with_reducible exact H) | (have H2_ := (Option.bind_some _ _).symm.trans H; rw [hy295]; with_reducible exact H2_) | (have H2_ := (Option.bind_some _ _).symm.trans H; with_reducible exact H2_) | with_reducible exact H | (rw [hy295]; exact H) | exact H
  have Ny295 := Aside0.mk hy295
  clear hy295
  have H' := Aside0.mk H
  clear H
  go_enter Try.func12, Try.ntmps12
  go_wp2_with (first | ((with_reducible refine gate_callee (f := 20) rfl ?_); refine goesL_ (some 19) rfl rfl Try.func20 (by kernel_rfl) rfl #[] rfl (by (try simp only [List.map_toArray, List.map_cons, List.map_nil]); first | done | rfl | (simp only [List.length_drop, List.length_take]; rfl)) ?_; (with_reducible refine (palletlaw01_live.calls k  true _ A3.out).mono ?_); rintro e w5 ⟨rfl, hb⟩; refine ⟨_, rfl, ?_⟩; have n0_ := Aside0.mk (below_step (by repeat (first | (with_reducible first | exact HB.out | apply below_alloc | apply pw_below_drewN | apply below_drew1) | exact HB.out)) hb); clear HB; have HB := n0_; clear n0_; (try clear hb); (try clear hb2); (try clear hk); (try clear hi)) | ((with_reducible refine gate_dst (N := 22) rfl ?_); (try (refine gate_guard (by rfl) ?_; dsimp only)); refine Kd.R_lit Kd.string _ 9 ?hg (N := 22) ?hd (xs := ([(⟨#[112, 115]⟩ : ByteArray), (⟨#[110, 115]⟩ : ByteArray), (⟨#[117, 115]⟩ : ByteArray), (⟨#[109, 115]⟩ : ByteArray), (⟨#[115]⟩ : ByteArray)] : List ByteArray)) (inner := [.string (⟨#[112, 115]⟩ : ByteArray), .string (⟨#[110, 115]⟩ : ByteArray), .string (⟨#[117, 115]⟩ : ByteArray), .string (⟨#[109, 115]⟩ : ByteArray), .string (⟨#[115]⟩ : ByteArray)]) (ok := fun _ => True) (okp := fun _ => True) ?hr ?hp (fun _ hk => hk) trivial (Below.refl _ _) (Nat.le_refl _) (by simp) ?_; (case hd => rfl); (case hg => rfl); (case hr => first | (go_simp; done) | (go_simp; rfl)); (case hp => exact (Reps.one (show Kd.M Kd.string _ _ _ (⟨#[112, 115]⟩ : ByteArray) [.string (⟨#[112, 115]⟩ : ByteArray)] from rfl) (Reps.one (show Kd.M Kd.string _ _ _ (⟨#[110, 115]⟩ : ByteArray) [.string (⟨#[110, 115]⟩ : ByteArray)] from rfl) (Reps.one (show Kd.M Kd.string _ _ _ (⟨#[117, 115]⟩ : ByteArray) [.string (⟨#[117, 115]⟩ : ByteArray)] from rfl) (Reps.one (show Kd.M Kd.string _ _ _ (⟨#[109, 115]⟩ : ByteArray) [.string (⟨#[109, 115]⟩ : ByteArray)] from rfl) (Reps.one (show Kd.M Kd.string _ _ _ (⟨#[115]⟩ : ByteArray) [.string (⟨#[115]⟩ : ByteArray)] from rfl) (Reps.none _ _))))))); intro v296 w6 ho7 hb hg_ hnew_; clear hg_ hnew_; (first | rw [← Ny295.out] at ho7 | (simp only [Int.reduceToNat] at ho7; rw [← Ny295.out] at ho7)); have n0_ := Aside0.mk (Kd.R_lower ho7 (below_size (by repeat (first | (with_reducible first | exact HB.out | apply below_alloc | apply pw_below_drewN | apply below_drew1) | exact HB.out)))); have n1_ := Aside0.mk (below_step (by repeat (first | (with_reducible first | exact HB.out | apply below_alloc | apply pw_below_drewN | apply below_drew1) | exact HB.out)) hb); clear HB; have HO297 := n0_; have HB := n1_; clear n0_ n1_; clear hb ho7; obtain ⟨Ao8, co8, eo8⟩ := Kd.R_slice HO297.out; subst eo8))
  go_loopg [6, 24] k (fun kq v6 v24 w' => ∃ (x6_1 : Int) (x24_1 : Int), v6 = .int .i64 x6_1 ∧ v24 = .int .i64 x24_1 ∧ Aside0 (palletlaw01_PicoUnits.l0 kq a0 a1 true x6_1 y295 (y295.length : Int) x24_1 = some r) ∧ Aside0 (kq ≤ k) ∧ Aside0 (Kd.R Kd.string 9 w' w.heap.size (fun _ => True) (.slice Ao8 y295.length co8) y295) ∧ Aside0 (Below w.heap.size w w'))
  case atStart => exact ⟨(0), (0), (by first | rfl | (simp; done) | (simp [*]; done)), (by first | rfl | (simp; done) | (simp [*]; done)), H', ⟨Nat.le_refl _⟩, ⟨by (with_reducible repeat (first | apply Kd.R_alloc | apply Kd.R_drewN | apply Kd.R_drew)); exact HO297.out⟩, ⟨by repeat (first | (with_reducible first | exact HB.out | apply below_alloc | apply pw_below_drewN | apply below_drew1) | exact HB.out)⟩⟩
  case round =>
   clear H'
   try clear c1
   try clear c2
   try clear p2
   try clear c4
   obtain ⟨x6_1, x24_1, rfl, rfl, HA, HK1, HO_22, HB⟩ := hrel
   cases gk with
   | zero => exact absurd HA.out (by simp [palletlaw01_PicoUnits.l0])
   | succ k1 =>
    have H := HA.out
    clear HA
    simp only [palletlaw01_PicoUnits.l0] at H
    by_cases c9 : x24_1 < (y295.length : Int)
    ·rw [if_pos c9] at H
     have c9b0 : decide (x24_1 < (y295.length : Int)) = true := decide_eq_true c9
     clear c9
     by_cases c10 : 0 ≤ x24_1
     ·rw [if_pos c10] at H
      have c10b0 : decide (0 ≤ x24_1) = true := decide_eq_true c10
      clear c10
      by_cases c11 : x24_1 < (y295.length : Int)
      ·rw [if_pos c11] at H
       have c11b0 : decide (x24_1 < (y295.length : Int)) = true := decide_eq_true c11
       clear c11
       replace H := Option.bind_eq_some_iff.mp H
       obtain ⟨⟨t301, t302⟩, A120, H⟩ := H
       replace H : (if t302 = true then (if x24_1 > 0 then (palletlaw01_PicoUnits.j1 k1 a0 a1 true (rdOf ByteArray.empty y295 x24_1) t301 y295 (y295.length : Int) x24_1 (t301 != (wrap64 (1000 * x6_1)))) else (palletlaw01_PicoUnits.j1 k1 a0 a1 true (rdOf ByteArray.empty y295 x24_1) t301 y295 (y295.length : Int) x24_1 false)) else (palletlaw01_PicoUnits.j1 k1 a0 a1 true (rdOf ByteArray.empty y295 x24_1) t301 y295 (y295.length : Int) x24_1 true)) = some r := H
       have A12 := Aside0.mk A120
       clear A120
       have HC13 := Aside0.mk H
       clear H
       have p300 : 0 ≤ (x24_1 : Int) := of_decide_eq_true (by first | (with_reducible assumption) | assumption)
       have q300 : x24_1 < (y295.length : Int) := of_decide_eq_true (by first | (with_reducible assumption) | assumption)
       obtain ⟨ad300, e300, hx300_0⟩ := Kd.at_string (Kd.R_reads' HO_22.out).2.2 x24_1 p300 q300
       cases e300
       replace p300 := eq_true p300
       replace q300 := eq_true q300
       go_upto_region 9 with (first | ((with_reducible refine gate_callee (f := 31) rfl ?_); refine goesL_ (some 31) rfl rfl Try.func31 (by kernel_rfl) rfl #[.string (rdOf ByteArray.empty y295 x24_1)] rfl (by (try simp only [List.map_toArray, List.map_cons, List.map_nil]); first | done | rfl | (simp only [List.length_drop, List.length_take]; rfl)) ?_; (with_reducible refine (pico_Unit.calls (rdOf ByteArray.empty y295 x24_1) t301 t302 _ A12.out).mono ?_); rintro e w14 ⟨rfl, hb⟩; refine ⟨_, rfl, ?_⟩; have n0_ := Aside0.mk (Kd.R_below (by (with_reducible repeat (first | apply Kd.R_alloc | apply Kd.R_drewN | apply Kd.R_drew)); exact HO_22.out) hb); have n1_ := Aside0.mk (below_step (by repeat (first | (with_reducible first | exact HB.out | apply below_alloc | apply pw_below_drewN | apply below_drew1) | exact HB.out)) hb); clear HO_22; clear HB; have HO_22 := n0_; have HB := n1_; clear n0_ n1_; (try clear hb); (try clear hb2); (try clear hk); (try clear hi)))
       (try simp only [Act.put, List.setIfInBounds_toArray, List.set_cons_zero, List.set_cons_succ])
       go_cut [45] (fun v45 wc => ∃ (kq : Nat) (x45_12 : Bool), v45 = .bool x45_12 ∧ Aside0 (palletlaw01_PicoUnits.j1 kq a0 a1 true (rdOf ByteArray.empty y295 x24_1) t301 y295 (y295.length : Int) x24_1 x45_12 = some r) ∧ Aside0 (kq ≤ k1) ∧ Aside0 (Kd.R Kd.string 9 wc w.heap.size (fun _ => True) (.slice (some ad300) y295.length co8) y295) ∧ Aside0 (Below w.heap.size w wc))
       case first =>
        have H := HC13.out
        clear HC13
        by_cases c15 : t302 = true
        ·subst c15
         have H1 : (if x24_1 > 0 then (palletlaw01_PicoUnits.j1 k1 a0 a1 true (rdOf ByteArray.empty y295 x24_1) t301 y295 (y295.length : Int) x24_1 (t301 != (wrap64 (1000 * x6_1)))) else (palletlaw01_PicoUnits.j1 k1 a0 a1 true (rdOf ByteArray.empty y295 x24_1) t301 y295 (y295.length : Int) x24_1 false)) = some r := by rw [if_pos rfl] at H; exact H
         clear H
         have H := H1
         clear H1
         by_cases c16 : x24_1 > 0
         ·rw [if_pos c16] at H
          have c16b0 : decide (0 < x24_1) = true := decide_eq_true c16
          clear c16
          (first | rw [c16b0] | (simp only [i64_w, i32_w]; rw [c16b0]) | skip)
          have H' := Aside0.mk H
          clear H
          go_wp2
          go_meet
          case rel => exact ⟨_, ((t301 != (wrap64 (1000 * x6_1)))), (by first | rfl | (simp; done) | (simp [*]; done)), H', ⟨by have := HK1.out; first | omega | exact Nat.le_refl _⟩, ⟨by (with_reducible repeat (first | apply Kd.R_alloc | apply Kd.R_drewN | apply Kd.R_drew)); exact HO_22.out⟩, ⟨by repeat (first | (with_reducible first | exact HB.out | apply below_alloc | apply pw_below_drewN | apply below_drew1) | exact HB.out)⟩⟩
         ·rw [if_neg c16] at H
          have c16b0 : decide (0 < x24_1) = false := decide_eq_false c16
          clear c16
          (first | rw [c16b0] | (simp only [i64_w, i32_w]; rw [c16b0]) | skip)
          have H' := Aside0.mk H
          clear H
          go_wp2
          go_meet
          case rel => exact ⟨_, (false), (by first | rfl | (simp; done) | (simp [*]; done)), H', ⟨by have := HK1.out; first | omega | exact Nat.le_refl _⟩, ⟨by (with_reducible repeat (first | apply Kd.R_alloc | apply Kd.R_drewN | apply Kd.R_drew)); exact HO_22.out⟩, ⟨by repeat (first | (with_reducible first | exact HB.out | apply below_alloc | apply pw_below_drewN | apply below_drew1) | exact HB.out)⟩⟩
        ·replace c15 := Bool.eq_false_iff.mpr c15
         subst c15
         have H1 : (palletlaw01_PicoUnits.j1 k1 a0 a1 true (rdOf ByteArray.empty y295 x24_1) t301 y295 (y295.length : Int) x24_1 true) = some r := by rw [if_neg (show ¬ (false = true) by decide)] at H; exact H
         clear H
         have H := H1
         clear H1
         have H' := Aside0.mk H
         clear H
         go_wp2
         go_meet
         case rel => exact ⟨_, (true), (by first | rfl | (simp; done) | (simp [*]; done)), H', ⟨by have := HK1.out; first | omega | exact Nat.le_refl _⟩, ⟨by (with_reducible repeat (first | apply Kd.R_alloc | apply Kd.R_drewN | apply Kd.R_drew)); exact HO_22.out⟩, ⟨by repeat (first | (with_reducible first | exact HB.out | apply below_alloc | apply pw_below_drewN | apply below_drew1) | exact HB.out)⟩⟩
       case rest =>
        clear HC13
        try clear c1
        try clear c2
        try clear p2
        try clear c3
        try clear p3
        try clear q3
        try clear hx3
        try clear c4
        try clear p6
        try clear c9
        try clear c9b0
        try clear c10
        try clear c10b0
        try clear c11
        try clear c11b0
        try clear c12
        try clear c15
        try clear c16
        try clear c16b0
        try clear hx300_0
        try clear p2
        try clear p300
        try clear q300
        obtain ⟨kq, x45_12, rfl, HA, HJ12, HO_22, HB⟩ := hcut
        cases kq with
        | zero => exact absurd HA.out (by simp [palletlaw01_PicoUnits.j1])
        | succ kj12 =>
         have H := HA.out
         clear HA
         simp only [palletlaw01_PicoUnits.j1] at H
         by_cases c17 : x45_12 = true
         ·subst c17
          have H1 : (some false) = some r := by rw [if_pos rfl] at H; exact H
          clear H
          have H := H1
          clear H1
          obtain rfl := Option.some.inj H
          exact absurd hr_.out (by decide)
         ·replace c17 := Bool.eq_false_iff.mpr c17
          subst c17
          have H1 : ((pico_Text.f kj12 (wrap64 (a0))).bind fun bt303 => (if bt303.2 = 0 then (palletlaw01_PicoUnits.j2 kj12 a0 a1 true t301 (rdOf ByteArray.empty y295 x24_1) t301 y295 (y295.length : Int) x24_1 (decide ((bt303.1.size : Int) < 2))) else (palletlaw01_PicoUnits.j2 kj12 a0 a1 true t301 (rdOf ByteArray.empty y295 x24_1) t301 y295 (y295.length : Int) x24_1 true))) = some r := by rw [if_neg (show ¬ (false = true) by decide)] at H; exact H
          clear H
          have H := H1
          clear H1
          replace H := Option.bind_eq_some_iff.mp H
          obtain ⟨⟨t303, t304⟩, A180, H⟩ := H
          replace H : (if t304 = 0 then (palletlaw01_PicoUnits.j2 kj12 a0 a1 true t301 (rdOf ByteArray.empty y295 x24_1) t301 y295 (y295.length : Int) x24_1 (decide ((t303.size : Int) < 2))) else (palletlaw01_PicoUnits.j2 kj12 a0 a1 true t301 (rdOf ByteArray.empty y295 x24_1) t301 y295 (y295.length : Int) x24_1 true)) = some r := H
          have A18 := Aside0.mk A180
          clear A180
          have HC19 := Aside0.mk H
          clear H
          go_upto_region 13 with (first | ((with_reducible refine gate_callee (f := 32) rfl ?_); refine goesL_ (some 50) rfl rfl Try.func32 (by kernel_rfl) rfl #[.int .i64 (wrap64 (a0))] rfl (by (try simp only [List.map_toArray, List.map_cons, List.map_nil]); first | done | rfl | (simp only [List.length_drop, List.length_take]; rfl)) ?_; (with_reducible refine (pico_Text.calls kj12 (wrap64 (a0)) t303 t304 _ A18.out).mono ?_); rintro e w20 ⟨rfl, hb⟩; refine ⟨_, rfl, ?_⟩; have n0_ := Aside0.mk (Kd.R_below (by (with_reducible repeat (first | apply Kd.R_alloc | apply Kd.R_drewN | apply Kd.R_drew)); exact HO_22.out) hb); have n1_ := Aside0.mk (below_step (by repeat (first | (with_reducible first | exact HB.out | apply below_alloc | apply pw_below_drewN | apply below_drew1) | exact HB.out)) hb); clear HO_22; clear HB; have HO_22 := n0_; have HB := n1_; clear n0_ n1_; (try clear hb); (try clear hb2); (try clear hk); (try clear hi)))
          (try simp only [Act.put, List.setIfInBounds_toArray, List.set_cons_zero, List.set_cons_succ])
          go_cut [59] (fun v59 wc => ∃ (kq : Nat) (x59_18 : Bool), v59 = .bool x59_18 ∧ Aside0 (palletlaw01_PicoUnits.j2 kq a0 a1 true t301 (rdOf ByteArray.empty y295 x24_1) t301 y295 (y295.length : Int) x24_1 x59_18 = some r) ∧ Aside0 (kq ≤ kj12) ∧ Aside0 (Kd.R Kd.string 9 wc w.heap.size (fun _ => True) (.slice (some ad300) y295.length co8) y295) ∧ Aside0 (Below w.heap.size w wc))
          case first =>
           have H := HC19.out
           clear HC19
           by_cases c21 : t304 = 0
           ·rw [if_pos c21] at H
            have c21b0 : (t304 == 0) = true := beq_iff_eq.mpr c21
            have c21b1 : (t304 != 0) = false := bne_eq_false_iff_eq.mpr c21
            clear c21
            (first | rw [c21b0] | (simp only [i64_w, i32_w]; rw [c21b0]) | skip)
            have H' := Aside0.mk H
            clear H
            go_wp2
            go_meet
            case rel => exact ⟨_, (decide ((t303.size : Int) < 2)), (by first | rfl | (simp; done) | (simp [*]; done)), H', ⟨by have := HK1.out; have := HJ12.out; first | omega | exact Nat.le_refl _⟩, ⟨by (with_reducible repeat (first | apply Kd.R_alloc | apply Kd.R_drewN | apply Kd.R_drew)); exact HO_22.out⟩, ⟨by repeat (first | (with_reducible first | exact HB.out | apply below_alloc | apply pw_below_drewN | apply below_drew1) | exact HB.out)⟩⟩
           ·rw [if_neg c21] at H
            have c21b0 : (t304 == 0) = false := beq_eq_false_iff_ne.mpr c21
            have c21b1 : (t304 != 0) = true := bne_iff_ne.mpr c21
            (first | rw [c21b0] | (simp only [i64_w, i32_w]; rw [c21b0]) | skip)
            have H' := Aside0.mk H
            clear H
            go_wp2
            go_meet
            case rel => exact ⟨_, (true), (by first | rfl | (simp; done) | (simp [*]; done)), H', ⟨by have := HK1.out; have := HJ12.out; first | omega | exact Nat.le_refl _⟩, ⟨by (with_reducible repeat (first | apply Kd.R_alloc | apply Kd.R_drewN | apply Kd.R_drew)); exact HO_22.out⟩, ⟨by repeat (first | (with_reducible first | exact HB.out | apply below_alloc | apply pw_below_drewN | apply below_drew1) | exact HB.out)⟩⟩
          case rest =>
           clear HC19
           try clear c1
           try clear c2
           try clear p2
           try clear c3
           try clear p3
           try clear q3
           try clear hx3
           try clear c4
           try clear p6
           try clear c9
           try clear c9b0
           try clear c10
           try clear c10b0
           try clear c11
           try clear c11b0
           try clear c12
           try clear c15
           try clear c16
           try clear c16b0
           try clear c17
           try clear c20
           try clear c21
           try clear c21b0
           try clear c21b1
           try clear hx300_0
           try clear p2
           try clear p3
           try clear p300
           try clear p6
           try clear q3
           try clear q300
           obtain ⟨kq, x59_18, rfl, HA, HJ18, HO_22, HB⟩ := hcut
           cases kq with
           | zero => exact absurd HA.out (by simp [palletlaw01_PicoUnits.j2])
           | succ kj18 =>
            have H := HA.out
            clear HA
            simp only [palletlaw01_PicoUnits.j2] at H
            by_cases c22 : x59_18 = true
            ·subst c22
             have H1 : (some false) = some r := by rw [if_pos rfl] at H; exact H
             clear H
             have H := H1
             clear H1
             obtain rfl := Option.some.inj H
             exact absurd hr_.out (by decide)
            ·replace c22 := Bool.eq_false_iff.mpr c22
             subst c22
             have H1 : (if 1 + (rdOf ByteArray.empty y295 x24_1).size ≤ 9223372036854775807 then ((pico_Read.f kj18 ((⟨#[49]⟩ : ByteArray) ++ (rdOf ByteArray.empty y295 x24_1))).bind fun bt305 => (if 0 ≤ (Int.tmod a1 11) then (if (Int.tmod a1 11) ≤ 10 then (if ((⟨#[48, 48, 48, 48, 48, 48, 48, 48, 48, 48]⟩ : ByteArray).extract 0 ((Int.tmod a1 11) : Int).toNat).size + 2 ≤ 9223372036854775807 then (if (((⟨#[48, 48, 48, 48, 48, 48, 48, 48, 48, 48]⟩ : ByteArray).extract 0 ((Int.tmod a1 11) : Int).toNat) ++ (⟨#[50, 53]⟩ : ByteArray)).size + (rdOf ByteArray.empty y295 x24_1).size ≤ 9223372036854775807 then ((pico_Read.f kj18 ((((⟨#[48, 48, 48, 48, 48, 48, 48, 48, 48, 48]⟩ : ByteArray).extract 0 ((Int.tmod a1 11) : Int).toNat) ++ (⟨#[50, 53]⟩ : ByteArray)) ++ (rdOf ByteArray.empty y295 x24_1))).bind fun bt307 => (if bt305.2 = 0 then (if bt305.1 = t301 then (if bt307.2 = 0 then (if bt307.1 = (wrap64 (25 * t301)) then (palletlaw01_PicoUnits.l0 kj18 a0 a1 true t301 y295 (y295.length : Int) (wrap64 (x24_1 + 1))) else (some false)) else (some false)) else (some false)) else (some false))) else (none)) else (none)) else (none)) else (none))) else (none)) = some r := by rw [if_neg (show ¬ (false = true) by decide)] at H; exact H
             clear H
             have H := H1
             clear H1
             by_cases c23 : 1 + (rdOf ByteArray.empty y295 x24_1).size ≤ 9223372036854775807
             ·rw [if_pos c23] at H
              have c23b0 := eq_true c23
              have c23b1 : decide (1 + (rdOf ByteArray.empty y295 x24_1).size ≤ 9223372036854775807) = true := decide_eq_true c23
              try have c23b2 : (9223372036854775807 < 1 + (rdOf ByteArray.empty y295 x24_1).size) = False := eq_false (Nat.not_lt.2 c23)
              replace H := Option.bind_eq_some_iff.mp H
              obtain ⟨⟨t305, t306⟩, A240, H⟩ := H
              replace H : (if 0 ≤ (Int.tmod a1 11) then (if (Int.tmod a1 11) ≤ 10 then (if ((⟨#[48, 48, 48, 48, 48, 48, 48, 48, 48, 48]⟩ : ByteArray).extract 0 ((Int.tmod a1 11) : Int).toNat).size + 2 ≤ 9223372036854775807 then (if (((⟨#[48, 48, 48, 48, 48, 48, 48, 48, 48, 48]⟩ : ByteArray).extract 0 ((Int.tmod a1 11) : Int).toNat) ++ (⟨#[50, 53]⟩ : ByteArray)).size + (rdOf ByteArray.empty y295 x24_1).size ≤ 9223372036854775807 then ((pico_Read.f kj18 ((((⟨#[48, 48, 48, 48, 48, 48, 48, 48, 48, 48]⟩ : ByteArray).extract 0 ((Int.tmod a1 11) : Int).toNat) ++ (⟨#[50, 53]⟩ : ByteArray)) ++ (rdOf ByteArray.empty y295 x24_1))).bind fun bt307 => (if t306 = 0 then (if t305 = t301 then (if bt307.2 = 0 then (if bt307.1 = (wrap64 (25 * t301)) then (palletlaw01_PicoUnits.l0 kj18 a0 a1 true t301 y295 (y295.length : Int) (wrap64 (x24_1 + 1))) else (some false)) else (some false)) else (some false)) else (some false))) else (none)) else (none)) else (none)) else (none)) = some r := H
              have A24 := Aside0.mk A240
              clear A240
              obtain ⟨ji25, hji25⟩ : ∃ j_ : Int, (Int.tmod a1 11) = j_ := ⟨_, rfl⟩
              replace H : (if 0 ≤ (ji25) then (if (ji25) ≤ 10 then (if ((⟨#[48, 48, 48, 48, 48, 48, 48, 48, 48, 48]⟩ : ByteArray).extract 0 ((ji25) : Int).toNat).size + 2 ≤ 9223372036854775807 then (if (((⟨#[48, 48, 48, 48, 48, 48, 48, 48, 48, 48]⟩ : ByteArray).extract 0 ((ji25) : Int).toNat) ++ (⟨#[50, 53]⟩ : ByteArray)).size + (rdOf ByteArray.empty y295 x24_1).size ≤ 9223372036854775807 then ((pico_Read.f kj18 ((((⟨#[48, 48, 48, 48, 48, 48, 48, 48, 48, 48]⟩ : ByteArray).extract 0 ((ji25) : Int).toNat) ++ (⟨#[50, 53]⟩ : ByteArray)) ++ (rdOf ByteArray.empty y295 x24_1))).bind fun bt307 => (if t306 = 0 then (if t305 = t301 then (if bt307.2 = 0 then (if bt307.1 = (wrap64 (25 * t301)) then (palletlaw01_PicoUnits.l0 kj18 a0 a1 true t301 y295 (y295.length : Int) (wrap64 (x24_1 + 1))) else (some false)) else (some false)) else (some false)) else (some false))) else (none)) else (none)) else (none)) else (none)) = some r := by first | (rw [hji25] at H; exact H) | (simp only [hji25] at H ⊢; exact H)
              (try rw [hji25] at A24)
              by_cases c26 : 0 ≤ (ji25)
              ·rw [if_pos c26] at H
               have c26b0 := eq_true c26
               have c26b1 : decide (0 ≤ (ji25)) = true := decide_eq_true c26
               clear c26
               by_cases c27 : (ji25) ≤ 10
               ·rw [if_pos c27] at H
                have c27b0 := eq_true c27
                have c27b1 : decide ((ji25) ≤ 10) = true := decide_eq_true c27
                clear c27
                by_cases c28 : ((⟨#[48, 48, 48, 48, 48, 48, 48, 48, 48, 48]⟩ : ByteArray).extract 0 ((ji25) : Int).toNat).size + 2 ≤ 9223372036854775807
                ·rw [if_pos c28] at H
                 have c28b0 := eq_true c28
                 have c28b1 : decide (((⟨#[48, 48, 48, 48, 48, 48, 48, 48, 48, 48]⟩ : ByteArray).extract 0 ((ji25) : Int).toNat).size + 2 ≤ 9223372036854775807) = true := decide_eq_true c28
                 try have c28b2 : (9223372036854775807 < ((⟨#[48, 48, 48, 48, 48, 48, 48, 48, 48, 48]⟩ : ByteArray).extract 0 ((ji25) : Int).toNat).size + 2) = False := eq_false (Nat.not_lt.2 c28)
                 (try have c28b3 : (9223372036854775807 < ji25.toNat + 2) = False := eq_false (by have h_ := c28; have g_ := of_eq_true (by assumption : (ji25 ≤ 10) = True); simp [ByteArray.size_append, ByteArray.size_extract] at h_ ⊢; omega))
                 by_cases c29 : (((⟨#[48, 48, 48, 48, 48, 48, 48, 48, 48, 48]⟩ : ByteArray).extract 0 ((ji25) : Int).toNat) ++ (⟨#[50, 53]⟩ : ByteArray)).size + (rdOf ByteArray.empty y295 x24_1).size ≤ 9223372036854775807
                 ·rw [if_pos c29] at H
                  have c29b0 := eq_true c29
                  have c29b1 : decide ((((⟨#[48, 48, 48, 48, 48, 48, 48, 48, 48, 48]⟩ : ByteArray).extract 0 ((ji25) : Int).toNat) ++ (⟨#[50, 53]⟩ : ByteArray)).size + (rdOf ByteArray.empty y295 x24_1).size ≤ 9223372036854775807) = true := decide_eq_true c29
                  try have c29b2 : (9223372036854775807 < (((⟨#[48, 48, 48, 48, 48, 48, 48, 48, 48, 48]⟩ : ByteArray).extract 0 ((ji25) : Int).toNat) ++ (⟨#[50, 53]⟩ : ByteArray)).size + (rdOf ByteArray.empty y295 x24_1).size) = False := eq_false (Nat.not_lt.2 c29)
                  (try have c29b3 : (9223372036854775807 < ji25.toNat + 2 + (rdOf ByteArray.empty y295 x24_1).size) = False := eq_false (by have h_ := c29; have g_ := of_eq_true (by assumption : (ji25 ≤ 10) = True); simp [ByteArray.size_append, ByteArray.size_extract] at h_ ⊢; omega))
                  replace H := Option.bind_eq_some_iff.mp H
                  obtain ⟨⟨t307, t308⟩, A300, H⟩ := H
                  replace H : (if t306 = 0 then (if t305 = t301 then (if t308 = 0 then (if t307 = (wrap64 (25 * t301)) then (palletlaw01_PicoUnits.l0 kj18 a0 a1 true t301 y295 (y295.length : Int) (wrap64 (x24_1 + 1))) else (some false)) else (some false)) else (some false)) else (some false)) = some r := H
                  have A30 := Aside0.mk A300
                  clear A300
                  by_cases c31 : t306 = 0
                  ·rw [if_pos c31] at H
                   have c31b0 : (t306 == 0) = true := beq_iff_eq.mpr c31
                   have c31b1 : (t306 != 0) = false := bne_eq_false_iff_eq.mpr c31
                   clear c31
                   by_cases c32 : t305 = t301
                   ·rw [if_pos c32] at H
                    have c32b0 : (t305 == t301) = true := beq_iff_eq.mpr c32
                    have c32b1 : (t305 != t301) = false := bne_eq_false_iff_eq.mpr c32
                    clear c32
                    by_cases c33 : t308 = 0
                    ·rw [if_pos c33] at H
                     have c33b0 : (t308 == 0) = true := beq_iff_eq.mpr c33
                     have c33b1 : (t308 != 0) = false := bne_eq_false_iff_eq.mpr c33
                     clear c33
                     by_cases c34 : t307 = (wrap64 (25 * t301))
                     ·rw [if_pos c34] at H
                      have c34b0 : (t307 == (wrap64 (25 * t301))) = true := beq_iff_eq.mpr c34
                      have c34b1 : (t307 != (wrap64 (25 * t301))) = false := bne_eq_false_iff_eq.mpr c34
                      clear c34
                      have H' := Aside0.mk H
                      clear H
                      go_wp2_with (first | ((with_reducible refine gate_callee (f := 33) rfl ?_); refine goesL_ (some 63) rfl rfl Try.func33 (by kernel_rfl) rfl #[.string ((⟨#[49]⟩ : ByteArray) ++ (rdOf ByteArray.empty y295 x24_1))] rfl (by (try simp only [List.map_toArray, List.map_cons, List.map_nil]); first | done | rfl | (simp only [List.length_drop, List.length_take]; rfl)) ?_; (with_reducible refine (pico_Read.calls kj18 ((⟨#[49]⟩ : ByteArray) ++ (rdOf ByteArray.empty y295 x24_1)) t305 t306 _ A24.out).mono ?_); rintro e w35 ⟨rfl, hb⟩; refine ⟨_, rfl, ?_⟩; have n0_ := Aside0.mk (Kd.R_below (by (with_reducible repeat (first | apply Kd.R_alloc | apply Kd.R_drewN | apply Kd.R_drew)); exact HO_22.out) hb); have n1_ := Aside0.mk (below_step (by repeat (first | (with_reducible first | exact HB.out | apply below_alloc | apply pw_below_drewN | apply below_drew1) | exact HB.out)) hb); clear HO_22; clear HB; have HO_22 := n0_; have HB := n1_; clear n0_ n1_; (try clear hb); (try clear hb2); (try clear hk); (try clear hi)) | ((with_reducible refine gate_callee (f := 33) rfl ?_); refine goesL_ (some 73) rfl rfl Try.func33 (by kernel_rfl) rfl #[.string ((((⟨#[48, 48, 48, 48, 48, 48, 48, 48, 48, 48]⟩ : ByteArray).extract 0 ((ji25) : Int).toNat) ++ (⟨#[50, 53]⟩ : ByteArray)) ++ (rdOf ByteArray.empty y295 x24_1))] rfl (by (try simp only [List.map_toArray, List.map_cons, List.map_nil]); first | done | (simp only [hji25]; rfl) | rfl | (simp only [List.length_drop, List.length_take]; rfl)) ?_; (with_reducible refine (pico_Read.calls kj18 ((((⟨#[48, 48, 48, 48, 48, 48, 48, 48, 48, 48]⟩ : ByteArray).extract 0 ((ji25) : Int).toNat) ++ (⟨#[50, 53]⟩ : ByteArray)) ++ (rdOf ByteArray.empty y295 x24_1)) t307 t308 _ A30.out).mono ?_); rintro e w36 ⟨rfl, hb⟩; refine ⟨_, rfl, ?_⟩; have n0_ := Aside0.mk (Kd.R_below (by (with_reducible repeat (first | apply Kd.R_alloc | apply Kd.R_drewN | apply Kd.R_drew)); exact HO_22.out) hb); have n1_ := Aside0.mk (below_step (by repeat (first | (with_reducible first | exact HB.out | apply below_alloc | apply pw_below_drewN | apply below_drew1) | exact HB.out)) hb); clear HO_22; clear HB; have HO_22 := n0_; have HB := n1_; clear n0_ n1_; (try clear hb); (try clear hb2); (try clear hk); (try clear hi)))
                      go_roundg kj18
                      case measure => have := HK1.out; have := HJ12.out; have := HJ18.out; omega
                      case rel => exact ⟨(t301), (wrap64 (x24_1 + 1)), (by first | rfl | (simp; done) | (simp [*]; done)), (by first | rfl | (simp; done) | (simp [*]; done)), H', ⟨by have := HK1.out; have := HJ12.out; have := HJ18.out; omega⟩, ⟨by (with_reducible repeat (first | apply Kd.R_alloc | apply Kd.R_drewN | apply Kd.R_drew)); exact HO_22.out⟩, ⟨by repeat (first | (with_reducible first | exact HB.out | apply below_alloc | apply pw_below_drewN | apply below_drew1) | exact HB.out)⟩⟩
                     ·rw [if_neg c34] at H
                      have c34b0 : (t307 == (wrap64 (25 * t301))) = false := beq_eq_false_iff_ne.mpr c34
                      have c34b1 : (t307 != (wrap64 (25 * t301))) = true := bne_iff_ne.mpr c34
                      obtain rfl := Option.some.inj H
                      exact absurd hr_.out (by decide)
                    ·rw [if_neg c33] at H
                     have c33b0 : (t308 == 0) = false := beq_eq_false_iff_ne.mpr c33
                     have c33b1 : (t308 != 0) = true := bne_iff_ne.mpr c33
                     obtain rfl := Option.some.inj H
                     exact absurd hr_.out (by decide)
                   ·rw [if_neg c32] at H
                    have c32b0 : (t305 == t301) = false := beq_eq_false_iff_ne.mpr c32
                    have c32b1 : (t305 != t301) = true := bne_iff_ne.mpr c32
                    obtain rfl := Option.some.inj H
                    exact absurd hr_.out (by decide)
                  ·rw [if_neg c31] at H
                   have c31b0 : (t306 == 0) = false := beq_eq_false_iff_ne.mpr c31
                   have c31b1 : (t306 != 0) = true := bne_iff_ne.mpr c31
                   obtain rfl := Option.some.inj H
                   exact absurd hr_.out (by decide)
                 ·rw [if_neg c29] at H
                  exact absurd H (by simp)
                ·rw [if_neg c28] at H
                 exact absurd H (by simp)
               ·rw [if_neg c27] at H
                exact absurd H (by simp)
              ·rw [if_neg c26] at H
               exact absurd H (by simp)
             ·rw [if_neg c23] at H
              exact absurd H (by simp)
      ·rw [if_neg c11] at H
       exact absurd H (by simp)
     ·rw [if_neg c10] at H
      exact absurd H (by simp)
    ·rw [if_neg c9] at H
     have c9b0 : decide (x24_1 < (y295.length : Int)) = false := decide_eq_false c9
     clear c9
     replace H := Option.bind_eq_some_iff.mp H
     obtain ⟨⟨t298, t299⟩, A370, H⟩ := H
     replace H : (if true = true then (some (t299 == 4)) else (some false)) = some r := H
     have A37 := Aside0.mk A370
     clear A370
     have H1 : (some (t299 == 4)) = some r := by first | (rw [if_pos rfl] at H; exact H) | exact H
     clear H
     have H := H1
     clear H1
     obtain rfl := Option.some.inj H
     go_wp2_with (first | ((with_reducible refine gate_callee (f := 33) rfl ?_); refine goesL_ (some 95) rfl rfl Try.func33 (by kernel_rfl) rfl #[.string (⟨#[49, 109]⟩ : ByteArray)] rfl (by (try simp only [List.map_toArray, List.map_cons, List.map_nil]); first | done | rfl | (simp only [List.length_drop, List.length_take]; rfl)) ?_; (with_reducible refine (pico_Read.calls k1 (⟨#[49, 109]⟩ : ByteArray) t298 t299 _ A37.out).mono ?_); rintro e w38 ⟨rfl, hb⟩; refine ⟨_, rfl, ?_⟩; have n0_ := Aside0.mk (Kd.R_below (by (with_reducible repeat (first | apply Kd.R_alloc | apply Kd.R_drewN | apply Kd.R_drew)); exact HO_22.out) hb); have n1_ := Aside0.mk (below_step (by repeat (first | (with_reducible first | exact HB.out | apply below_alloc | apply pw_below_drewN | apply below_drew1) | exact HB.out)) hb); clear HO_22; clear HB; have HO_22 := n0_; have HB := n1_; clear n0_ n1_; (try clear hb); (try clear hb2); (try clear hk); (try clear hi)))
     go_ret
     exact ⟨by first | rfl | (simp [errW_none, errW_some] <;> rfl) | (simp [*, errW_none, errW_some] <;> rfl), by repeat (first | (with_reducible first | exact HB.out | apply below_alloc | apply pw_below_drewN | apply below_drew1) | exact HB.out)⟩
 ·replace c4 := Bool.eq_false_iff.mpr c4
  subst c4
  have H1 : (some false) = some r := by rw [if_neg (show ¬ (false = true) by decide)] at H; exact H
  clear H
  have H := H1
  clear H1
  obtain rfl := Option.some.inj H
  exact absurd hr_.out (by decide)

end Go.Proofs.Ytmkjljekofondaa.Print
