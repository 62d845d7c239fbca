-- PRINTED by print.py (a twelfth state) out of the translation. Not trusted: Lean checks it.
import Derived.Test.YtjohinenaamdcaaPrint0
import Derived.Test.YtjohinenaamdcaaPrint2
import Derived.Test.YtjohinenaamdcaaPrint6
import Derived.Test.YtjohinenaamdcaaPrint9
import Derived.Test.YtjohinenaamdcaaPrint10
import Derived.Test.YtjohinenaamdcaaPrint11
import Derived.Test.YtjohinenaamdcaaPrint12
import Derived.Test.YtjohinenaamdcaaPrint13
namespace Go.Proofs.Ytjohinenaamdcaa.Print
open Go.RowKit Go.Proofs.YtjohinenaamdcaaW.PrintWords Go.Proofs.YtjohinenaamdcaaW.PrintLast Go.Proofs.YtjohinenaamdcaaW.PrintMore Go.Proofs.YtjohinenaamdcaaX
attribute [local go_sem] str_lss str_geq max2_int min2_int max_two min_two max_three min_three max_four min_four   -- for this text's walks alone
set_option linter.unusedVariables false
set_option linter.unusedSimpArgs false

/-! ### palletlaw03_CrcSeals: function 6 -/
mutual
def palletlaw03_CrcSeals.j0 : Nat → List Int → Bool → List Int → Bool → Option (Bool)
 | 0, _, _, _, _ => none
 | k + 1, x0, x3, x4, x38 => if x38 = true then (some false) else ((crc_Seal32.f x0).bind fun bt281 => ((palletref03_Seal32.f k x0).bind fun bt285 => ((palletref02_Same.f bt281.1 bt285.1).bind fun t289 => (if t289 = true then (palletlaw03_CrcSeals.j1 k x0 x3 x4 (bt281.2 != bt285.2)) else (palletlaw03_CrcSeals.j1 k x0 x3 x4 true)))))
def palletlaw03_CrcSeals.j1 : Nat → List Int → Bool → List Int → Bool → Option (Bool)
 | 0, _, _, _, _ => none
 | k + 1, x0, x3, x4, x57 => if x57 = true then (some false) else ((crc_Open24.f x0).bind fun bt290 => ((palletref03_Open24.f k x0).bind fun bt294 => ((palletref02_Same.f bt290.1 bt294.1).bind fun t298 => (if t298 = true then (palletlaw03_CrcSeals.j2 k x0 x3 x4 (bt290.2 != bt294.2)) else (palletlaw03_CrcSeals.j2 k x0 x3 x4 true)))))
def palletlaw03_CrcSeals.j2 : Nat → List Int → Bool → List Int → Bool → Option (Bool)
 | 0, _, _, _, _ => none
 | k + 1, x0, x3, x4, x76 => if x76 = true then (some false) else ((crc_Open32.f x0).bind fun bt299 => ((palletref03_Open32.f k x0).bind fun bt303 => ((palletref02_Same.f bt299.1 bt303.1).bind fun t307 => (if t307 = true then (palletlaw03_CrcSeals.j3 k x0 x3 x4 bt299.1 (bt299.2 == bt303.2)) else (palletlaw03_CrcSeals.j3 k x0 x3 x4 bt299.1 false)))))
def palletlaw03_CrcSeals.j3 : Nat → List Int → Bool → List Int → List Int → Bool → Option (Bool)
 | 0, _, _, _, _, _ => none
 | k + 1, x0, x3, x4, x5, x9 => palletlaw03_CrcSeals.l0 k x0 x3 x4 x5 x9 (x5.length : Int) 0
def palletlaw03_CrcSeals.l0 : Nat → List Int → Bool → List Int → List Int → Bool → Int → Int → Option (Bool)
 | 0, _, _, _, _, _, _, _ => none
 | k + 1, x0, x3, x4, x5, x9, x96, x97 => if x97 < x96 then (if 0 ≤ x97 then (if x97 < (x5.length : Int) then (palletlaw03_CrcSeals.l0 k x0 x3 x4 (x5.set (x97 : Int).toNat (((rd x5 x97) + 1) % 256)) x9 x96 (wrap64 (x97 + 1))) else (none)) else (none)) else (if x3 = true then (if x9 = true then ((palletref02_Same.f x0 x4).bind fun t310 => (some t310)) else (some false)) else (some false))
end
def palletlaw03_CrcSeals.f (k : Nat) (l0 : List Int) : Option (Bool) := (palletlaw03_live.f).bind fun t268 => (if t268 = true then (if (l0.length : Int) > 1048586 then (some t268) else (if ([] : List Int).length + l0.length < 140737488355328 then ((some (([] : List Int) ++ l0 : List Int)).bind fun y269 => ((crc_Seal24.f l0).bind fun bt272 => ((palletref03_Seal24.f k l0).bind fun bt276 => ((palletref02_Same.f bt272.1 bt276.1).bind fun t280 => (if t280 = true then (palletlaw03_CrcSeals.j0 k l0 t268 y269 (bt272.2 != bt276.2)) else (palletlaw03_CrcSeals.j0 k l0 t268 y269 true)))))) else (none))) else (some false))
theorem palletlaw03_CrcSeals.mono_l : ∀ k, (∀ y0 y1 y2 y3, LeO (palletlaw03_CrcSeals.j0 k y0 y1 y2 y3) (palletlaw03_CrcSeals.j0 (k + 1) y0 y1 y2 y3)) ∧ (∀ y0 y1 y2 y3, LeO (palletlaw03_CrcSeals.j1 k y0 y1 y2 y3) (palletlaw03_CrcSeals.j1 (k + 1) y0 y1 y2 y3)) ∧ (∀ y0 y1 y2 y3, LeO (palletlaw03_CrcSeals.j2 k y0 y1 y2 y3) (palletlaw03_CrcSeals.j2 (k + 1) y0 y1 y2 y3)) ∧ (∀ y0 y1 y2 y3 y4, LeO (palletlaw03_CrcSeals.j3 k y0 y1 y2 y3 y4) (palletlaw03_CrcSeals.j3 (k + 1) y0 y1 y2 y3 y4)) ∧ (∀ y0 y1 y2 y3 y4 y5 y6, LeO (palletlaw03_CrcSeals.l0 k y0 y1 y2 y3 y4 y5 y6) (palletlaw03_CrcSeals.l0 (k + 1) y0 y1 y2 y3 y4 y5 y6))
 | 0 => ⟨fun _ _ _ _ r h => by simp [palletlaw03_CrcSeals.j0] at h, fun _ _ _ _ r h => by simp [palletlaw03_CrcSeals.j1] at h, fun _ _ _ _ r h => by simp [palletlaw03_CrcSeals.j2] at h, fun _ _ _ _ _ r h => by simp [palletlaw03_CrcSeals.j3] at h, fun _ _ _ _ _ _ _ r h => by simp [palletlaw03_CrcSeals.l0] at h⟩
 | k + 1 => by
  obtain ⟨ih0, ih1, ih2, ih3, ih4⟩ := palletlaw03_CrcSeals.mono_l k
  refine ⟨?_, ?_, ?_, ?_, ?_⟩
  ·intro y0 y1 y2 y3
   unfold palletlaw03_CrcSeals.j0
   repeat' first
   | (with_reducible exact ih0 _ _ _ _)
   | (with_reducible exact ih1 _ _ _ _)
   | (with_reducible exact ih2 _ _ _ _)
   | (with_reducible exact ih3 _ _ _ _ _)
   | (with_reducible exact ih4 _ _ _ _ _ _ _)
   | (with_reducible exact palletref03_Open24.mono _ _)
   | (with_reducible exact palletref03_Open32.mono _ _)
   | (with_reducible exact palletref03_Seal24.mono _ _)
   | (with_reducible exact palletref03_Seal32.mono _ _)
   | (with_reducible exact LeO.refl _)
   | (with_reducible exact LeO.none _)
   | (with_reducible refine LeO.ite ?_ ?_)
   | (with_reducible refine LeO.bind ?_ (fun _ => ?_))
   | exact ih0 _ _ _ _
   | exact ih1 _ _ _ _
   | exact ih2 _ _ _ _
   | exact ih3 _ _ _ _ _
   | exact ih4 _ _ _ _ _ _ _
   | exact palletref03_Open24.mono _ _
   | exact palletref03_Open32.mono _ _
   | exact palletref03_Seal24.mono _ _
   | exact palletref03_Seal32.mono _ _
   | exact LeO.none _
   | refine LeO.ite ?_ ?_
   | refine LeO.bind ?_ (fun _ => ?_)
  ·intro y0 y1 y2 y3
   unfold palletlaw03_CrcSeals.j1
   repeat' first
   | (with_reducible exact ih0 _ _ _ _)
   | (with_reducible exact ih1 _ _ _ _)
   | (with_reducible exact ih2 _ _ _ _)
   | (with_reducible exact ih3 _ _ _ _ _)
   | (with_reducible exact ih4 _ _ _ _ _ _ _)
   | (with_reducible exact palletref03_Open24.mono _ _)
   | (with_reducible exact palletref03_Open32.mono _ _)
   | (with_reducible exact palletref03_Seal24.mono _ _)
   | (with_reducible exact palletref03_Seal32.mono _ _)
   | (with_reducible exact LeO.refl _)
   | (with_reducible exact LeO.none _)
   | (with_reducible refine LeO.ite ?_ ?_)
   | (with_reducible refine LeO.bind ?_ (fun _ => ?_))
   | exact ih0 _ _ _ _
   | exact ih1 _ _ _ _
   | exact ih2 _ _ _ _
   | exact ih3 _ _ _ _ _
   | exact ih4 _ _ _ _ _ _ _
   | exact palletref03_Open24.mono _ _
   | exact palletref03_Open32.mono _ _
   | exact palletref03_Seal24.mono _ _
   | exact palletref03_Seal32.mono _ _
   | exact LeO.none _
   | refine LeO.ite ?_ ?_
   | refine LeO.bind ?_ (fun _ => ?_)
  ·intro y0 y1 y2 y3
   unfold palletlaw03_CrcSeals.j2
   repeat' first
   | (with_reducible exact ih0 _ _ _ _)
   | (with_reducible exact ih1 _ _ _ _)
   | (with_reducible exact ih2 _ _ _ _)
   | (with_reducible exact ih3 _ _ _ _ _)
   | (with_reducible exact ih4 _ _ _ _ _ _ _)
   | (with_reducible exact palletref03_Open24.mono _ _)
   | (with_reducible exact palletref03_Open32.mono _ _)
   | (with_reducible exact palletref03_Seal24.mono _ _)
   | (with_reducible exact palletref03_Seal32.mono _ _)
   | (with_reducible exact LeO.refl _)
   | (with_reducible exact LeO.none _)
   | (with_reducible refine LeO.ite ?_ ?_)
   | (with_reducible refine LeO.bind ?_ (fun _ => ?_))
   | exact ih0 _ _ _ _
   | exact ih1 _ _ _ _
   | exact ih2 _ _ _ _
   | exact ih3 _ _ _ _ _
   | exact ih4 _ _ _ _ _ _ _
   | exact palletref03_Open24.mono _ _
   | exact palletref03_Open32.mono _ _
   | exact palletref03_Seal24.mono _ _
   | exact palletref03_Seal32.mono _ _
   | exact LeO.none _
   | refine LeO.ite ?_ ?_
   | refine LeO.bind ?_ (fun _ => ?_)
  ·intro y0 y1 y2 y3 y4
   unfold palletlaw03_CrcSeals.j3
   repeat' first
   | (with_reducible exact ih0 _ _ _ _)
   | (with_reducible exact ih1 _ _ _ _)
   | (with_reducible exact ih2 _ _ _ _)
   | (with_reducible exact ih3 _ _ _ _ _)
   | (with_reducible exact ih4 _ _ _ _ _ _ _)
   | (with_reducible exact palletref03_Open24.mono _ _)
   | (with_reducible exact palletref03_Open32.mono _ _)
   | (with_reducible exact palletref03_Seal24.mono _ _)
   | (with_reducible exact palletref03_Seal32.mono _ _)
   | (with_reducible exact LeO.refl _)
   | (with_reducible exact LeO.none _)
   | (with_reducible refine LeO.ite ?_ ?_)
   | (with_reducible refine LeO.bind ?_ (fun _ => ?_))
   | exact ih0 _ _ _ _
   | exact ih1 _ _ _ _
   | exact ih2 _ _ _ _
   | exact ih3 _ _ _ _ _
   | exact ih4 _ _ _ _ _ _ _
   | exact palletref03_Open24.mono _ _
   | exact palletref03_Open32.mono _ _
   | exact palletref03_Seal24.mono _ _
   | exact palletref03_Seal32.mono _ _
   | exact LeO.none _
   | refine LeO.ite ?_ ?_
   | refine LeO.bind ?_ (fun _ => ?_)
  ·intro y0 y1 y2 y3 y4 y5 y6
   unfold palletlaw03_CrcSeals.l0
   repeat' first
   | (with_reducible exact ih0 _ _ _ _)
   | (with_reducible exact ih1 _ _ _ _)
   | (with_reducible exact ih2 _ _ _ _)
   | (with_reducible exact ih3 _ _ _ _ _)
   | (with_reducible exact ih4 _ _ _ _ _ _ _)
   | (with_reducible exact palletref03_Open24.mono _ _)
   | (with_reducible exact palletref03_Open32.mono _ _)
   | (with_reducible exact palletref03_Seal24.mono _ _)
   | (with_reducible exact palletref03_Seal32.mono _ _)
   | (with_reducible exact LeO.refl _)
   | (with_reducible exact LeO.none _)
   | (with_reducible refine LeO.ite ?_ ?_)
   | (with_reducible refine LeO.bind ?_ (fun _ => ?_))
   | exact ih0 _ _ _ _
   | exact ih1 _ _ _ _
   | exact ih2 _ _ _ _
   | exact ih3 _ _ _ _ _
   | exact ih4 _ _ _ _ _ _ _
   | exact palletref03_Open24.mono _ _
   | exact palletref03_Open32.mono _ _
   | exact palletref03_Seal24.mono _ _
   | exact palletref03_Seal32.mono _ _
   | exact LeO.none _
   | refine LeO.ite ?_ ?_
   | refine LeO.bind ?_ (fun _ => ?_)
theorem palletlaw03_CrcSeals.mono : ∀ a0 k, LeO (palletlaw03_CrcSeals.f k a0) (palletlaw03_CrcSeals.f (k + 1) a0) := by
 intro a0 k
 obtain ⟨ih0, ih1, ih2, ih3, ih4⟩ := palletlaw03_CrcSeals.mono_l k
 unfold palletlaw03_CrcSeals.f
 repeat' first
   | (with_reducible exact ih0 _ _ _ _)
   | (with_reducible exact ih1 _ _ _ _)
   | (with_reducible exact ih2 _ _ _ _)
   | (with_reducible exact ih3 _ _ _ _ _)
   | (with_reducible exact ih4 _ _ _ _ _ _ _)
   | (with_reducible exact palletref03_Open24.mono _ _)
   | (with_reducible exact palletref03_Open32.mono _ _)
   | (with_reducible exact palletref03_Seal24.mono _ _)
   | (with_reducible exact palletref03_Seal32.mono _ _)
   | (with_reducible exact LeO.refl _)
   | (with_reducible exact LeO.none _)
   | (with_reducible refine LeO.ite ?_ ?_)
   | (with_reducible refine LeO.bind ?_ (fun _ => ?_))
   | exact ih0 _ _ _ _
   | exact ih1 _ _ _ _
   | exact ih2 _ _ _ _
   | exact ih3 _ _ _ _ _
   | exact ih4 _ _ _ _ _ _ _
   | exact palletref03_Open24.mono _ _
   | exact palletref03_Open32.mono _ _
   | exact palletref03_Seal24.mono _ _
   | exact palletref03_Seal32.mono _ _
   | exact LeO.none _
   | refine LeO.ite ?_ ?_
   | refine LeO.bind ?_ (fun _ => ?_)
set_option maxHeartbeats 8000000 in
set_option maxRecDepth 100000 in
theorem palletlaw03_CrcSeals.calls (k : Nat) (A0 : Option Addr) (c0 : Nat) (l0 : List Int) (r : Bool) (w : World) (hr0 : Kd.C (Kd.int .u8) w A0 l0.length l0) (hc0 : l0.length ≤ c0) (hr_ : Aside0 (r = true)) (h : palletlaw03_CrcSeals.f k l0 = some r) :
  Calls Try.prog 6 #[.slice A0 l0.length c0] w fun e w' => e = .returned (.bool r) ∧ Below w.heap.size w w' := by
 have HR0 := Aside0.mk hr0
 have HC0 := Aside0.mk hc0
 clear hr0 hc0
 have HB := Aside0.mk (Below.refl w.heap.size w)
 have H : ((palletlaw03_live.f).bind fun t268 => (if t268 = true then (if (l0.length : Int) > 1048586 then (some t268) else (if ([] : List Int).length + l0.length < 140737488355328 then ((some (([] : List Int) ++ l0 : List Int)).bind fun y269 => ((crc_Seal24.f l0).bind fun bt272 => ((palletref03_Seal24.f k l0).bind fun bt276 => ((palletref02_Same.f bt272.1 bt276.1).bind fun t280 => (if t280 = true then (palletlaw03_CrcSeals.j0 k l0 t268 y269 (bt272.2 != bt276.2)) else (palletlaw03_CrcSeals.j0 k l0 t268 y269 true)))))) else (none))) else (some false))) = some r := h
 clear h
 replace H := Option.bind_eq_some_iff.mp H
 obtain ⟨t268, A20, H⟩ := H
 replace H : (if t268 = true then (if (l0.length : Int) > 1048586 then (some t268) else (if ([] : List Int).length + l0.length < 140737488355328 then ((some (([] : List Int) ++ l0 : List Int)).bind fun y269 => ((crc_Seal24.f l0).bind fun bt272 => ((palletref03_Seal24.f k l0).bind fun bt276 => ((palletref02_Same.f bt272.1 bt276.1).bind fun t280 => (if t280 = true then (palletlaw03_CrcSeals.j0 k l0 t268 y269 (bt272.2 != bt276.2)) else (palletlaw03_CrcSeals.j0 k l0 t268 y269 true)))))) else (none))) else (some false)) = some r := H
 have A2 := Aside0.mk A20
 clear A20
 by_cases c3 : t268 = true
 ·subst c3
  have H1 : (if (l0.length : Int) > 1048586 then (some true) else (if ([] : List Int).length + l0.length < 140737488355328 then ((some (([] : List Int) ++ l0 : List Int)).bind fun y269 => ((crc_Seal24.f l0).bind fun bt272 => ((palletref03_Seal24.f k l0).bind fun bt276 => ((palletref02_Same.f bt272.1 bt276.1).bind fun t280 => (if t280 = true then (palletlaw03_CrcSeals.j0 k l0 true y269 (bt272.2 != bt276.2)) else (palletlaw03_CrcSeals.j0 k l0 true y269 true)))))) else (none))) = some r := by rw [if_pos rfl] at H; exact H
  clear H
  have H := H1
  clear H1
  by_cases c4 : (l0.length : Int) > 1048586
  ·rw [if_pos c4] at H
   have c4b0 : decide (1048586 < (l0.length : Int)) = true := decide_eq_true c4
   have c4b1 : decide (1048586 < l0.length) = true := decide_eq_true (by omega)
   clear c4
   obtain rfl := Option.some.inj H
   go_enter Try.func6, Try.ntmps6
   go_wp2_with (first | ((with_reducible refine gate_callee (f := 8) rfl ?_); refine goesL_ (some 11) rfl rfl Try.func8 (by kernel_rfl) rfl #[] rfl (by (try simp only [List.map_toArray, List.map_cons, List.map_nil]); first | done | rfl | (simp only [List.length_drop, List.length_take]; first | rfl | (rw [Nat.min_eq_left (Int.toNat_le.2 (of_decide_eq_true (by assumption)))]; rfl))) ?_; (with_reducible refine (palletlaw03_live.calls  true _ A2.out).mono ?_); rintro e w5 ⟨rfl, hb⟩; refine ⟨_, rfl, ?_⟩; have n0_ := Aside0.mk (below_step (by repeat (first | (with_reducible first | exact HB.out | apply below_alloc | apply pw_below_drewN | apply below_drew1) | exact HB.out)) hb); clear HB; have HB := n0_; clear n0_; (try clear hb); (try clear hb2); (try clear hk); (try clear hi)))
   go_ret
   exact ⟨by first | rfl | (simp [errW_none, errW_some] <;> rfl) | (simp [*, errW_none, errW_some] <;> rfl), by repeat (first | (with_reducible first | exact HB.out | apply below_alloc | apply pw_below_drewN | apply below_drew1) | exact HB.out)⟩
  ·rw [if_neg c4] at H
   have c4b0 : decide (1048586 < (l0.length : Int)) = false := decide_eq_false c4
   have c4b1 : decide (1048586 < l0.length) = false := decide_eq_false (by omega)
   clear c4
   by_cases c6 : ([] : List Int).length + l0.length < 140737488355328
   ·rw [if_pos c6] at H
    have LMc6 := Aside0.mk c6
    clear c6
    obtain ⟨y269, hy269⟩ : ∃ y_ : List Int, y_ = (([] : List Int) ++ l0) := ⟨_, rfl⟩
    replace H : ((crc_Seal24.f l0).bind fun bt272 => ((palletref03_Seal24.f k l0).bind fun bt276 => ((palletref02_Same.f bt272.1 bt276.1).bind fun t280 => (if t280 = true then (palletlaw03_CrcSeals.j0 k l0 true y269 (bt272.2 != bt276.2)) else (palletlaw03_CrcSeals.j0 k l0 true y269 true))))) = some r := by first | (rw [hy269]; with_reducible exact H) | (have H2_ := (Option.bind_some _ _).symm.trans H; rw [hy269]; with_reducible exact H2_) | (have H2_ := (Option.bind_some _ _).symm.trans H; with_reducible exact H2_) | with_reducible exact H | (rw [hy269]; exact H) | exact H
    have Ny269 := Aside0.mk hy269
    clear hy269
    replace H := Option.bind_eq_some_iff.mp H
    obtain ⟨⟨t272, t273⟩, A70, H⟩ := H
    replace H : ((palletref03_Seal24.f k l0).bind fun bt276 => ((palletref02_Same.f t272 bt276.1).bind fun t280 => (if t280 = true then (palletlaw03_CrcSeals.j0 k l0 true y269 (t273 != bt276.2)) else (palletlaw03_CrcSeals.j0 k l0 true y269 true)))) = some r := H
    have A7 := Aside0.mk A70
    clear A70
    replace H := Option.bind_eq_some_iff.mp H
    obtain ⟨⟨t276, t277⟩, A80, H⟩ := H
    replace H : ((palletref02_Same.f t272 t276).bind fun t280 => (if t280 = true then (palletlaw03_CrcSeals.j0 k l0 true y269 (t273 != t277)) else (palletlaw03_CrcSeals.j0 k l0 true y269 true))) = some r := H
    have A8 := Aside0.mk A80
    clear A80
    have HC9 := Aside0.mk H
    clear H
    go_enter Try.func6, Try.ntmps6
    go_upto_region 9 with (first | ((with_reducible refine gate_callee (f := 8) rfl ?_); refine goesL_ (some 11) rfl rfl Try.func8 (by kernel_rfl) rfl #[] rfl (by (try simp only [List.map_toArray, List.map_cons, List.map_nil]); first | done | rfl | (simp only [List.length_drop, List.length_take]; first | rfl | (rw [Nat.min_eq_left (Int.toNat_le.2 (of_decide_eq_true (by assumption)))]; rfl))) ?_; (with_reducible refine (palletlaw03_live.calls  true _ A2.out).mono ?_); rintro e w10 ⟨rfl, hb⟩; refine ⟨_, rfl, ?_⟩; have n0_ := Aside0.mk (below_step (by repeat (first | (with_reducible first | exact HB.out | apply below_alloc | apply pw_below_drewN | apply below_drew1) | exact HB.out)) hb); clear HB; have HB := n0_; clear n0_; (try clear hb); (try clear hb2); (try clear hk); (try clear hi)) | ((with_reducible refine gate_builtin (b := .append) (xs := #[.const (.slice none 0 0), .tmp 18]) rfl ?_); at_builtin; refine Kd.R_append_rows (Kd.int .u8) (w0 := w) w.heap.size rfl (.const (.slice none 0 0)) (.tmp 18) 22 5 (.int .u8 0) 1 rfl Try.underlying22 info5 rfl (by decide) (by omega) (.slice none 0 0) ([] : List Int) l0 _ _ _ (fun _ => True) (fun _ => False) rfl rfl ?aO ?aR (fun _ _ h => h) (fun _ h => h.elim) ?aF ?aB ?aS ?aL ?_; (case aR => repeat (first | exact (Kd.C_below HR0.out HB.out) | (with_reducible refine Kd.C_alloc ?_ _) | (with_reducible refine Kd.C_drewN ?_ _) | (with_reducible refine Kd.C_drew ?_))); (case aB => exact (by repeat (first | (with_reducible first | exact HB.out | apply below_alloc | apply pw_below_drewN | apply below_drew1) | exact HB.out))); (case aF => exact (fun _ _ => trivial)); (case aO => exact ((Kd.R_nil _ _ _ _ (fun _ => True)))); (case aS => exact (below_size (by repeat (first | (with_reducible first | exact HB.out | apply below_alloc | apply pw_below_drewN | apply below_drew1) | exact HB.out)))); (case aL => have := LMc6.out; omega); intro v270 w11 ho hb hg hat; rw [← Ny269.out] at ho; have n0_ := Aside0.mk (hb); have n1_ := Aside0.mk (ho); clear HB; have HB := n0_; have HO271 := n1_; clear n0_ n1_; clear ho hb hg hat) | ((with_reducible refine gate_callee (f := 16) rfl ?_); refine goesL_ (some 22) rfl rfl Try.func16 (by kernel_rfl) rfl #[.slice A0 l0.length c0] rfl (by (try simp only [List.map_toArray, List.map_cons, List.map_nil]); first | done | rfl | (simp only [List.length_drop, List.length_take]; first | rfl | (rw [Nat.min_eq_left (Int.toNat_le.2 (of_decide_eq_true (by assumption)))]; rfl))) ?_; (with_reducible refine (crc_Seal24.calls _ _ l0 t272 t273 _ ?side1 ?side2 A7.out).mono ?_); (case side1 => repeat (first | exact (Kd.C_below HR0.out HB.out) | (with_reducible refine Kd.C_alloc ?_ _) | (with_reducible refine Kd.C_drewN ?_ _) | (with_reducible refine Kd.C_drew ?_))); (case side2 => exact HC0.out); rintro e w12 ⟨v274, rfl, ho0, hb⟩; refine ⟨_, rfl, ?_⟩; have n0_ := Aside0.mk (Kd.R_elder' (by (with_reducible repeat (first | apply Kd.R_alloc | apply Kd.R_drewN | apply Kd.R_drew)); exact HO271.out) (Kd.R_base ho0) hb); have n1_ := Aside0.mk (Kd.R_lower (Kd.R_new' ho0 (Kd.R_lt (by (with_reducible repeat (first | apply Kd.R_alloc | apply Kd.R_drewN | apply Kd.R_drew)); exact HO271.out))) (below_size (by repeat (first | (with_reducible first | exact HB.out | apply below_alloc | apply pw_below_drewN | apply below_drew1) | exact HB.out)))); have n2_ := Aside0.mk (below_step (by repeat (first | (with_reducible first | exact HB.out | apply below_alloc | apply pw_below_drewN | apply below_drew1) | exact HB.out)) hb); clear HO271; clear HB; have HO271 := n0_; have HO275 := n1_; have HB := n2_; clear n0_ n1_ n2_; (try clear hb); (try clear hb2); (try clear hk); (try clear hi); (try clear ho0)) | ((with_reducible refine gate_callee (f := 17) rfl ?_); refine goesL_ (some 27) rfl rfl Try.func17 (by kernel_rfl) rfl #[.slice A0 l0.length c0] rfl (by (try simp only [List.map_toArray, List.map_cons, List.map_nil]); first | done | rfl | (simp only [List.length_drop, List.length_take]; first | rfl | (rw [Nat.min_eq_left (Int.toNat_le.2 (of_decide_eq_true (by assumption)))]; rfl))) ?_; (with_reducible refine (palletref03_Seal24.calls k _ _ l0 t276 t277 _ ?side1 ?side2 A8.out).mono ?_); (case side1 => repeat (first | exact (Kd.C_below HR0.out HB.out) | (with_reducible refine Kd.C_alloc ?_ _) | (with_reducible refine Kd.C_drewN ?_ _) | (with_reducible refine Kd.C_drew ?_))); (case side2 => exact HC0.out); rintro e w13 ⟨v278, rfl, ho0, hb⟩; refine ⟨_, rfl, ?_⟩; have n0_ := Aside0.mk (Kd.R_elder' (by (with_reducible repeat (first | apply Kd.R_alloc | apply Kd.R_drewN | apply Kd.R_drew)); exact HO271.out) (Kd.R_base ho0) hb); have n1_ := Aside0.mk (Kd.R_elder' (by (with_reducible repeat (first | apply Kd.R_alloc | apply Kd.R_drewN | apply Kd.R_drew)); exact HO275.out) (Kd.R_base ho0) hb); have n2_ := Aside0.mk (Kd.R_lower (Kd.R_new' (Kd.R_new' ho0 (Kd.R_lt (by (with_reducible repeat (first | apply Kd.R_alloc | apply Kd.R_drewN | apply Kd.R_drew)); exact HO271.out))) (Kd.R_lt (by (with_reducible repeat (first | apply Kd.R_alloc | apply Kd.R_drewN | apply Kd.R_drew)); exact HO275.out))) (below_size (by repeat (first | (with_reducible first | exact HB.out | apply below_alloc | apply pw_below_drewN | apply below_drew1) | exact HB.out)))); have n3_ := Aside0.mk (below_step (by repeat (first | (with_reducible first | exact HB.out | apply below_alloc | apply pw_below_drewN | apply below_drew1) | exact HB.out)) hb); clear HO271; clear HO275; clear HB; have HO271 := n0_; have HO275 := n1_; have HO279 := n2_; have HB := n3_; clear n0_ n1_ n2_ n3_; (try clear hb); (try clear hb2); (try clear hk); (try clear hi); (try clear ho0)))
    (try simp only [Act.put, List.setIfInBounds_toArray, List.set_cons_zero, List.set_cons_succ])
    go_cut [38] (fun v38 wc => ∃ (kq : Nat) (x38_8 : Bool), v38 = .bool x38_8 ∧ Aside0 (palletlaw03_CrcSeals.j0 kq l0 true y269 x38_8 = some r) ∧ Aside0 (kq ≤ k) ∧ Aside0 (Kd.R (Kd.int .u8) 5 wc w.heap.size (fun _ => True) v270 y269) ∧ Aside0 (Below w.heap.size w wc))
    case first =>
     have H := HC9.out
     clear HC9
     replace H := Option.bind_eq_some_iff.mp H
     obtain ⟨t280, A140, H⟩ := H
     replace H : (if t280 = true then (palletlaw03_CrcSeals.j0 k l0 true y269 (t273 != t277)) else (palletlaw03_CrcSeals.j0 k l0 true y269 true)) = some r := H
     have A14 := Aside0.mk A140
     clear A140
     by_cases c15 : t280 = true
     ·subst c15
      have H1 : (palletlaw03_CrcSeals.j0 k l0 true y269 (t273 != t277)) = some r := by rw [if_pos rfl] at H; exact H
      clear H
      have H := H1
      clear H1
      have H' := Aside0.mk H
      clear H
      obtain ⟨Ao16, co16, eo16⟩ := Kd.R_slice HO275.out
      subst eo16
      obtain ⟨Ao17, co17, eo17⟩ := Kd.R_slice HO279.out
      subst eo17
      go_wp2_with (first | ((with_reducible refine gate_callee (f := 15) rfl ?_); refine goesL_ (some 32) rfl rfl Try.func15 (by kernel_rfl) rfl #[.slice Ao16 t272.length co16, .slice Ao17 t276.length co17] rfl (by (try simp only [List.map_toArray, List.map_cons, List.map_nil]); first | done | rfl | (simp only [List.length_drop, List.length_take]; first | rfl | (rw [Nat.min_eq_left (Int.toNat_le.2 (of_decide_eq_true (by assumption)))]; rfl))) ?_; (with_reducible refine (palletref02_Same.calls _ _ t272 _ _ t276 true _ ?side1 ?side2 ?side3 ?side4 A14.out).mono ?_); (case side1 => repeat (first | exact (Kd.R_reads' HO275.out).2.2 | (with_reducible refine Kd.C_alloc ?_ _) | (with_reducible refine Kd.C_drewN ?_ _) | (with_reducible refine Kd.C_drew ?_))); (case side2 => exact (Kd.R_reads' HO275.out).2.1); (case side3 => repeat (first | exact (Kd.R_reads' HO279.out).2.2 | (with_reducible refine Kd.C_alloc ?_ _) | (with_reducible refine Kd.C_drewN ?_ _) | (with_reducible refine Kd.C_drew ?_))); (case side4 => exact (Kd.R_reads' HO279.out).2.1); rintro e w' ⟨rfl, ⟨nd, rfl⟩⟩; refine ⟨_, rfl, ?_⟩))
      go_meet
      case rel => exact ⟨_, ((t273 != t277)), (by first | rfl | (simp; done) | (simp [*]; done)), H', ⟨by first | omega | exact Nat.le_refl _⟩, ⟨by (with_reducible repeat (first | apply Kd.R_alloc | apply Kd.R_drewN | apply Kd.R_drew)); exact Kd.R_mono HO271.out (fun _ hk => trivial)⟩, ⟨by repeat (first | (with_reducible first | exact HB.out | apply below_alloc | apply pw_below_drewN | apply below_drew1) | exact HB.out)⟩⟩
     ·replace c15 := Bool.eq_false_iff.mpr c15
      subst c15
      have H1 : (palletlaw03_CrcSeals.j0 k l0 true y269 true) = some r := by rw [if_neg (show ¬ (false = true) by decide)] at H; exact H
      clear H
      have H := H1
      clear H1
      have H' := Aside0.mk H
      clear H
      obtain ⟨Ao18, co18, eo18⟩ := Kd.R_slice HO275.out
      subst eo18
      obtain ⟨Ao19, co19, eo19⟩ := Kd.R_slice HO279.out
      subst eo19
      go_wp2_with (first | ((with_reducible refine gate_callee (f := 15) rfl ?_); refine goesL_ (some 32) rfl rfl Try.func15 (by kernel_rfl) rfl #[.slice Ao18 t272.length co18, .slice Ao19 t276.length co19] rfl (by (try simp only [List.map_toArray, List.map_cons, List.map_nil]); first | done | rfl | (simp only [List.length_drop, List.length_take]; first | rfl | (rw [Nat.min_eq_left (Int.toNat_le.2 (of_decide_eq_true (by assumption)))]; rfl))) ?_; (with_reducible refine (palletref02_Same.calls _ _ t272 _ _ t276 false _ ?side1 ?side2 ?side3 ?side4 A14.out).mono ?_); (case side1 => repeat (first | exact (Kd.R_reads' HO275.out).2.2 | (with_reducible refine Kd.C_alloc ?_ _) | (with_reducible refine Kd.C_drewN ?_ _) | (with_reducible refine Kd.C_drew ?_))); (case side2 => exact (Kd.R_reads' HO275.out).2.1); (case side3 => repeat (first | exact (Kd.R_reads' HO279.out).2.2 | (with_reducible refine Kd.C_alloc ?_ _) | (with_reducible refine Kd.C_drewN ?_ _) | (with_reducible refine Kd.C_drew ?_))); (case side4 => exact (Kd.R_reads' HO279.out).2.1); rintro e w' ⟨rfl, ⟨nd, rfl⟩⟩; refine ⟨_, rfl, ?_⟩))
      go_meet
      case rel => exact ⟨_, (true), (by first | rfl | (simp; done) | (simp [*]; done)), H', ⟨by first | omega | exact Nat.le_refl _⟩, ⟨by (with_reducible repeat (first | apply Kd.R_alloc | apply Kd.R_drewN | apply Kd.R_drew)); exact Kd.R_mono HO271.out (fun _ hk => trivial)⟩, ⟨by repeat (first | (with_reducible first | exact HB.out | apply below_alloc | apply pw_below_drewN | apply below_drew1) | exact HB.out)⟩⟩
    case rest =>
     clear HC9
     try clear c1
     try clear p2
     try clear c3
     try clear c4
     try clear c4b0
     try clear c4b1
     try clear c6
     try clear c8
     try clear c15
     try clear c16
     try clear c17
     obtain ⟨kq, x38_8, rfl, HA, HJ8, HO_4, HB⟩ := hcut
     cases kq with
     | zero => exact absurd HA.out (by simp [palletlaw03_CrcSeals.j0])
     | succ kj8 =>
      have H := HA.out
      clear HA
      simp only [palletlaw03_CrcSeals.j0] at H
      by_cases c20 : x38_8 = true
      ·subst c20
       have H1 : (some false) = some r := by rw [if_pos rfl] at H; exact H
       clear H
       have H := H1
       clear H1
       obtain rfl := Option.some.inj H
       exact absurd hr_.out (by decide)
      ·replace c20 := Bool.eq_false_iff.mpr c20
       subst c20
       have H1 : ((crc_Seal32.f l0).bind fun bt281 => ((palletref03_Seal32.f kj8 l0).bind fun bt285 => ((palletref02_Same.f bt281.1 bt285.1).bind fun t289 => (if t289 = true then (palletlaw03_CrcSeals.j1 kj8 l0 true y269 (bt281.2 != bt285.2)) else (palletlaw03_CrcSeals.j1 kj8 l0 true y269 true))))) = some r := by rw [if_neg (show ¬ (false = true) by decide)] at H; exact H
       clear H
       have H := H1
       clear H1
       replace H := Option.bind_eq_some_iff.mp H
       obtain ⟨⟨t281, t282⟩, A210, H⟩ := H
       replace H : ((palletref03_Seal32.f kj8 l0).bind fun bt285 => ((palletref02_Same.f t281 bt285.1).bind fun t289 => (if t289 = true then (palletlaw03_CrcSeals.j1 kj8 l0 true y269 (t282 != bt285.2)) else (palletlaw03_CrcSeals.j1 kj8 l0 true y269 true)))) = some r := H
       have A21 := Aside0.mk A210
       clear A210
       replace H := Option.bind_eq_some_iff.mp H
       obtain ⟨⟨t285, t286⟩, A220, H⟩ := H
       replace H : ((palletref02_Same.f t281 t285).bind fun t289 => (if t289 = true then (palletlaw03_CrcSeals.j1 kj8 l0 true y269 (t282 != t286)) else (palletlaw03_CrcSeals.j1 kj8 l0 true y269 true))) = some r := H
       have A22 := Aside0.mk A220
       clear A220
       have HC23 := Aside0.mk H
       clear H
       go_upto_region 13 with (first | ((with_reducible refine gate_callee (f := 18) rfl ?_); refine goesL_ (some 41) rfl rfl Try.func18 (by kernel_rfl) rfl #[.slice A0 l0.length c0] rfl (by (try simp only [List.map_toArray, List.map_cons, List.map_nil]); first | done | rfl | (simp only [List.length_drop, List.length_take]; first | rfl | (rw [Nat.min_eq_left (Int.toNat_le.2 (of_decide_eq_true (by assumption)))]; rfl))) ?_; (with_reducible refine (crc_Seal32.calls _ _ l0 t281 t282 _ ?side1 ?side2 A21.out).mono ?_); (case side1 => repeat (first | exact (Kd.C_below HR0.out HB.out) | (with_reducible refine Kd.C_alloc ?_ _) | (with_reducible refine Kd.C_drewN ?_ _) | (with_reducible refine Kd.C_drew ?_))); (case side2 => exact HC0.out); rintro e w24 ⟨v283, rfl, ho0, hb⟩; refine ⟨_, rfl, ?_⟩; have n0_ := Aside0.mk (Kd.R_elder' (by (with_reducible repeat (first | apply Kd.R_alloc | apply Kd.R_drewN | apply Kd.R_drew)); exact HO_4.out) (Kd.R_base ho0) hb); have n1_ := Aside0.mk (Kd.R_lower (Kd.R_new' ho0 (Kd.R_lt (by (with_reducible repeat (first | apply Kd.R_alloc | apply Kd.R_drewN | apply Kd.R_drew)); exact HO_4.out))) (below_size (by repeat (first | (with_reducible first | exact HB.out | apply below_alloc | apply pw_below_drewN | apply below_drew1) | exact HB.out)))); have n2_ := Aside0.mk (below_step (by repeat (first | (with_reducible first | exact HB.out | apply below_alloc | apply pw_below_drewN | apply below_drew1) | exact HB.out)) hb); clear HO_4; clear HB; have HO_4 := n0_; have HO284 := n1_; have HB := n2_; clear n0_ n1_ n2_; (try clear hb); (try clear hb2); (try clear hk); (try clear hi); (try clear ho0)) | ((with_reducible refine gate_callee (f := 19) rfl ?_); refine goesL_ (some 46) rfl rfl Try.func19 (by kernel_rfl) rfl #[.slice A0 l0.length c0] rfl (by (try simp only [List.map_toArray, List.map_cons, List.map_nil]); first | done | rfl | (simp only [List.length_drop, List.length_take]; first | rfl | (rw [Nat.min_eq_left (Int.toNat_le.2 (of_decide_eq_true (by assumption)))]; rfl))) ?_; (with_reducible refine (palletref03_Seal32.calls kj8 _ _ l0 t285 t286 _ ?side1 ?side2 A22.out).mono ?_); (case side1 => repeat (first | exact (Kd.C_below HR0.out HB.out) | (with_reducible refine Kd.C_alloc ?_ _) | (with_reducible refine Kd.C_drewN ?_ _) | (with_reducible refine Kd.C_drew ?_))); (case side2 => exact HC0.out); rintro e w25 ⟨v287, rfl, ho0, hb⟩; refine ⟨_, rfl, ?_⟩; have n0_ := Aside0.mk (Kd.R_elder' (by (with_reducible repeat (first | apply Kd.R_alloc | apply Kd.R_drewN | apply Kd.R_drew)); exact HO_4.out) (Kd.R_base ho0) hb); have n1_ := Aside0.mk (Kd.R_elder' (by (with_reducible repeat (first | apply Kd.R_alloc | apply Kd.R_drewN | apply Kd.R_drew)); exact HO284.out) (Kd.R_base ho0) hb); have n2_ := Aside0.mk (Kd.R_lower (Kd.R_new' (Kd.R_new' ho0 (Kd.R_lt (by (with_reducible repeat (first | apply Kd.R_alloc | apply Kd.R_drewN | apply Kd.R_drew)); exact HO_4.out))) (Kd.R_lt (by (with_reducible repeat (first | apply Kd.R_alloc | apply Kd.R_drewN | apply Kd.R_drew)); exact HO284.out))) (below_size (by repeat (first | (with_reducible first | exact HB.out | apply below_alloc | apply pw_below_drewN | apply below_drew1) | exact HB.out)))); have n3_ := Aside0.mk (below_step (by repeat (first | (with_reducible first | exact HB.out | apply below_alloc | apply pw_below_drewN | apply below_drew1) | exact HB.out)) hb); clear HO_4; clear HO284; clear HB; have HO_4 := n0_; have HO284 := n1_; have HO288 := n2_; have HB := n3_; clear n0_ n1_ n2_ n3_; (try clear hb); (try clear hb2); (try clear hk); (try clear hi); (try clear ho0)))
       (try simp only [Act.put, List.setIfInBounds_toArray, List.set_cons_zero, List.set_cons_succ])
       go_cut [57] (fun v57 wc => ∃ (kq : Nat) (x57_22 : Bool), v57 = .bool x57_22 ∧ Aside0 (palletlaw03_CrcSeals.j1 kq l0 true y269 x57_22 = some r) ∧ Aside0 (kq ≤ kj8) ∧ Aside0 (Kd.R (Kd.int .u8) 5 wc w.heap.size (fun _ => True) v270 y269) ∧ Aside0 (Below w.heap.size w wc))
       case first =>
        have H := HC23.out
        clear HC23
        replace H := Option.bind_eq_some_iff.mp H
        obtain ⟨t289, A260, H⟩ := H
        replace H : (if t289 = true then (palletlaw03_CrcSeals.j1 kj8 l0 true y269 (t282 != t286)) else (palletlaw03_CrcSeals.j1 kj8 l0 true y269 true)) = some r := H
        have A26 := Aside0.mk A260
        clear A260
        by_cases c27 : t289 = true
        ·subst c27
         have H1 : (palletlaw03_CrcSeals.j1 kj8 l0 true y269 (t282 != t286)) = some r := by rw [if_pos rfl] at H; exact H
         clear H
         have H := H1
         clear H1
         have H' := Aside0.mk H
         clear H
         obtain ⟨Ao28, co28, eo28⟩ := Kd.R_slice HO284.out
         subst eo28
         obtain ⟨Ao29, co29, eo29⟩ := Kd.R_slice HO288.out
         subst eo29
         go_wp2_with (first | ((with_reducible refine gate_callee (f := 15) rfl ?_); refine goesL_ (some 51) rfl rfl Try.func15 (by kernel_rfl) rfl #[.slice Ao28 t281.length co28, .slice Ao29 t285.length co29] rfl (by (try simp only [List.map_toArray, List.map_cons, List.map_nil]); first | done | rfl | (simp only [List.length_drop, List.length_take]; first | rfl | (rw [Nat.min_eq_left (Int.toNat_le.2 (of_decide_eq_true (by assumption)))]; rfl))) ?_; (with_reducible refine (palletref02_Same.calls _ _ t281 _ _ t285 true _ ?side1 ?side2 ?side3 ?side4 A26.out).mono ?_); (case side1 => repeat (first | exact (Kd.R_reads' HO284.out).2.2 | (with_reducible refine Kd.C_alloc ?_ _) | (with_reducible refine Kd.C_drewN ?_ _) | (with_reducible refine Kd.C_drew ?_))); (case side2 => exact (Kd.R_reads' HO284.out).2.1); (case side3 => repeat (first | exact (Kd.R_reads' HO288.out).2.2 | (with_reducible refine Kd.C_alloc ?_ _) | (with_reducible refine Kd.C_drewN ?_ _) | (with_reducible refine Kd.C_drew ?_))); (case side4 => exact (Kd.R_reads' HO288.out).2.1); rintro e w' ⟨rfl, ⟨nd, rfl⟩⟩; refine ⟨_, rfl, ?_⟩))
         go_meet
         case rel => exact ⟨_, ((t282 != t286)), (by first | rfl | (simp; done) | (simp [*]; done)), H', ⟨by have := HJ8.out; first | omega | exact Nat.le_refl _⟩, ⟨by (with_reducible repeat (first | apply Kd.R_alloc | apply Kd.R_drewN | apply Kd.R_drew)); exact Kd.R_mono HO_4.out (fun _ hk => trivial)⟩, ⟨by repeat (first | (with_reducible first | exact HB.out | apply below_alloc | apply pw_below_drewN | apply below_drew1) | exact HB.out)⟩⟩
        ·replace c27 := Bool.eq_false_iff.mpr c27
         subst c27
         have H1 : (palletlaw03_CrcSeals.j1 kj8 l0 true y269 true) = some r := by rw [if_neg (show ¬ (false = true) by decide)] at H; exact H
         clear H
         have H := H1
         clear H1
         have H' := Aside0.mk H
         clear H
         obtain ⟨Ao30, co30, eo30⟩ := Kd.R_slice HO284.out
         subst eo30
         obtain ⟨Ao31, co31, eo31⟩ := Kd.R_slice HO288.out
         subst eo31
         go_wp2_with (first | ((with_reducible refine gate_callee (f := 15) rfl ?_); refine goesL_ (some 51) rfl rfl Try.func15 (by kernel_rfl) rfl #[.slice Ao30 t281.length co30, .slice Ao31 t285.length co31] rfl (by (try simp only [List.map_toArray, List.map_cons, List.map_nil]); first | done | rfl | (simp only [List.length_drop, List.length_take]; first | rfl | (rw [Nat.min_eq_left (Int.toNat_le.2 (of_decide_eq_true (by assumption)))]; rfl))) ?_; (with_reducible refine (palletref02_Same.calls _ _ t281 _ _ t285 false _ ?side1 ?side2 ?side3 ?side4 A26.out).mono ?_); (case side1 => repeat (first | exact (Kd.R_reads' HO284.out).2.2 | (with_reducible refine Kd.C_alloc ?_ _) | (with_reducible refine Kd.C_drewN ?_ _) | (with_reducible refine Kd.C_drew ?_))); (case side2 => exact (Kd.R_reads' HO284.out).2.1); (case side3 => repeat (first | exact (Kd.R_reads' HO288.out).2.2 | (with_reducible refine Kd.C_alloc ?_ _) | (with_reducible refine Kd.C_drewN ?_ _) | (with_reducible refine Kd.C_drew ?_))); (case side4 => exact (Kd.R_reads' HO288.out).2.1); rintro e w' ⟨rfl, ⟨nd, rfl⟩⟩; refine ⟨_, rfl, ?_⟩))
         go_meet
         case rel => exact ⟨_, (true), (by first | rfl | (simp; done) | (simp [*]; done)), H', ⟨by have := HJ8.out; first | omega | exact Nat.le_refl _⟩, ⟨by (with_reducible repeat (first | apply Kd.R_alloc | apply Kd.R_drewN | apply Kd.R_drew)); exact Kd.R_mono HO_4.out (fun _ hk => trivial)⟩, ⟨by repeat (first | (with_reducible first | exact HB.out | apply below_alloc | apply pw_below_drewN | apply below_drew1) | exact HB.out)⟩⟩
       case rest =>
        clear HC23
        try clear c1
        try clear c2
        try clear p2
        try clear c3
        try clear c4
        try clear c4b0
        try clear c4b1
        try clear c6
        try clear c8
        try clear c15
        try clear c16
        try clear c17
        try clear c18
        try clear c19
        try clear c20
        try clear c27
        try clear p2
        obtain ⟨kq, x57_22, rfl, HA, HJ22, HO_4, HB⟩ := hcut
        cases kq with
        | zero => exact absurd HA.out (by simp [palletlaw03_CrcSeals.j1])
        | succ kj22 =>
         have H := HA.out
         clear HA
         simp only [palletlaw03_CrcSeals.j1] at H
         by_cases c32 : x57_22 = true
         ·subst c32
          have H1 : (some false) = some r := by rw [if_pos rfl] at H; exact H
          clear H
          have H := H1
          clear H1
          obtain rfl := Option.some.inj H
          exact absurd hr_.out (by decide)
         ·replace c32 := Bool.eq_false_iff.mpr c32
          subst c32
          have H1 : ((crc_Open24.f l0).bind fun bt290 => ((palletref03_Open24.f kj22 l0).bind fun bt294 => ((palletref02_Same.f bt290.1 bt294.1).bind fun t298 => (if t298 = true then (palletlaw03_CrcSeals.j2 kj22 l0 true y269 (bt290.2 != bt294.2)) else (palletlaw03_CrcSeals.j2 kj22 l0 true y269 true))))) = some r := by rw [if_neg (show ¬ (false = true) by decide)] at H; exact H
          clear H
          have H := H1
          clear H1
          replace H := Option.bind_eq_some_iff.mp H
          obtain ⟨⟨t290, t291⟩, A330, H⟩ := H
          replace H : ((palletref03_Open24.f kj22 l0).bind fun bt294 => ((palletref02_Same.f t290 bt294.1).bind fun t298 => (if t298 = true then (palletlaw03_CrcSeals.j2 kj22 l0 true y269 (t291 != bt294.2)) else (palletlaw03_CrcSeals.j2 kj22 l0 true y269 true)))) = some r := H
          have A33 := Aside0.mk A330
          clear A330
          replace H := Option.bind_eq_some_iff.mp H
          obtain ⟨⟨t294, t295⟩, A340, H⟩ := H
          replace H : ((palletref02_Same.f t290 t294).bind fun t298 => (if t298 = true then (palletlaw03_CrcSeals.j2 kj22 l0 true y269 (t291 != t295)) else (palletlaw03_CrcSeals.j2 kj22 l0 true y269 true))) = some r := H
          have A34 := Aside0.mk A340
          clear A340
          have HC35 := Aside0.mk H
          clear H
          go_upto_region 17 with (first | ((with_reducible refine gate_callee (f := 20) rfl ?_); refine goesL_ (some 60) rfl rfl Try.func20 (by kernel_rfl) rfl #[.slice A0 l0.length c0] rfl (by (try simp only [List.map_toArray, List.map_cons, List.map_nil]); first | done | rfl | (simp only [List.length_drop, List.length_take]; first | rfl | (rw [Nat.min_eq_left (Int.toNat_le.2 (of_decide_eq_true (by assumption)))]; rfl))) ?_; (with_reducible refine (crc_Open24.calls _ _ l0 t290 t291 _ ?side1 ?side2 A33.out).mono ?_); (case side1 => repeat (first | exact (Kd.C_below HR0.out HB.out) | (with_reducible refine Kd.C_alloc ?_ _) | (with_reducible refine Kd.C_drewN ?_ _) | (with_reducible refine Kd.C_drew ?_))); (case side2 => exact HC0.out); rintro e w36 ⟨v292, rfl, ho0, hb⟩; refine ⟨_, rfl, ?_⟩; have n0_ := Aside0.mk (Kd.R_elder' (by (with_reducible repeat (first | apply Kd.R_alloc | apply Kd.R_drewN | apply Kd.R_drew)); exact HO_4.out) (Kd.R_base ho0) hb); have n1_ := Aside0.mk (Kd.R_lower (Kd.R_new' ho0 (Kd.R_lt (by (with_reducible repeat (first | apply Kd.R_alloc | apply Kd.R_drewN | apply Kd.R_drew)); exact HO_4.out))) (below_size (by repeat (first | (with_reducible first | exact HB.out | apply below_alloc | apply pw_below_drewN | apply below_drew1) | exact HB.out)))); have n2_ := Aside0.mk (below_step (by repeat (first | (with_reducible first | exact HB.out | apply below_alloc | apply pw_below_drewN | apply below_drew1) | exact HB.out)) hb); clear HO_4; clear HB; have HO_4 := n0_; have HO293 := n1_; have HB := n2_; clear n0_ n1_ n2_; (try clear hb); (try clear hb2); (try clear hk); (try clear hi); (try clear ho0)) | ((with_reducible refine gate_callee (f := 21) rfl ?_); refine goesL_ (some 65) rfl rfl Try.func21 (by kernel_rfl) rfl #[.slice A0 l0.length c0] rfl (by (try simp only [List.map_toArray, List.map_cons, List.map_nil]); first | done | rfl | (simp only [List.length_drop, List.length_take]; first | rfl | (rw [Nat.min_eq_left (Int.toNat_le.2 (of_decide_eq_true (by assumption)))]; rfl))) ?_; (with_reducible refine (palletref03_Open24.calls kj22 _ _ l0 t294 t295 _ ?side1 ?side2 A34.out).mono ?_); (case side1 => repeat (first | exact (Kd.C_below HR0.out HB.out) | (with_reducible refine Kd.C_alloc ?_ _) | (with_reducible refine Kd.C_drewN ?_ _) | (with_reducible refine Kd.C_drew ?_))); (case side2 => exact HC0.out); rintro e w37 ⟨v296, rfl, ho0, hb⟩; refine ⟨_, rfl, ?_⟩; have n0_ := Aside0.mk (Kd.R_elder' (by (with_reducible repeat (first | apply Kd.R_alloc | apply Kd.R_drewN | apply Kd.R_drew)); exact HO_4.out) (Kd.R_base ho0) hb); have n1_ := Aside0.mk (Kd.R_elder' (by (with_reducible repeat (first | apply Kd.R_alloc | apply Kd.R_drewN | apply Kd.R_drew)); exact HO293.out) (Kd.R_base ho0) hb); have n2_ := Aside0.mk (Kd.R_lower (Kd.R_new' (Kd.R_new' ho0 (Kd.R_lt (by (with_reducible repeat (first | apply Kd.R_alloc | apply Kd.R_drewN | apply Kd.R_drew)); exact HO_4.out))) (Kd.R_lt (by (with_reducible repeat (first | apply Kd.R_alloc | apply Kd.R_drewN | apply Kd.R_drew)); exact HO293.out))) (below_size (by repeat (first | (with_reducible first | exact HB.out | apply below_alloc | apply pw_below_drewN | apply below_drew1) | exact HB.out)))); have n3_ := Aside0.mk (below_step (by repeat (first | (with_reducible first | exact HB.out | apply below_alloc | apply pw_below_drewN | apply below_drew1) | exact HB.out)) hb); clear HO_4; clear HO293; clear HB; have HO_4 := n0_; have HO293 := n1_; have HO297 := n2_; have HB := n3_; clear n0_ n1_ n2_ n3_; (try clear hb); (try clear hb2); (try clear hk); (try clear hi); (try clear ho0)))
          (try simp only [Act.put, List.setIfInBounds_toArray, List.set_cons_zero, List.set_cons_succ])
          go_cut [76] (fun v76 wc => ∃ (kq : Nat) (x76_34 : Bool), v76 = .bool x76_34 ∧ Aside0 (palletlaw03_CrcSeals.j2 kq l0 true y269 x76_34 = some r) ∧ Aside0 (kq ≤ kj22) ∧ Aside0 (Kd.R (Kd.int .u8) 5 wc w.heap.size (fun _ => True) v270 y269) ∧ Aside0 (Below w.heap.size w wc))
          case first =>
           have H := HC35.out
           clear HC35
           replace H := Option.bind_eq_some_iff.mp H
           obtain ⟨t298, A380, H⟩ := H
           replace H : (if t298 = true then (palletlaw03_CrcSeals.j2 kj22 l0 true y269 (t291 != t295)) else (palletlaw03_CrcSeals.j2 kj22 l0 true y269 true)) = some r := H
           have A38 := Aside0.mk A380
           clear A380
           by_cases c39 : t298 = true
           ·subst c39
            have H1 : (palletlaw03_CrcSeals.j2 kj22 l0 true y269 (t291 != t295)) = some r := by rw [if_pos rfl] at H; exact H
            clear H
            have H := H1
            clear H1
            have H' := Aside0.mk H
            clear H
            obtain ⟨Ao40, co40, eo40⟩ := Kd.R_slice HO293.out
            subst eo40
            obtain ⟨Ao41, co41, eo41⟩ := Kd.R_slice HO297.out
            subst eo41
            go_wp2_with (first | ((with_reducible refine gate_callee (f := 15) rfl ?_); refine goesL_ (some 70) rfl rfl Try.func15 (by kernel_rfl) rfl #[.slice Ao40 t290.length co40, .slice Ao41 t294.length co41] rfl (by (try simp only [List.map_toArray, List.map_cons, List.map_nil]); first | done | rfl | (simp only [List.length_drop, List.length_take]; first | rfl | (rw [Nat.min_eq_left (Int.toNat_le.2 (of_decide_eq_true (by assumption)))]; rfl))) ?_; (with_reducible refine (palletref02_Same.calls _ _ t290 _ _ t294 true _ ?side1 ?side2 ?side3 ?side4 A38.out).mono ?_); (case side1 => repeat (first | exact (Kd.R_reads' HO293.out).2.2 | (with_reducible refine Kd.C_alloc ?_ _) | (with_reducible refine Kd.C_drewN ?_ _) | (with_reducible refine Kd.C_drew ?_))); (case side2 => exact (Kd.R_reads' HO293.out).2.1); (case side3 => repeat (first | exact (Kd.R_reads' HO297.out).2.2 | (with_reducible refine Kd.C_alloc ?_ _) | (with_reducible refine Kd.C_drewN ?_ _) | (with_reducible refine Kd.C_drew ?_))); (case side4 => exact (Kd.R_reads' HO297.out).2.1); rintro e w' ⟨rfl, ⟨nd, rfl⟩⟩; refine ⟨_, rfl, ?_⟩))
            go_meet
            case rel => exact ⟨_, ((t291 != t295)), (by first | rfl | (simp; done) | (simp [*]; done)), H', ⟨by have := HJ8.out; have := HJ22.out; first | omega | exact Nat.le_refl _⟩, ⟨by (with_reducible repeat (first | apply Kd.R_alloc | apply Kd.R_drewN | apply Kd.R_drew)); exact Kd.R_mono HO_4.out (fun _ hk => trivial)⟩, ⟨by repeat (first | (with_reducible first | exact HB.out | apply below_alloc | apply pw_below_drewN | apply below_drew1) | exact HB.out)⟩⟩
           ·replace c39 := Bool.eq_false_iff.mpr c39
            subst c39
            have H1 : (palletlaw03_CrcSeals.j2 kj22 l0 true y269 true) = some r := by rw [if_neg (show ¬ (false = true) by decide)] at H; exact H
            clear H
            have H := H1
            clear H1
            have H' := Aside0.mk H
            clear H
            obtain ⟨Ao42, co42, eo42⟩ := Kd.R_slice HO293.out
            subst eo42
            obtain ⟨Ao43, co43, eo43⟩ := Kd.R_slice HO297.out
            subst eo43
            go_wp2_with (first | ((with_reducible refine gate_callee (f := 15) rfl ?_); refine goesL_ (some 70) rfl rfl Try.func15 (by kernel_rfl) rfl #[.slice Ao42 t290.length co42, .slice Ao43 t294.length co43] rfl (by (try simp only [List.map_toArray, List.map_cons, List.map_nil]); first | done | rfl | (simp only [List.length_drop, List.length_take]; first | rfl | (rw [Nat.min_eq_left (Int.toNat_le.2 (of_decide_eq_true (by assumption)))]; rfl))) ?_; (with_reducible refine (palletref02_Same.calls _ _ t290 _ _ t294 false _ ?side1 ?side2 ?side3 ?side4 A38.out).mono ?_); (case side1 => repeat (first | exact (Kd.R_reads' HO293.out).2.2 | (with_reducible refine Kd.C_alloc ?_ _) | (with_reducible refine Kd.C_drewN ?_ _) | (with_reducible refine Kd.C_drew ?_))); (case side2 => exact (Kd.R_reads' HO293.out).2.1); (case side3 => repeat (first | exact (Kd.R_reads' HO297.out).2.2 | (with_reducible refine Kd.C_alloc ?_ _) | (with_reducible refine Kd.C_drewN ?_ _) | (with_reducible refine Kd.C_drew ?_))); (case side4 => exact (Kd.R_reads' HO297.out).2.1); rintro e w' ⟨rfl, ⟨nd, rfl⟩⟩; refine ⟨_, rfl, ?_⟩))
            go_meet
            case rel => exact ⟨_, (true), (by first | rfl | (simp; done) | (simp [*]; done)), H', ⟨by have := HJ8.out; have := HJ22.out; first | omega | exact Nat.le_refl _⟩, ⟨by (with_reducible repeat (first | apply Kd.R_alloc | apply Kd.R_drewN | apply Kd.R_drew)); exact Kd.R_mono HO_4.out (fun _ hk => trivial)⟩, ⟨by repeat (first | (with_reducible first | exact HB.out | apply below_alloc | apply pw_below_drewN | apply below_drew1) | exact HB.out)⟩⟩
          case rest =>
           clear HC35
           try clear c1
           try clear c2
           try clear p2
           try clear c3
           try clear c4
           try clear c4b0
           try clear c4b1
           try clear c6
           try clear c8
           try clear c15
           try clear c16
           try clear c17
           try clear c18
           try clear c19
           try clear c20
           try clear c21
           try clear c27
           try clear c32
           try clear c39
           try clear p2
           obtain ⟨kq, x76_34, rfl, HA, HJ34, HO_4, HB⟩ := hcut
           cases kq with
           | zero => exact absurd HA.out (by simp [palletlaw03_CrcSeals.j2])
           | succ kj34 =>
            have H := HA.out
            clear HA
            simp only [palletlaw03_CrcSeals.j2] at H
            by_cases c44 : x76_34 = true
            ·subst c44
             have H1 : (some false) = some r := by rw [if_pos rfl] at H; exact H
             clear H
             have H := H1
             clear H1
             obtain rfl := Option.some.inj H
             exact absurd hr_.out (by decide)
            ·replace c44 := Bool.eq_false_iff.mpr c44
             subst c44
             have H1 : ((crc_Open32.f l0).bind fun bt299 => ((palletref03_Open32.f kj34 l0).bind fun bt303 => ((palletref02_Same.f bt299.1 bt303.1).bind fun t307 => (if t307 = true then (palletlaw03_CrcSeals.j3 kj34 l0 true y269 bt299.1 (bt299.2 == bt303.2)) else (palletlaw03_CrcSeals.j3 kj34 l0 true y269 bt299.1 false))))) = some r := by rw [if_neg (show ¬ (false = true) by decide)] at H; exact H
             clear H
             have H := H1
             clear H1
             replace H := Option.bind_eq_some_iff.mp H
             obtain ⟨⟨t299, t300⟩, A450, H⟩ := H
             replace H : ((palletref03_Open32.f kj34 l0).bind fun bt303 => ((palletref02_Same.f t299 bt303.1).bind fun t307 => (if t307 = true then (palletlaw03_CrcSeals.j3 kj34 l0 true y269 t299 (t300 == bt303.2)) else (palletlaw03_CrcSeals.j3 kj34 l0 true y269 t299 false)))) = some r := H
             have A45 := Aside0.mk A450
             clear A450
             replace H := Option.bind_eq_some_iff.mp H
             obtain ⟨⟨t303, t304⟩, A460, H⟩ := H
             replace H : ((palletref02_Same.f t299 t303).bind fun t307 => (if t307 = true then (palletlaw03_CrcSeals.j3 kj34 l0 true y269 t299 (t300 == t304)) else (palletlaw03_CrcSeals.j3 kj34 l0 true y269 t299 false))) = some r := H
             have A46 := Aside0.mk A460
             clear A460
             have HC47 := Aside0.mk H
             clear H
             go_upto_region 21 with (first | ((with_reducible refine gate_callee (f := 22) rfl ?_); refine goesL_ (some 79) rfl rfl Try.func22 (by kernel_rfl) rfl #[.slice A0 l0.length c0] rfl (by (try simp only [List.map_toArray, List.map_cons, List.map_nil]); first | done | rfl | (simp only [List.length_drop, List.length_take]; first | rfl | (rw [Nat.min_eq_left (Int.toNat_le.2 (of_decide_eq_true (by assumption)))]; rfl))) ?_; (with_reducible refine (crc_Open32.calls _ _ l0 t299 t300 _ ?side1 ?side2 A45.out).mono ?_); (case side1 => repeat (first | exact (Kd.C_below HR0.out HB.out) | (with_reducible refine Kd.C_alloc ?_ _) | (with_reducible refine Kd.C_drewN ?_ _) | (with_reducible refine Kd.C_drew ?_))); (case side2 => exact HC0.out); rintro e w48 ⟨v301, rfl, ho0, hb⟩; refine ⟨_, rfl, ?_⟩; have n0_ := Aside0.mk (Kd.R_elder' (by (with_reducible repeat (first | apply Kd.R_alloc | apply Kd.R_drewN | apply Kd.R_drew)); exact HO_4.out) (Kd.R_base ho0) hb); have n1_ := Aside0.mk (Kd.R_lower (Kd.R_new' ho0 (Kd.R_lt (by (with_reducible repeat (first | apply Kd.R_alloc | apply Kd.R_drewN | apply Kd.R_drew)); exact HO_4.out))) (below_size (by repeat (first | (with_reducible first | exact HB.out | apply below_alloc | apply pw_below_drewN | apply below_drew1) | exact HB.out)))); have n2_ := Aside0.mk (below_step (by repeat (first | (with_reducible first | exact HB.out | apply below_alloc | apply pw_below_drewN | apply below_drew1) | exact HB.out)) hb); clear HO_4; clear HB; have HO_4 := n0_; have HO302 := n1_; have HB := n2_; clear n0_ n1_ n2_; (try clear hb); (try clear hb2); (try clear hk); (try clear hi); (try clear ho0)) | ((with_reducible refine gate_callee (f := 23) rfl ?_); refine goesL_ (some 84) rfl rfl Try.func23 (by kernel_rfl) rfl #[.slice A0 l0.length c0] rfl (by (try simp only [List.map_toArray, List.map_cons, List.map_nil]); first | done | rfl | (simp only [List.length_drop, List.length_take]; first | rfl | (rw [Nat.min_eq_left (Int.toNat_le.2 (of_decide_eq_true (by assumption)))]; rfl))) ?_; (with_reducible refine (palletref03_Open32.calls kj34 _ _ l0 t303 t304 _ ?side1 ?side2 A46.out).mono ?_); (case side1 => repeat (first | exact (Kd.C_below HR0.out HB.out) | (with_reducible refine Kd.C_alloc ?_ _) | (with_reducible refine Kd.C_drewN ?_ _) | (with_reducible refine Kd.C_drew ?_))); (case side2 => exact HC0.out); rintro e w49 ⟨v305, rfl, ho0, hb⟩; refine ⟨_, rfl, ?_⟩; have n0_ := Aside0.mk (Kd.R_elder' (by (with_reducible repeat (first | apply Kd.R_alloc | apply Kd.R_drewN | apply Kd.R_drew)); exact HO_4.out) (Kd.R_base ho0) hb); have n1_ := Aside0.mk (Kd.R_elder' (by (with_reducible repeat (first | apply Kd.R_alloc | apply Kd.R_drewN | apply Kd.R_drew)); exact HO302.out) (Kd.R_base ho0) hb); have n2_ := Aside0.mk (Kd.R_lower (Kd.R_new' (Kd.R_new' ho0 (Kd.R_lt (by (with_reducible repeat (first | apply Kd.R_alloc | apply Kd.R_drewN | apply Kd.R_drew)); exact HO_4.out))) (Kd.R_lt (by (with_reducible repeat (first | apply Kd.R_alloc | apply Kd.R_drewN | apply Kd.R_drew)); exact HO302.out))) (below_size (by repeat (first | (with_reducible first | exact HB.out | apply below_alloc | apply pw_below_drewN | apply below_drew1) | exact HB.out)))); have n3_ := Aside0.mk (below_step (by repeat (first | (with_reducible first | exact HB.out | apply below_alloc | apply pw_below_drewN | apply below_drew1) | exact HB.out)) hb); clear HO_4; clear HO302; clear HB; have HO_4 := n0_; have HO302 := n1_; have HO306 := n2_; have HB := n3_; clear n0_ n1_ n2_ n3_; (try clear hb); (try clear hb2); (try clear hk); (try clear hi); (try clear ho0)))
             (try simp only [Act.put, List.setIfInBounds_toArray, List.set_cons_zero, List.set_cons_succ])
             go_cut [9] (fun v9 wc => ∃ (kq : Nat) (x9_46 : Bool), v9 = .bool x9_46 ∧ Aside0 (palletlaw03_CrcSeals.j3 kq l0 true y269 t299 x9_46 = some r) ∧ Aside0 (kq ≤ kj34) ∧ Aside0 (Kd.R (Kd.int .u8) 5 wc w.heap.size (fun k_ => some k_ ≠ (v301 : Value).ownBlock) v270 y269) ∧ Aside0 (Kd.R (Kd.int .u8) 5 wc w.heap.size (fun k_ => some k_ ≠ (v270 : Value).ownBlock) v301 t299) ∧ Aside0 (Below w.heap.size w wc))
             case first =>
              have H := HC47.out
              clear HC47
              replace H := Option.bind_eq_some_iff.mp H
              obtain ⟨t307, A500, H⟩ := H
              replace H : (if t307 = true then (palletlaw03_CrcSeals.j3 kj34 l0 true y269 t299 (t300 == t304)) else (palletlaw03_CrcSeals.j3 kj34 l0 true y269 t299 false)) = some r := H
              have A50 := Aside0.mk A500
              clear A500
              by_cases c51 : t307 = true
              ·subst c51
               have H1 : (palletlaw03_CrcSeals.j3 kj34 l0 true y269 t299 (t300 == t304)) = some r := by rw [if_pos rfl] at H; exact H
               clear H
               have H := H1
               clear H1
               have H' := Aside0.mk H
               clear H
               obtain ⟨Ao52, co52, eo52⟩ := Kd.R_slice HO302.out
               subst eo52
               obtain ⟨Ao53, co53, eo53⟩ := Kd.R_slice HO306.out
               subst eo53
               go_wp2_with (first | ((with_reducible refine gate_callee (f := 15) rfl ?_); refine goesL_ (some 89) rfl rfl Try.func15 (by kernel_rfl) rfl #[.slice Ao52 t299.length co52, .slice Ao53 t303.length co53] rfl (by (try simp only [List.map_toArray, List.map_cons, List.map_nil]); first | done | rfl | (simp only [List.length_drop, List.length_take]; first | rfl | (rw [Nat.min_eq_left (Int.toNat_le.2 (of_decide_eq_true (by assumption)))]; rfl))) ?_; (with_reducible refine (palletref02_Same.calls _ _ t299 _ _ t303 true _ ?side1 ?side2 ?side3 ?side4 A50.out).mono ?_); (case side1 => repeat (first | exact (Kd.R_reads' HO302.out).2.2 | (with_reducible refine Kd.C_alloc ?_ _) | (with_reducible refine Kd.C_drewN ?_ _) | (with_reducible refine Kd.C_drew ?_))); (case side2 => exact (Kd.R_reads' HO302.out).2.1); (case side3 => repeat (first | exact (Kd.R_reads' HO306.out).2.2 | (with_reducible refine Kd.C_alloc ?_ _) | (with_reducible refine Kd.C_drewN ?_ _) | (with_reducible refine Kd.C_drew ?_))); (case side4 => exact (Kd.R_reads' HO306.out).2.1); rintro e w' ⟨rfl, ⟨nd, rfl⟩⟩; refine ⟨_, rfl, ?_⟩))
               go_meet
               case rel => exact ⟨_, ((t300 == t304)), (by first | rfl | (simp; done) | (simp [*]; done)), H', ⟨by have := HJ8.out; have := HJ22.out; have := HJ34.out; first | omega | exact Nat.le_refl _⟩, ⟨by (with_reducible repeat (first | apply Kd.R_alloc | apply Kd.R_drewN | apply Kd.R_drew)); exact Kd.R_mono HO_4.out (fun _ hk => hk.1.2)⟩, ⟨by (with_reducible repeat (first | apply Kd.R_alloc | apply Kd.R_drewN | apply Kd.R_drew)); exact Kd.R_mono HO302.out (fun _ hk => hk.1.2)⟩, ⟨by repeat (first | (with_reducible first | exact HB.out | apply below_alloc | apply pw_below_drewN | apply below_drew1) | exact HB.out)⟩⟩
              ·replace c51 := Bool.eq_false_iff.mpr c51
               subst c51
               have H1 : (palletlaw03_CrcSeals.j3 kj34 l0 true y269 t299 false) = some r := by rw [if_neg (show ¬ (false = true) by decide)] at H; exact H
               clear H
               have H := H1
               clear H1
               have H' := Aside0.mk H
               clear H
               obtain ⟨Ao54, co54, eo54⟩ := Kd.R_slice HO302.out
               subst eo54
               obtain ⟨Ao55, co55, eo55⟩ := Kd.R_slice HO306.out
               subst eo55
               go_wp2_with (first | ((with_reducible refine gate_callee (f := 15) rfl ?_); refine goesL_ (some 89) rfl rfl Try.func15 (by kernel_rfl) rfl #[.slice Ao54 t299.length co54, .slice Ao55 t303.length co55] rfl (by (try simp only [List.map_toArray, List.map_cons, List.map_nil]); first | done | rfl | (simp only [List.length_drop, List.length_take]; first | rfl | (rw [Nat.min_eq_left (Int.toNat_le.2 (of_decide_eq_true (by assumption)))]; rfl))) ?_; (with_reducible refine (palletref02_Same.calls _ _ t299 _ _ t303 false _ ?side1 ?side2 ?side3 ?side4 A50.out).mono ?_); (case side1 => repeat (first | exact (Kd.R_reads' HO302.out).2.2 | (with_reducible refine Kd.C_alloc ?_ _) | (with_reducible refine Kd.C_drewN ?_ _) | (with_reducible refine Kd.C_drew ?_))); (case side2 => exact (Kd.R_reads' HO302.out).2.1); (case side3 => repeat (first | exact (Kd.R_reads' HO306.out).2.2 | (with_reducible refine Kd.C_alloc ?_ _) | (with_reducible refine Kd.C_drewN ?_ _) | (with_reducible refine Kd.C_drew ?_))); (case side4 => exact (Kd.R_reads' HO306.out).2.1); rintro e w' ⟨rfl, ⟨nd, rfl⟩⟩; refine ⟨_, rfl, ?_⟩))
               go_meet
               case rel => exact ⟨_, (false), (by first | rfl | (simp; done) | (simp [*]; done)), H', ⟨by have := HJ8.out; have := HJ22.out; have := HJ34.out; first | omega | exact Nat.le_refl _⟩, ⟨by (with_reducible repeat (first | apply Kd.R_alloc | apply Kd.R_drewN | apply Kd.R_drew)); exact Kd.R_mono HO_4.out (fun _ hk => hk.1.2)⟩, ⟨by (with_reducible repeat (first | apply Kd.R_alloc | apply Kd.R_drewN | apply Kd.R_drew)); exact Kd.R_mono HO302.out (fun _ hk => hk.1.2)⟩, ⟨by repeat (first | (with_reducible first | exact HB.out | apply below_alloc | apply pw_below_drewN | apply below_drew1) | exact HB.out)⟩⟩
             case rest =>
              clear HC47
              try clear c1
              try clear c2
              try clear p2
              try clear c3
              try clear c4
              try clear c4b0
              try clear c4b1
              try clear c5
              try clear c6
              try clear c8
              try clear c15
              try clear c16
              try clear c17
              try clear c18
              try clear c19
              try clear c20
              try clear c21
              try clear c22
              try clear c23
              try clear c27
              try clear c32
              try clear c39
              try clear c44
              try clear c51
              try clear p2
              obtain ⟨kq, x9_46, rfl, HA, HJ46, HO_4, HO_5, HB⟩ := hcut
              cases kq with
              | zero => exact absurd HA.out (by simp [palletlaw03_CrcSeals.j3])
              | succ kj46 =>
               have H := HA.out
               clear HA
               simp only [palletlaw03_CrcSeals.j3] at H
               have H' := Aside0.mk H
               clear H
               obtain ⟨Ao56, co56, eo56⟩ := Kd.R_slice HO_5.out
               subst eo56
               go_wp2
               go_loopg [97] kj46 (fun kq v97 w' => ∃ (x5_5 : List Int) (x97_5 : Int), v97 = .int .i64 x97_5 ∧ Aside0 (palletlaw03_CrcSeals.l0 kq l0 true y269 x5_5 x9_46 (t299.length : Int) x97_5 = some r) ∧ Aside0 (kq ≤ kj46) ∧ Aside0 (Kd.R (Kd.int .u8) 5 w' w.heap.size (fun k_ => some k_ ≠ ((.slice Ao56 t299.length co56) : Value).ownBlock) v270 y269) ∧ Aside0 (Kd.R (Kd.int .u8) 5 w' w.heap.size (fun k_ => some k_ ≠ (v270 : Value).ownBlock) (.slice Ao56 t299.length co56) x5_5) ∧ Aside0 (Below w.heap.size w w'))
               case atStart => exact ⟨(t299), (0), (by first | rfl | (simp; done) | (simp [*]; done)), H', ⟨Nat.le_refl _⟩, ⟨by (with_reducible repeat (first | apply Kd.R_alloc | apply Kd.R_drewN | apply Kd.R_drew)); exact HO_4.out⟩, ⟨by (with_reducible repeat (first | apply Kd.R_alloc | apply Kd.R_drewN | apply Kd.R_drew)); exact HO_5.out⟩, ⟨by repeat (first | (with_reducible first | exact HB.out | apply below_alloc | apply pw_below_drewN | apply below_drew1) | exact HB.out)⟩⟩
               case round =>
                clear H'
                try clear c1
                try clear c2
                try clear p2
                try clear c3
                try clear c4
                try clear c4b0
                try clear c4b1
                try clear c5
                try clear c6
                try clear c8
                try clear c15
                try clear c16
                try clear c17
                try clear c18
                try clear c19
                try clear c20
                try clear c21
                try clear c22
                try clear c23
                try clear c27
                try clear c32
                try clear c39
                try clear c44
                try clear c51
                try clear p2
                obtain ⟨x5_5, x97_5, rfl, HA, HK5, HO_4, HO_5, HB⟩ := hrel
                have hl5_5 := (Kd.R_reads' HO_5.out).1
                rw [hl5_5] at HO_5
                (try simp only [hl5_5])
                (try simp only [hl5_5] at HO_4)
                cases gk with
                | zero => exact absurd HA.out (by simp [palletlaw03_CrcSeals.l0])
                | succ k5 =>
                 have H := HA.out
                 clear HA
                 simp only [palletlaw03_CrcSeals.l0] at H
                 by_cases c57 : x97_5 < (t299.length : Int)
                 ·rw [if_pos c57] at H
                  have c57b0 : decide (x97_5 < (t299.length : Int)) = true := decide_eq_true c57
                  (try (have c57h0_hl5_5 := c57b0; rw [hl5_5] at c57h0_hl5_5))
                  clear c57
                  by_cases c58 : 0 ≤ x97_5
                  ·rw [if_pos c58] at H
                   have c58b0 : decide (0 ≤ x97_5) = true := decide_eq_true c58
                   clear c58
                   by_cases c59 : x97_5 < (x5_5.length : Int)
                   ·rw [if_pos c59] at H
                    have c59b0 : decide (x97_5 < (x5_5.length : Int)) = true := decide_eq_true c59
                    (try (have c59h0_hl5_5 := c59b0; rw [hl5_5] at c59h0_hl5_5))
                    clear c59
                    obtain ⟨y309, hy309⟩ : ∃ y_ : List Int, y_ = (x5_5.set (x97_5 : Int).toNat (((rd x5_5 x97_5) + 1) % 256)) := ⟨_, rfl⟩
                    replace H : (palletlaw03_CrcSeals.l0 k5 l0 true y269 y309 x9_46 (t299.length : Int) (wrap64 (x97_5 + 1))) = some r := by first | (rw [hy309]; with_reducible exact H) | (have H2_ := (Option.bind_some _ _).symm.trans H; rw [hy309]; with_reducible exact H2_) | (have H2_ := (Option.bind_some _ _).symm.trans H; with_reducible exact H2_) | with_reducible exact H | (rw [hy309]; exact H) | exact H
                    have Ny309 := Aside0.mk hy309
                    clear hy309
                    have H' := Aside0.mk H
                    clear H
                    have p308 : 0 ≤ (x97_5 : Int) := of_decide_eq_true (by first | (with_reducible assumption) | assumption)
                    have q308 : x97_5 < (x5_5.length : Int) := of_decide_eq_true (by first | (with_reducible assumption) | assumption)
                    obtain ⟨ad308, e308, hx308_0⟩ := Kd.at_int (Kd.R_reads' HO_5.out).2.2 x97_5 p308 q308
                    cases e308
                    replace p308 := eq_true p308
                    replace q308 := eq_true q308
                    have p60 : 0 ≤ (x97_5 : Int) := of_decide_eq_true (by first | (with_reducible assumption) | assumption)
                    have q60 : (x97_5 : Int) < ((x5_5.length : Int) : Int) := of_decide_eq_true (by first | (with_reducible assumption) | assumption)
                    obtain ⟨go60, co60, eo60, gb60, gl60, cl60, HG60⟩ := Kd.R_form HO_5.out (by omega)
                    (first | cases eo60 | (injection eo60 with ea_ en_ ec_; (first | subst ea_ | (injection ea_ with ea_; subst ea_)); subst ec_; clear en_))
                    have GB60 := Aside0.mk gb60
                    have GG60 := Aside0.mk HG60
                    clear gb60 gl60 HG60
                    (first | simp only [add_plain] at hx308_0 | skip)
                    obtain ⟨hx60_0, hf60_0⟩ := Kd.R_celln 0 HO_5.out (x97_5 : Int) p60 q60
                    replace p60 := eq_true p60
                    replace q60 := eq_true q60
                    have HP61 := Kd.R_putg HO_5.out (x97_5 : Int) (((rd x5_5 x97_5) + 1) % 256)
                    go_wp2_with (first | ((with_reducible refine gate_store (t := 5) (p := 105) rfl ?_); refine store_event (t := 5) (p := 105) (v := ?vo_w62) (w1 := (wr.setCell ⟨go60, (x97_5 : Int).toNat, none⟩ (.int .u8 (((rd x5_5 x97_5) + 1) % 256)))) ?hg ?ho ?hn ?hr ?_; (case ho => rfl); (case hg => rfl); (case hn => rfl); (case hr => first | (go_simp; done) | (go_simp; rfl)); intro w62 hw; have hg : wr.grownBy w62 (some go60) := (by rw [hw]; exact HP61.2); have hp_ : Kd.R (Kd.int .u8) 5 w62 w.heap.size (fun k_ => some k_ ≠ (v270 : Value).ownBlock) (.slice (some ⟨go60, 0, none⟩) x5_5.length co56) y309 := (by rw [hw, Ny309.out]; exact HP61.1); clear HP61; have n0_ := Aside0.mk (Kd.R_after (v := (.slice (some ⟨go60, 0, none⟩) x5_5.length co56)) (v1 := (.slice (some ⟨go60, 0, none⟩) x5_5.length co56)) (ok := (fun _ => True)) (by (with_reducible repeat (first | apply Kd.R_alloc | apply Kd.R_drewN | apply Kd.R_drew)); exact Kd.R_mono HO_4.out (fun _ hk => ⟨trivial, hk⟩)) hg (.inl rfl)); have n1_ := Aside0.mk (hp_); have n2_ := Aside0.mk ((by rw [hw]; exact below_set (HB.out) GB60.out : Below w.heap.size w w62)); clear HO_4; clear HO_5; clear HB; have HO_4 := n0_; have HO_5 := n1_; have HB := n2_; clear n0_ n1_ n2_; clear hg hw hp_))
                    (try simp only [← hl5_5])
                    go_roundg k5
                    case measure => have := HJ8.out; have := HJ22.out; have := HJ34.out; have := HJ46.out; have := HK5.out; omega
                    case rel => exact ⟨(y309), (wrap64 (x97_5 + 1)), (by first | rfl | (simp; done) | (simp [*]; done)), H', ⟨by have := HJ8.out; have := HJ22.out; have := HJ34.out; have := HJ46.out; have := HK5.out; omega⟩, ⟨by (try simp only [hl5_5]); (with_reducible repeat (first | apply Kd.R_alloc | apply Kd.R_drewN | apply Kd.R_drew)); exact Kd.R_mono HO_4.out (fun _ hk => hk.2)⟩, ⟨by (try simp only [hl5_5]); (with_reducible repeat (first | apply Kd.R_alloc | apply Kd.R_drewN | apply Kd.R_drew)); exact HO_5.out⟩, ⟨by repeat (first | (with_reducible first | exact HB.out | apply below_alloc | apply pw_below_drewN | apply below_drew1) | exact HB.out)⟩⟩
                   ·rw [if_neg c59] at H
                    exact absurd H (by simp)
                  ·rw [if_neg c58] at H
                   exact absurd H (by simp)
                 ·rw [if_neg c57] at H
                  have c57b0 : decide (x97_5 < (t299.length : Int)) = false := decide_eq_false c57
                  (try (have c57h0_hl5_5 := c57b0; rw [hl5_5] at c57h0_hl5_5))
                  clear c57
                  have H1 : (if x9_46 = true then ((palletref02_Same.f l0 y269).bind fun t310 => (some t310)) else (some false)) = some r := by first | (rw [if_pos rfl] at H; exact H) | exact H
                  clear H
                  have H := H1
                  clear H1
                  by_cases c63 : x9_46 = true
                  ·subst c63
                   have H1 : ((palletref02_Same.f l0 y269).bind fun t310 => (some t310)) = some r := by rw [if_pos rfl] at H; exact H
                   clear H
                   have H := H1
                   clear H1
                   replace H := Option.bind_eq_some_iff.mp H
                   obtain ⟨t310, A640, H⟩ := H
                   replace H : (some t310) = some r := H
                   have A64 := Aside0.mk A640
                   clear A640
                   obtain rfl := Option.some.inj H
                   obtain ⟨Ao65, co65, eo65⟩ := Kd.R_slice HO_4.out
                   subst eo65
                   go_wp2_with (first | (go_at_call 15; (with_reducible refine (palletref02_Same.calls _ _ l0 _ _ y269 t310 _ ?side1 ?side2 ?side3 ?side4 A64.out).mono ?_); (case side1 => repeat (first | exact (Kd.C_below HR0.out HB.out) | (with_reducible refine Kd.C_alloc ?_ _) | (with_reducible refine Kd.C_drewN ?_ _) | (with_reducible refine Kd.C_drew ?_))); (case side2 => exact HC0.out); (case side3 => repeat (first | exact (Kd.R_reads' HO_4.out).2.2 | (with_reducible refine Kd.C_alloc ?_ _) | (with_reducible refine Kd.C_drewN ?_ _) | (with_reducible refine Kd.C_drew ?_))); (case side4 => exact (Kd.R_reads' HO_4.out).2.1); rintro e w' ⟨rfl, ⟨nd, rfl⟩⟩))
                   go_ret
                   exact ⟨by first | rfl | (simp [errW_none, errW_some] <;> rfl) | (simp [*, errW_none, errW_some] <;> rfl), by repeat (first | (with_reducible first | exact HB.out | apply below_alloc | apply pw_below_drewN | apply below_drew1) | exact HB.out)⟩
                  ·replace c63 := Bool.eq_false_iff.mpr c63
                   subst c63
                   have H1 : (some false) = some r := by rw [if_neg (show ¬ (false = true) by decide)] at H; exact H
                   clear H
                   have H := H1
                   clear H1
                   obtain rfl := Option.some.inj H
                   exact absurd hr_.out (by decide)
   ·rw [if_neg c6] at H
    exact absurd H (by simp)
 ·replace c3 := Bool.eq_false_iff.mpr c3
  subst c3
  have H1 : (some false) = some r := by rw [if_neg (show ¬ (false = true) by decide)] at H; exact H
  clear H
  have H := H1
  clear H1
  obtain rfl := Option.some.inj H
  exact absurd hr_.out (by decide)

end Go.Proofs.Ytjohinenaamdcaa.Print
