-- PRINTED by print.py (a twelfth state) out of the translation. Not trusted: Lean checks it.
import Derived.Test.YtnmepjpjpillcaaPrint0
import Derived.Test.YtnmepjpjpillcaaPrint2
import Derived.Test.YtnmepjpjpillcaaPrint3
import Derived.Test.YtnmepjpjpillcaaPrint5
namespace Go.Proofs.Ytnmepjpjpillcaa.Print
open Go.RowKit Go.Proofs.YtnmepjpjpillcaaW.PrintWords Go.Proofs.YtnmepjpjpillcaaW.PrintLast Go.Proofs.YtnmepjpjpillcaaW.PrintMore Go.Proofs.YtnmepjpjpillcaaX
attribute [local go_sem] str_lss str_geq max2_int min2_int max_two min_two max_three min_three max_four min_four   -- for this text's walks alone
set_option linter.unusedVariables false
set_option linter.unusedSimpArgs false

/-! ### palletlaw02_WireOrders: function 3 -/
mutual
def palletlaw02_WireOrders.j0 : Nat → Int → Int → Bool → List Int → List Int → List Int → List Int → Bool → Option (Bool)
 | 0, _, _, _, _, _, _, _, _ => none
 | k + 1, x0, x1, x5, x6, x7, x8, x10, x56 => if x56 = true then (some false) else (if x0 < x1 then (if (x6.length : Int) > (x7.length : Int) then (palletlaw02_WireOrders.j1 k x0 x1 x5 x6 x7 x8 x10 true) else (if (x6.length : Int) = (x7.length : Int) then (palletlaw02_WireOrders.j1 k x0 x1 x5 x6 x7 x8 x10 (!(Op.bytesLess ((strOfNums x6).toList) ((strOfNums x7).toList)))) else (palletlaw02_WireOrders.j1 k x0 x1 x5 x6 x7 x8 x10 false))) else (palletlaw02_WireOrders.j1 k x0 x1 x5 x6 x7 x8 x10 false))
def palletlaw02_WireOrders.j1 : Nat → Int → Int → Bool → List Int → List Int → List Int → List Int → Bool → Option (Bool)
 | 0, _, _, _, _, _, _, _, _ => none
 | k + 1, x0, x1, x5, x6, x7, x8, x10, x80 => if x80 = true then (some false) else (if x0 = x1 then (if x5 = true then (some ((decide (x0 < x1)) == (Op.bytesLess ((strOfNums x8).toList) ((strOfNums x10).toList)))) else (some false)) else (if (x6.length : Int) ≤ (x7.length : Int) then (if 0 ≤ (x6.length : Int) then ((palletref02_Same.f x6 (x7.take ((x6.length : Int) : Int).toNat)).bind fun t179 => (if t179 = true then (some false) else (if x5 = true then (some ((decide (x0 < x1)) == (Op.bytesLess ((strOfNums x8).toList) ((strOfNums x10).toList)))) else (some false)))) else (none)) else (if x5 = true then (some ((decide (x0 < x1)) == (Op.bytesLess ((strOfNums x8).toList) ((strOfNums x10).toList)))) else (some false))))
end
def palletlaw02_WireOrders.f (k : Nat) (a0 : Int) (a1 : Int) : Option (Bool) := (palletlaw02_live.f k).bind fun t154 => (if t154 = true then ((wire_Vary.f k ([] : List Int) (([a0] : List Int))).bind fun t158 => ((wire_Vary.f k ([] : List Int) (([a1] : List Int))).bind fun t164 => ((wire_Fixed.f k ([] : List Int) 8 a0).bind fun bt167 => ((wire_Fixed.f k ([] : List Int) 8 a1).bind fun bt171 => (if (t158.length : Int) = 0 then (palletlaw02_WireOrders.j0 k a0 a1 t154 t158 t164 bt167.1 bt171.1 true) else (if (t164.length : Int) = 0 then (palletlaw02_WireOrders.j0 k a0 a1 t154 t158 t164 bt167.1 bt171.1 true) else (if bt167.2 = 0 then (if bt171.2 = 0 then (if (bt167.1.length : Int) = 8 then (palletlaw02_WireOrders.j0 k a0 a1 t154 t158 t164 bt167.1 bt171.1 ((bt171.1.length : Int) != 8)) else (palletlaw02_WireOrders.j0 k a0 a1 t154 t158 t164 bt167.1 bt171.1 true)) else (palletlaw02_WireOrders.j0 k a0 a1 t154 t158 t164 bt167.1 bt171.1 true)) else (palletlaw02_WireOrders.j0 k a0 a1 t154 t158 t164 bt167.1 bt171.1 true)))))))) else (some false))
theorem palletlaw02_WireOrders.mono_l : ∀ k, (∀ y0 y1 y2 y3 y4 y5 y6 y7, LeO (palletlaw02_WireOrders.j0 k y0 y1 y2 y3 y4 y5 y6 y7) (palletlaw02_WireOrders.j0 (k + 1) y0 y1 y2 y3 y4 y5 y6 y7)) ∧ (∀ y0 y1 y2 y3 y4 y5 y6 y7, LeO (palletlaw02_WireOrders.j1 k y0 y1 y2 y3 y4 y5 y6 y7) (palletlaw02_WireOrders.j1 (k + 1) y0 y1 y2 y3 y4 y5 y6 y7))
 | 0 => ⟨fun _ _ _ _ _ _ _ _ r h => by simp [palletlaw02_WireOrders.j0] at h, fun _ _ _ _ _ _ _ _ r h => by simp [palletlaw02_WireOrders.j1] at h⟩
 | k + 1 => by
  obtain ⟨ih0, ih1⟩ := palletlaw02_WireOrders.mono_l k
  refine ⟨?_, ?_⟩
  ·intro y0 y1 y2 y3 y4 y5 y6 y7
   unfold palletlaw02_WireOrders.j0
   repeat' first
   | (with_reducible exact ih0 _ _ _ _ _ _ _ _)
   | (with_reducible exact ih1 _ _ _ _ _ _ _ _)
   | (with_reducible exact palletlaw02_live.mono _)
   | (with_reducible exact wire_Fixed.mono _ _ _ _)
   | (with_reducible exact wire_Vary.mono _ _ _)
   | (with_reducible exact LeO.refl _)
   | (with_reducible exact LeO.none _)
   | (with_reducible refine LeO.ite ?_ ?_)
   | (with_reducible refine LeO.bind ?_ (fun _ => ?_))
   | exact ih0 _ _ _ _ _ _ _ _
   | exact ih1 _ _ _ _ _ _ _ _
   | exact palletlaw02_live.mono _
   | exact wire_Fixed.mono _ _ _ _
   | exact wire_Vary.mono _ _ _
   | exact LeO.none _
   | refine LeO.ite ?_ ?_
   | refine LeO.bind ?_ (fun _ => ?_)
  ·intro y0 y1 y2 y3 y4 y5 y6 y7
   unfold palletlaw02_WireOrders.j1
   repeat' first
   | (with_reducible exact ih0 _ _ _ _ _ _ _ _)
   | (with_reducible exact ih1 _ _ _ _ _ _ _ _)
   | (with_reducible exact palletlaw02_live.mono _)
   | (with_reducible exact wire_Fixed.mono _ _ _ _)
   | (with_reducible exact wire_Vary.mono _ _ _)
   | (with_reducible exact LeO.refl _)
   | (with_reducible exact LeO.none _)
   | (with_reducible refine LeO.ite ?_ ?_)
   | (with_reducible refine LeO.bind ?_ (fun _ => ?_))
   | exact ih0 _ _ _ _ _ _ _ _
   | exact ih1 _ _ _ _ _ _ _ _
   | exact palletlaw02_live.mono _
   | exact wire_Fixed.mono _ _ _ _
   | exact wire_Vary.mono _ _ _
   | exact LeO.none _
   | refine LeO.ite ?_ ?_
   | refine LeO.bind ?_ (fun _ => ?_)
theorem palletlaw02_WireOrders.mono : ∀ a0 a1 k, LeO (palletlaw02_WireOrders.f k a0 a1) (palletlaw02_WireOrders.f (k + 1) a0 a1) := by
 intro a0 a1 k
 obtain ⟨ih0, ih1⟩ := palletlaw02_WireOrders.mono_l k
 unfold palletlaw02_WireOrders.f
 repeat' first
   | (with_reducible exact ih0 _ _ _ _ _ _ _ _)
   | (with_reducible exact ih1 _ _ _ _ _ _ _ _)
   | (with_reducible exact palletlaw02_live.mono _)
   | (with_reducible exact wire_Fixed.mono _ _ _ _)
   | (with_reducible exact wire_Vary.mono _ _ _)
   | (with_reducible exact LeO.refl _)
   | (with_reducible exact LeO.none _)
   | (with_reducible refine LeO.ite ?_ ?_)
   | (with_reducible refine LeO.bind ?_ (fun _ => ?_))
   | exact ih0 _ _ _ _ _ _ _ _
   | exact ih1 _ _ _ _ _ _ _ _
   | exact palletlaw02_live.mono _
   | exact wire_Fixed.mono _ _ _ _
   | exact wire_Vary.mono _ _ _
   | exact LeO.none _
   | refine LeO.ite ?_ ?_
   | refine LeO.bind ?_ (fun _ => ?_)
set_option maxHeartbeats 8000000 in
set_option maxRecDepth 100000 in
theorem palletlaw02_WireOrders.calls (k : Nat) (a0 : Int) (a1 : Int) (r : Bool) (w : World) (hr_ : Aside0 (r = true)) (h : palletlaw02_WireOrders.f k a0 a1 = some r) :
  Calls Try.prog 3 #[.int .u64 a0, .int .u64 a1] w fun e w' => e = .returned (.bool r) ∧ Below w.heap.size w w' := by
 have HB := Aside0.mk (Below.refl w.heap.size w)
 have H : ((palletlaw02_live.f k).bind fun t154 => (if t154 = true then ((wire_Vary.f k ([] : List Int) (([a0] : List Int))).bind fun t158 => ((wire_Vary.f k ([] : List Int) (([a1] : List Int))).bind fun t164 => ((wire_Fixed.f k ([] : List Int) 8 a0).bind fun bt167 => ((wire_Fixed.f k ([] : List Int) 8 a1).bind fun bt171 => (if (t158.length : Int) = 0 then (palletlaw02_WireOrders.j0 k a0 a1 t154 t158 t164 bt167.1 bt171.1 true) else (if (t164.length : Int) = 0 then (palletlaw02_WireOrders.j0 k a0 a1 t154 t158 t164 bt167.1 bt171.1 true) else (if bt167.2 = 0 then (if bt171.2 = 0 then (if (bt167.1.length : Int) = 8 then (palletlaw02_WireOrders.j0 k a0 a1 t154 t158 t164 bt167.1 bt171.1 ((bt171.1.length : Int) != 8)) else (palletlaw02_WireOrders.j0 k a0 a1 t154 t158 t164 bt167.1 bt171.1 true)) else (palletlaw02_WireOrders.j0 k a0 a1 t154 t158 t164 bt167.1 bt171.1 true)) else (palletlaw02_WireOrders.j0 k a0 a1 t154 t158 t164 bt167.1 bt171.1 true)))))))) else (some false))) = some r := h
 clear h
 replace H := Option.bind_eq_some_iff.mp H
 obtain ⟨t154, A30, H⟩ := H
 replace H : (if t154 = true then ((wire_Vary.f k ([] : List Int) (([a0] : List Int))).bind fun t158 => ((wire_Vary.f k ([] : List Int) (([a1] : List Int))).bind fun t164 => ((wire_Fixed.f k ([] : List Int) 8 a0).bind fun bt167 => ((wire_Fixed.f k ([] : List Int) 8 a1).bind fun bt171 => (if (t158.length : Int) = 0 then (palletlaw02_WireOrders.j0 k a0 a1 t154 t158 t164 bt167.1 bt171.1 true) else (if (t164.length : Int) = 0 then (palletlaw02_WireOrders.j0 k a0 a1 t154 t158 t164 bt167.1 bt171.1 true) else (if bt167.2 = 0 then (if bt171.2 = 0 then (if (bt167.1.length : Int) = 8 then (palletlaw02_WireOrders.j0 k a0 a1 t154 t158 t164 bt167.1 bt171.1 ((bt171.1.length : Int) != 8)) else (palletlaw02_WireOrders.j0 k a0 a1 t154 t158 t164 bt167.1 bt171.1 true)) else (palletlaw02_WireOrders.j0 k a0 a1 t154 t158 t164 bt167.1 bt171.1 true)) else (palletlaw02_WireOrders.j0 k a0 a1 t154 t158 t164 bt167.1 bt171.1 true)))))))) else (some false)) = some r := H
 have A3 := Aside0.mk A30
 clear A30
 by_cases c4 : t154 = true
 ·subst c4
  have H1 : ((wire_Vary.f k ([] : List Int) (([a0] : List Int))).bind fun t158 => ((wire_Vary.f k ([] : List Int) (([a1] : List Int))).bind fun t164 => ((wire_Fixed.f k ([] : List Int) 8 a0).bind fun bt167 => ((wire_Fixed.f k ([] : List Int) 8 a1).bind fun bt171 => (if (t158.length : Int) = 0 then (palletlaw02_WireOrders.j0 k a0 a1 true t158 t164 bt167.1 bt171.1 true) else (if (t164.length : Int) = 0 then (palletlaw02_WireOrders.j0 k a0 a1 true t158 t164 bt167.1 bt171.1 true) else (if bt167.2 = 0 then (if bt171.2 = 0 then (if (bt167.1.length : Int) = 8 then (palletlaw02_WireOrders.j0 k a0 a1 true t158 t164 bt167.1 bt171.1 ((bt171.1.length : Int) != 8)) else (palletlaw02_WireOrders.j0 k a0 a1 true t158 t164 bt167.1 bt171.1 true)) else (palletlaw02_WireOrders.j0 k a0 a1 true t158 t164 bt167.1 bt171.1 true)) else (palletlaw02_WireOrders.j0 k a0 a1 true t158 t164 bt167.1 bt171.1 true)))))))) = some r := by rw [if_pos rfl] at H; exact H
  clear H
  have H := H1
  clear H1
  obtain ⟨y155, hy155⟩ : ∃ y_ : List Int, y_ = (([a0] : List Int)) := ⟨_, rfl⟩
  replace H : ((wire_Vary.f k ([] : List Int) y155).bind fun t158 => ((wire_Vary.f k ([] : List Int) (([a1] : List Int))).bind fun t164 => ((wire_Fixed.f k ([] : List Int) 8 a0).bind fun bt167 => ((wire_Fixed.f k ([] : List Int) 8 a1).bind fun bt171 => (if (t158.length : Int) = 0 then (palletlaw02_WireOrders.j0 k a0 a1 true t158 t164 bt167.1 bt171.1 true) else (if (t164.length : Int) = 0 then (palletlaw02_WireOrders.j0 k a0 a1 true t158 t164 bt167.1 bt171.1 true) else (if bt167.2 = 0 then (if bt171.2 = 0 then (if (bt167.1.length : Int) = 8 then (palletlaw02_WireOrders.j0 k a0 a1 true t158 t164 bt167.1 bt171.1 ((bt171.1.length : Int) != 8)) else (palletlaw02_WireOrders.j0 k a0 a1 true t158 t164 bt167.1 bt171.1 true)) else (palletlaw02_WireOrders.j0 k a0 a1 true t158 t164 bt167.1 bt171.1 true)) else (palletlaw02_WireOrders.j0 k a0 a1 true t158 t164 bt167.1 bt171.1 true)))))))) = some r := by first | (rw [hy155]; with_reducible exact H) | (have H2_ := (Option.bind_some _ _).symm.trans H; rw [hy155]; with_reducible exact H2_) | (have H2_ := (Option.bind_some _ _).symm.trans H; with_reducible exact H2_) | with_reducible exact H | (rw [hy155]; exact H) | exact H
  have Ny155 := Aside0.mk hy155
  clear hy155
  replace H := Option.bind_eq_some_iff.mp H
  obtain ⟨t158, A50, H⟩ := H
  replace H : ((wire_Vary.f k ([] : List Int) (([a1] : List Int))).bind fun t164 => ((wire_Fixed.f k ([] : List Int) 8 a0).bind fun bt167 => ((wire_Fixed.f k ([] : List Int) 8 a1).bind fun bt171 => (if (t158.length : Int) = 0 then (palletlaw02_WireOrders.j0 k a0 a1 true t158 t164 bt167.1 bt171.1 true) else (if (t164.length : Int) = 0 then (palletlaw02_WireOrders.j0 k a0 a1 true t158 t164 bt167.1 bt171.1 true) else (if bt167.2 = 0 then (if bt171.2 = 0 then (if (bt167.1.length : Int) = 8 then (palletlaw02_WireOrders.j0 k a0 a1 true t158 t164 bt167.1 bt171.1 ((bt171.1.length : Int) != 8)) else (palletlaw02_WireOrders.j0 k a0 a1 true t158 t164 bt167.1 bt171.1 true)) else (palletlaw02_WireOrders.j0 k a0 a1 true t158 t164 bt167.1 bt171.1 true)) else (palletlaw02_WireOrders.j0 k a0 a1 true t158 t164 bt167.1 bt171.1 true))))))) = some r := H
  have A5 := Aside0.mk A50
  clear A50
  obtain ⟨y161, hy161⟩ : ∃ y_ : List Int, y_ = (([a1] : List Int)) := ⟨_, rfl⟩
  replace H : ((wire_Vary.f k ([] : List Int) y161).bind fun t164 => ((wire_Fixed.f k ([] : List Int) 8 a0).bind fun bt167 => ((wire_Fixed.f k ([] : List Int) 8 a1).bind fun bt171 => (if (t158.length : Int) = 0 then (palletlaw02_WireOrders.j0 k a0 a1 true t158 t164 bt167.1 bt171.1 true) else (if (t164.length : Int) = 0 then (palletlaw02_WireOrders.j0 k a0 a1 true t158 t164 bt167.1 bt171.1 true) else (if bt167.2 = 0 then (if bt171.2 = 0 then (if (bt167.1.length : Int) = 8 then (palletlaw02_WireOrders.j0 k a0 a1 true t158 t164 bt167.1 bt171.1 ((bt171.1.length : Int) != 8)) else (palletlaw02_WireOrders.j0 k a0 a1 true t158 t164 bt167.1 bt171.1 true)) else (palletlaw02_WireOrders.j0 k a0 a1 true t158 t164 bt167.1 bt171.1 true)) else (palletlaw02_WireOrders.j0 k a0 a1 true t158 t164 bt167.1 bt171.1 true))))))) = some r := by first | (rw [hy161]; with_reducible exact H) | (have H2_ := (Option.bind_some _ _).symm.trans H; rw [hy161]; with_reducible exact H2_) | (have H2_ := (Option.bind_some _ _).symm.trans H; with_reducible exact H2_) | with_reducible exact H | (rw [hy161]; exact H) | exact H
  have Ny161 := Aside0.mk hy161
  clear hy161
  replace H := Option.bind_eq_some_iff.mp H
  obtain ⟨t164, A60, H⟩ := H
  replace H : ((wire_Fixed.f k ([] : List Int) 8 a0).bind fun bt167 => ((wire_Fixed.f k ([] : List Int) 8 a1).bind fun bt171 => (if (t158.length : Int) = 0 then (palletlaw02_WireOrders.j0 k a0 a1 true t158 t164 bt167.1 bt171.1 true) else (if (t164.length : Int) = 0 then (palletlaw02_WireOrders.j0 k a0 a1 true t158 t164 bt167.1 bt171.1 true) else (if bt167.2 = 0 then (if bt171.2 = 0 then (if (bt167.1.length : Int) = 8 then (palletlaw02_WireOrders.j0 k a0 a1 true t158 t164 bt167.1 bt171.1 ((bt171.1.length : Int) != 8)) else (palletlaw02_WireOrders.j0 k a0 a1 true t158 t164 bt167.1 bt171.1 true)) else (palletlaw02_WireOrders.j0 k a0 a1 true t158 t164 bt167.1 bt171.1 true)) else (palletlaw02_WireOrders.j0 k a0 a1 true t158 t164 bt167.1 bt171.1 true)))))) = some r := H
  have A6 := Aside0.mk A60
  clear A60
  replace H := Option.bind_eq_some_iff.mp H
  obtain ⟨⟨t167, t168⟩, A70, H⟩ := H
  replace H : ((wire_Fixed.f k ([] : List Int) 8 a1).bind fun bt171 => (if (t158.length : Int) = 0 then (palletlaw02_WireOrders.j0 k a0 a1 true t158 t164 t167 bt171.1 true) else (if (t164.length : Int) = 0 then (palletlaw02_WireOrders.j0 k a0 a1 true t158 t164 t167 bt171.1 true) else (if t168 = 0 then (if bt171.2 = 0 then (if (t167.length : Int) = 8 then (palletlaw02_WireOrders.j0 k a0 a1 true t158 t164 t167 bt171.1 ((bt171.1.length : Int) != 8)) else (palletlaw02_WireOrders.j0 k a0 a1 true t158 t164 t167 bt171.1 true)) else (palletlaw02_WireOrders.j0 k a0 a1 true t158 t164 t167 bt171.1 true)) else (palletlaw02_WireOrders.j0 k a0 a1 true t158 t164 t167 bt171.1 true))))) = some r := H
  have A7 := Aside0.mk A70
  clear A70
  replace H := Option.bind_eq_some_iff.mp H
  obtain ⟨⟨t171, t172⟩, A80, H⟩ := H
  replace H : (if (t158.length : Int) = 0 then (palletlaw02_WireOrders.j0 k a0 a1 true t158 t164 t167 t171 true) else (if (t164.length : Int) = 0 then (palletlaw02_WireOrders.j0 k a0 a1 true t158 t164 t167 t171 true) else (if t168 = 0 then (if t172 = 0 then (if (t167.length : Int) = 8 then (palletlaw02_WireOrders.j0 k a0 a1 true t158 t164 t167 t171 ((t171.length : Int) != 8)) else (palletlaw02_WireOrders.j0 k a0 a1 true t158 t164 t167 t171 true)) else (palletlaw02_WireOrders.j0 k a0 a1 true t158 t164 t167 t171 true)) else (palletlaw02_WireOrders.j0 k a0 a1 true t158 t164 t167 t171 true)))) = some r := H
  have A8 := Aside0.mk A80
  clear A80
  have HC9 := Aside0.mk H
  clear H
  go_enter Try.func3, Try.ntmps3
  go_upto_region 8 with (first | ((with_reducible refine gate_callee (f := 8) rfl ?_); refine goesL_ (some 12) rfl rfl Try.func8 (by kernel_rfl) rfl #[] rfl (by (try simp only [List.map_toArray, List.map_cons, List.map_nil]); first | done | rfl | (simp only [List.length_drop, List.length_take]; rfl)) ?_; (with_reducible refine (palletlaw02_live.calls k  true _ A3.out).mono ?_); rintro e w10 ⟨rfl, hb⟩; refine ⟨_, rfl, ?_⟩; have n0_ := Aside0.mk (below_step (by repeat (first | (with_reducible first | exact HB.out | apply below_alloc | apply pw_below_drewN | apply below_drew1) | exact HB.out)) hb); clear HB; have HB := n0_; clear n0_; (try clear hb); (try clear hb2); (try clear hk); (try clear hi)) | ((with_reducible refine gate_dst (N := 16) rfl ?_); (try (refine gate_guard (by rfl) ?_; dsimp only)); refine Kd.R_lit (Kd.int .u64) _ 22 ?hg (N := 16) ?hd (xs := ([a0] : List Int)) (inner := [.int .u64 a0]) (ok := fun _ => True) (okp := fun _ => True) ?hr ?hp (fun _ hk => hk) trivial (Below.refl _ _) (Nat.le_refl _) (by simp) ?_; (case hd => rfl); (case hg => rfl); (case hr => first | (go_simp; done) | (go_simp; rfl)); (case hp => exact (Reps.one (show Kd.M (Kd.int .u64) _ _ _ a0 [.int .u64 a0] from rfl) (Reps.none _ _))); intro v156 w11 ho12 hb hg_ hnew_; clear hg_ hnew_; (first | rw [← Ny155.out] at ho12 | (simp only [Int.reduceToNat] at ho12; rw [← Ny155.out] at ho12)); have n0_ := Aside0.mk (Kd.R_lower ho12 (below_size (by repeat (first | (with_reducible first | exact HB.out | apply below_alloc | apply pw_below_drewN | apply below_drew1) | exact HB.out)))); have n1_ := Aside0.mk (below_step (by repeat (first | (with_reducible first | exact HB.out | apply below_alloc | apply pw_below_drewN | apply below_drew1) | exact HB.out)) hb); clear HB; have HO157 := n0_; have HB := n1_; clear n0_ n1_; clear hb ho12; obtain ⟨Ao13, co13, eo13⟩ := Kd.R_slice HO157.out; subst eo13) | ((with_reducible refine gate_callee (f := 9) rfl ?_); refine goesL_ (some 17) rfl rfl Try.func9 (by kernel_rfl) rfl #[.slice none 0 0, .slice Ao13 y155.length co13] rfl (by (try simp only [List.map_toArray, List.map_cons, List.map_nil]); first | done | rfl | (simp only [List.length_drop, List.length_take]; rfl)) ?_; (refine (wire_Vary.calls k _ _ ([] : List Int) _ _ y155 t158 _ ?side1 ?side2 ?side3 ?side4 A5.out).mono ?_); (case side1 => exact Kd.C_nil _ _); (case side2 => exact Nat.le_refl _); (case side3 => repeat (first | exact (Kd.R_reads' HO157.out).2.2 | (with_reducible refine Kd.C_alloc ?_ _) | (with_reducible refine Kd.C_drewN ?_ _) | (with_reducible refine Kd.C_drew ?_))); (case side4 => exact (Kd.R_reads' HO157.out).2.1); rintro e w14 ⟨v159, rfl, ho0, hb⟩; refine ⟨_, rfl, ?_⟩; have n0_ := Aside0.mk (Kd.R_below (by (with_reducible repeat (first | apply Kd.R_alloc | apply Kd.R_drewN | apply Kd.R_drew)); exact HO157.out) hb); have n1_ := Aside0.mk (Kd.R_lower ho0 (below_size (by repeat (first | (with_reducible first | exact HB.out | apply below_alloc | apply pw_below_drewN | apply below_drew1) | exact HB.out)))); have n2_ := Aside0.mk (below_step (by repeat (first | (with_reducible first | exact HB.out | apply below_alloc | apply pw_below_drewN | apply below_drew1) | exact HB.out)) hb); clear HO157; clear HB; have HO157 := n0_; have HO160 := n1_; have HB := n2_; clear n0_ n1_ n2_; (try clear hb); (try clear hb2); (try clear hk); (try clear hi); (try clear ho0)) | ((with_reducible refine gate_dst (N := 19) rfl ?_); (try (refine gate_guard (by rfl) ?_; dsimp only)); refine Kd.R_lit (Kd.int .u64) _ 22 ?hg (N := 19) ?hd (xs := ([a1] : List Int)) (inner := [.int .u64 a1]) (ok := fun _ => True) (okp := fun _ => True) ?hr ?hp (fun _ hk => hk) trivial (Below.refl _ _) (Nat.le_refl _) (by simp) ?_; (case hd => rfl); (case hg => rfl); (case hr => first | (go_simp; done) | (go_simp; rfl)); (case hp => exact (Reps.one (show Kd.M (Kd.int .u64) _ _ _ a1 [.int .u64 a1] from rfl) (Reps.none _ _))); intro v162 w15 ho16 hb hg_ hnew_; clear hg_ hnew_; (first | rw [← Ny161.out] at ho16 | (simp only [Int.reduceToNat] at ho16; rw [← Ny161.out] at ho16)); have n0_ := Aside0.mk (Kd.R_elder' (by (with_reducible repeat (first | apply Kd.R_alloc | apply Kd.R_drewN | apply Kd.R_drew)); exact HO157.out) (Kd.R_base ho16) hb); have n1_ := Aside0.mk (Kd.R_below (by (with_reducible repeat (first | apply Kd.R_alloc | apply Kd.R_drewN | apply Kd.R_drew)); exact HO160.out) hb); have n2_ := Aside0.mk (Kd.R_lower (Kd.R_new' ho16 (Kd.R_lt (by (with_reducible repeat (first | apply Kd.R_alloc | apply Kd.R_drewN | apply Kd.R_drew)); exact HO157.out))) (below_size (by repeat (first | (with_reducible first | exact HB.out | apply below_alloc | apply pw_below_drewN | apply below_drew1) | exact HB.out)))); have n3_ := Aside0.mk (below_step (by repeat (first | (with_reducible first | exact HB.out | apply below_alloc | apply pw_below_drewN | apply below_drew1) | exact HB.out)) hb); clear HO157; clear HO160; clear HB; have HO157 := n0_; have HO160 := n1_; have HO163 := n2_; have HB := n3_; clear n0_ n1_ n2_ n3_; clear hb ho16; obtain ⟨Ao17, co17, eo17⟩ := Kd.R_slice HO163.out; subst eo17) | ((with_reducible refine gate_callee (f := 9) rfl ?_); refine goesL_ (some 20) rfl rfl Try.func9 (by kernel_rfl) rfl #[.slice none 0 0, .slice Ao17 y161.length co17] rfl (by (try simp only [List.map_toArray, List.map_cons, List.map_nil]); first | done | rfl | (simp only [List.length_drop, List.length_take]; rfl)) ?_; (refine (wire_Vary.calls k _ _ ([] : List Int) _ _ y161 t164 _ ?side1 ?side2 ?side3 ?side4 A6.out).mono ?_); (case side1 => exact Kd.C_nil _ _); (case side2 => exact Nat.le_refl _); (case side3 => repeat (first | exact (Kd.R_reads' HO163.out).2.2 | (with_reducible refine Kd.C_alloc ?_ _) | (with_reducible refine Kd.C_drewN ?_ _) | (with_reducible refine Kd.C_drew ?_))); (case side4 => exact (Kd.R_reads' HO163.out).2.1); rintro e w18 ⟨v165, rfl, ho0, hb⟩; refine ⟨_, rfl, ?_⟩; have n0_ := Aside0.mk (Kd.R_below (by (with_reducible repeat (first | apply Kd.R_alloc | apply Kd.R_drewN | apply Kd.R_drew)); exact HO157.out) hb); have n1_ := Aside0.mk (Kd.R_elder' (by (with_reducible repeat (first | apply Kd.R_alloc | apply Kd.R_drewN | apply Kd.R_drew)); exact HO160.out) (Kd.R_base ho0) hb); have n2_ := Aside0.mk (Kd.R_below (by (with_reducible repeat (first | apply Kd.R_alloc | apply Kd.R_drewN | apply Kd.R_drew)); exact HO163.out) hb); have n3_ := Aside0.mk (Kd.R_lower (Kd.R_new' ho0 (Kd.R_lt (by (with_reducible repeat (first | apply Kd.R_alloc | apply Kd.R_drewN | apply Kd.R_drew)); exact HO160.out))) (below_size (by repeat (first | (with_reducible first | exact HB.out | apply below_alloc | apply pw_below_drewN | apply below_drew1) | exact HB.out)))); have n4_ := Aside0.mk (below_step (by repeat (first | (with_reducible first | exact HB.out | apply below_alloc | apply pw_below_drewN | apply below_drew1) | exact HB.out)) hb); clear HO157; clear HO160; clear HO163; clear HB; have HO157 := n0_; have HO160 := n1_; have HO163 := n2_; have HO166 := n3_; have HB := n4_; clear n0_ n1_ n2_ n3_ n4_; (try clear hb); (try clear hb2); (try clear hk); (try clear hi); (try clear ho0)) | ((with_reducible refine gate_callee (f := 10) rfl ?_); refine goesL_ (some 23) rfl rfl Try.func10 (by kernel_rfl) rfl #[.slice none 0 0, .int .i64 8, .int .u64 a0] rfl (by (try simp only [List.map_toArray, List.map_cons, List.map_nil]); first | done | rfl | (simp only [List.length_drop, List.length_take]; rfl)) ?_; (refine (wire_Fixed.calls k _ _ ([] : List Int) 8 a0 t167 t168 _ ?side1 ?side2 A7.out).mono ?_); (case side1 => exact Kd.C_nil _ _); (case side2 => exact Nat.le_refl _); rintro e w19 ⟨v169, rfl, ho0, hb⟩; refine ⟨_, rfl, ?_⟩; have n0_ := Aside0.mk (Kd.R_below (by (with_reducible repeat (first | apply Kd.R_alloc | apply Kd.R_drewN | apply Kd.R_drew)); exact HO157.out) hb); have n1_ := Aside0.mk (Kd.R_elder' (by (with_reducible repeat (first | apply Kd.R_alloc | apply Kd.R_drewN | apply Kd.R_drew)); exact HO160.out) (Kd.R_base ho0) hb); have n2_ := Aside0.mk (Kd.R_below (by (with_reducible repeat (first | apply Kd.R_alloc | apply Kd.R_drewN | apply Kd.R_drew)); exact HO163.out) hb); have n3_ := Aside0.mk (Kd.R_elder' (by (with_reducible repeat (first | apply Kd.R_alloc | apply Kd.R_drewN | apply Kd.R_drew)); exact HO166.out) (Kd.R_base ho0) hb); have n4_ := Aside0.mk (Kd.R_lower (Kd.R_new' (Kd.R_new' ho0 (Kd.R_lt (by (with_reducible repeat (first | apply Kd.R_alloc | apply Kd.R_drewN | apply Kd.R_drew)); exact HO160.out))) (Kd.R_lt (by (with_reducible repeat (first | apply Kd.R_alloc | apply Kd.R_drewN | apply Kd.R_drew)); exact HO166.out))) (below_size (by repeat (first | (with_reducible first | exact HB.out | apply below_alloc | apply pw_below_drewN | apply below_drew1) | exact HB.out)))); have n5_ := Aside0.mk (below_step (by repeat (first | (with_reducible first | exact HB.out | apply below_alloc | apply pw_below_drewN | apply below_drew1) | exact HB.out)) hb); clear HO157; clear HO160; clear HO163; clear HO166; clear HB; have HO157 := n0_; have HO160 := n1_; have HO163 := n2_; have HO166 := n3_; have HO170 := n4_; have HB := n5_; clear n0_ n1_ n2_ n3_ n4_ n5_; (try clear hb); (try clear hb2); (try clear hk); (try clear hi); (try clear ho0)) | ((with_reducible refine gate_callee (f := 10) rfl ?_); refine goesL_ (some 28) rfl rfl Try.func10 (by kernel_rfl) rfl #[.slice none 0 0, .int .i64 8, .int .u64 a1] rfl (by (try simp only [List.map_toArray, List.map_cons, List.map_nil]); first | done | rfl | (simp only [List.length_drop, List.length_take]; rfl)) ?_; (refine (wire_Fixed.calls k _ _ ([] : List Int) 8 a1 t171 t172 _ ?side1 ?side2 A8.out).mono ?_); (case side1 => exact Kd.C_nil _ _); (case side2 => exact Nat.le_refl _); rintro e w20 ⟨v173, rfl, ho0, hb⟩; refine ⟨_, rfl, ?_⟩; have n0_ := Aside0.mk (Kd.R_below (by (with_reducible repeat (first | apply Kd.R_alloc | apply Kd.R_drewN | apply Kd.R_drew)); exact HO157.out) hb); have n1_ := Aside0.mk (Kd.R_elder' (by (with_reducible repeat (first | apply Kd.R_alloc | apply Kd.R_drewN | apply Kd.R_drew)); exact HO160.out) (Kd.R_base ho0) hb); have n2_ := Aside0.mk (Kd.R_below (by (with_reducible repeat (first | apply Kd.R_alloc | apply Kd.R_drewN | apply Kd.R_drew)); exact HO163.out) hb); have n3_ := Aside0.mk (Kd.R_elder' (by (with_reducible repeat (first | apply Kd.R_alloc | apply Kd.R_drewN | apply Kd.R_drew)); exact HO166.out) (Kd.R_base ho0) hb); have n4_ := Aside0.mk (Kd.R_elder' (by (with_reducible repeat (first | apply Kd.R_alloc | apply Kd.R_drewN | apply Kd.R_drew)); exact HO170.out) (Kd.R_base ho0) hb); have n5_ := Aside0.mk (Kd.R_lower (Kd.R_new' (Kd.R_new' (Kd.R_new' ho0 (Kd.R_lt (by (with_reducible repeat (first | apply Kd.R_alloc | apply Kd.R_drewN | apply Kd.R_drew)); exact HO160.out))) (Kd.R_lt (by (with_reducible repeat (first | apply Kd.R_alloc | apply Kd.R_drewN | apply Kd.R_drew)); exact HO166.out))) (Kd.R_lt (by (with_reducible repeat (first | apply Kd.R_alloc | apply Kd.R_drewN | apply Kd.R_drew)); exact HO170.out))) (below_size (by repeat (first | (with_reducible first | exact HB.out | apply below_alloc | apply pw_below_drewN | apply below_drew1) | exact HB.out)))); have n6_ := Aside0.mk (below_step (by repeat (first | (with_reducible first | exact HB.out | apply below_alloc | apply pw_below_drewN | apply below_drew1) | exact HB.out)) hb); clear HO157; clear HO160; clear HO163; clear HO166; clear HO170; clear HB; have HO157 := n0_; have HO160 := n1_; have HO163 := n2_; have HO166 := n3_; have HO170 := n4_; have HO174 := n5_; have HB := n6_; clear n0_ n1_ n2_ n3_ n4_ n5_ n6_; (try clear hb); (try clear hb2); (try clear hk); (try clear hi); (try clear ho0)))
  (try simp only [Act.put, List.setIfInBounds_toArray, List.set_cons_zero, List.set_cons_succ])
  go_cut [56] (fun v56 wc => ∃ (kq : Nat) (x56_8 : Bool), v56 = .bool x56_8 ∧ Aside0 (palletlaw02_WireOrders.j0 kq a0 a1 true t158 t164 t167 t171 x56_8 = some r) ∧ Aside0 (kq ≤ k) ∧ Aside0 (Kd.R (Kd.int .u8) 5 wc w.heap.size (fun k_ => some k_ ≠ (v165 : Value).ownBlock ∧ some k_ ≠ (v169 : Value).ownBlock ∧ some k_ ≠ (v173 : Value).ownBlock) v159 t158) ∧ Aside0 (Kd.R (Kd.int .u8) 5 wc w.heap.size (fun k_ => some k_ ≠ (v159 : Value).ownBlock ∧ some k_ ≠ (v169 : Value).ownBlock ∧ some k_ ≠ (v173 : Value).ownBlock) v165 t164) ∧ Aside0 (Kd.R (Kd.int .u8) 5 wc w.heap.size (fun k_ => some k_ ≠ (v159 : Value).ownBlock ∧ some k_ ≠ (v165 : Value).ownBlock ∧ some k_ ≠ (v173 : Value).ownBlock) v169 t167) ∧ Aside0 (Kd.R (Kd.int .u8) 5 wc w.heap.size (fun k_ => some k_ ≠ (v159 : Value).ownBlock ∧ some k_ ≠ (v165 : Value).ownBlock ∧ some k_ ≠ (v169 : Value).ownBlock) v173 t171) ∧ Aside0 (Below w.heap.size w wc))
  case first =>
   have H := HC9.out
   clear HC9
   by_cases c21 : (t158.length : Int) = 0
   ·rw [if_pos c21] at H
    have c21b0 : ((t158.length : Int) == 0) = true := beq_iff_eq.mpr c21
    have c21b1 : ((t158.length : Int) != 0) = false := bne_eq_false_iff_eq.mpr c21
    clear c21
    (first | rw [c21b0] | (simp only [i64_w, i32_w]; rw [c21b0]) | skip)
    have H' := Aside0.mk H
    clear H
    obtain ⟨Ao22, co22, eo22⟩ := Kd.R_slice HO160.out
    subst eo22
    go_wp2
    go_meet
    case rel => exact ⟨_, (true), (by first | rfl | (simp; done) | (simp [*]; done)), H', ⟨by first | omega | exact Nat.le_refl _⟩, ⟨by (with_reducible repeat (first | apply Kd.R_alloc | apply Kd.R_drewN | apply Kd.R_drew)); exact Kd.R_mono HO160.out (fun _ hk => ⟨hk.1.1.2, ⟨hk.1.2, hk.2⟩⟩)⟩, ⟨by (with_reducible repeat (first | apply Kd.R_alloc | apply Kd.R_drewN | apply Kd.R_drew)); exact Kd.R_mono HO166.out (fun _ hk => ⟨hk.1.1.2, ⟨hk.1.2, hk.2⟩⟩)⟩, ⟨by (with_reducible repeat (first | apply Kd.R_alloc | apply Kd.R_drewN | apply Kd.R_drew)); exact Kd.R_mono HO170.out (fun _ hk => ⟨hk.1.1.2, ⟨hk.1.2, hk.2⟩⟩)⟩, ⟨by (with_reducible repeat (first | apply Kd.R_alloc | apply Kd.R_drewN | apply Kd.R_drew)); exact Kd.R_mono HO174.out (fun _ hk => ⟨hk.1.1.2, ⟨hk.1.2, hk.2⟩⟩)⟩, ⟨by repeat (first | (with_reducible first | exact HB.out | apply below_alloc | apply pw_below_drewN | apply below_drew1) | exact HB.out)⟩⟩
   ·rw [if_neg c21] at H
    have c21b0 : ((t158.length : Int) == 0) = false := beq_eq_false_iff_ne.mpr c21
    have c21b1 : ((t158.length : Int) != 0) = true := bne_iff_ne.mpr c21
    have c21b2 : ¬ (t158 = []) := fun h_ => c21 (by rw [h_]; rfl)
    (first | rw [c21b0] | (simp only [i64_w, i32_w]; rw [c21b0]) | skip)
    by_cases c23 : (t164.length : Int) = 0
    ·rw [if_pos c23] at H
     have c23b0 : ((t164.length : Int) == 0) = true := beq_iff_eq.mpr c23
     have c23b1 : ((t164.length : Int) != 0) = false := bne_eq_false_iff_eq.mpr c23
     clear c23
     have H' := Aside0.mk H
     clear H
     obtain ⟨Ao24, co24, eo24⟩ := Kd.R_slice HO160.out
     subst eo24
     obtain ⟨Ao25, co25, eo25⟩ := Kd.R_slice HO166.out
     subst eo25
     go_wp2
     go_meet
     case rel => exact ⟨_, (true), (by first | rfl | (simp; done) | (simp [*]; done)), H', ⟨by first | omega | exact Nat.le_refl _⟩, ⟨by (with_reducible repeat (first | apply Kd.R_alloc | apply Kd.R_drewN | apply Kd.R_drew)); exact Kd.R_mono HO160.out (fun _ hk => ⟨hk.1.1.2, ⟨hk.1.2, hk.2⟩⟩)⟩, ⟨by (with_reducible repeat (first | apply Kd.R_alloc | apply Kd.R_drewN | apply Kd.R_drew)); exact Kd.R_mono HO166.out (fun _ hk => ⟨hk.1.1.2, ⟨hk.1.2, hk.2⟩⟩)⟩, ⟨by (with_reducible repeat (first | apply Kd.R_alloc | apply Kd.R_drewN | apply Kd.R_drew)); exact Kd.R_mono HO170.out (fun _ hk => ⟨hk.1.1.2, ⟨hk.1.2, hk.2⟩⟩)⟩, ⟨by (with_reducible repeat (first | apply Kd.R_alloc | apply Kd.R_drewN | apply Kd.R_drew)); exact Kd.R_mono HO174.out (fun _ hk => ⟨hk.1.1.2, ⟨hk.1.2, hk.2⟩⟩)⟩, ⟨by repeat (first | (with_reducible first | exact HB.out | apply below_alloc | apply pw_below_drewN | apply below_drew1) | exact HB.out)⟩⟩
    ·rw [if_neg c23] at H
     have c23b0 : ((t164.length : Int) == 0) = false := beq_eq_false_iff_ne.mpr c23
     have c23b1 : ((t164.length : Int) != 0) = true := bne_iff_ne.mpr c23
     have c23b2 : ¬ (t164 = []) := fun h_ => c23 (by rw [h_]; rfl)
     by_cases c26 : t168 = 0
     ·rw [if_pos c26] at H
      have c26b0 : (t168 == 0) = true := beq_iff_eq.mpr c26
      have c26b1 : (t168 != 0) = false := bne_eq_false_iff_eq.mpr c26
      clear c26
      by_cases c27 : t172 = 0
      ·rw [if_pos c27] at H
       have c27b0 : (t172 == 0) = true := beq_iff_eq.mpr c27
       have c27b1 : (t172 != 0) = false := bne_eq_false_iff_eq.mpr c27
       clear c27
       by_cases c28 : (t167.length : Int) = 8
       ·rw [if_pos c28] at H
        have c28b0 : ((t167.length : Int) == 8) = true := beq_iff_eq.mpr c28
        have c28b1 : ((t167.length : Int) != 8) = false := bne_eq_false_iff_eq.mpr c28
        clear c28
        have H' := Aside0.mk H
        clear H
        obtain ⟨Ao29, co29, eo29⟩ := Kd.R_slice HO160.out
        subst eo29
        obtain ⟨Ao30, co30, eo30⟩ := Kd.R_slice HO166.out
        subst eo30
        obtain ⟨Ao31, co31, eo31⟩ := Kd.R_slice HO170.out
        subst eo31
        obtain ⟨Ao32, co32, eo32⟩ := Kd.R_slice HO174.out
        subst eo32
        go_wp2
        go_meet
        case rel => exact ⟨_, (((t171.length : Int) != 8)), (by first | rfl | (simp; done) | (simp [*]; done)), H', ⟨by first | omega | exact Nat.le_refl _⟩, ⟨by (with_reducible repeat (first | apply Kd.R_alloc | apply Kd.R_drewN | apply Kd.R_drew)); exact Kd.R_mono HO160.out (fun _ hk => ⟨hk.1.1.2, ⟨hk.1.2, hk.2⟩⟩)⟩, ⟨by (with_reducible repeat (first | apply Kd.R_alloc | apply Kd.R_drewN | apply Kd.R_drew)); exact Kd.R_mono HO166.out (fun _ hk => ⟨hk.1.1.2, ⟨hk.1.2, hk.2⟩⟩)⟩, ⟨by (with_reducible repeat (first | apply Kd.R_alloc | apply Kd.R_drewN | apply Kd.R_drew)); exact Kd.R_mono HO170.out (fun _ hk => ⟨hk.1.1.2, ⟨hk.1.2, hk.2⟩⟩)⟩, ⟨by (with_reducible repeat (first | apply Kd.R_alloc | apply Kd.R_drewN | apply Kd.R_drew)); exact Kd.R_mono HO174.out (fun _ hk => ⟨hk.1.1.2, ⟨hk.1.2, hk.2⟩⟩)⟩, ⟨by repeat (first | (with_reducible first | exact HB.out | apply below_alloc | apply pw_below_drewN | apply below_drew1) | exact HB.out)⟩⟩
       ·rw [if_neg c28] at H
        have c28b0 : ((t167.length : Int) == 8) = false := beq_eq_false_iff_ne.mpr c28
        have c28b1 : ((t167.length : Int) != 8) = true := bne_iff_ne.mpr c28
        have H' := Aside0.mk H
        clear H
        obtain ⟨Ao33, co33, eo33⟩ := Kd.R_slice HO160.out
        subst eo33
        obtain ⟨Ao34, co34, eo34⟩ := Kd.R_slice HO166.out
        subst eo34
        obtain ⟨Ao35, co35, eo35⟩ := Kd.R_slice HO170.out
        subst eo35
        go_wp2
        go_meet
        case rel => exact ⟨_, (true), (by first | rfl | (simp; done) | (simp [*]; done)), H', ⟨by first | omega | exact Nat.le_refl _⟩, ⟨by (with_reducible repeat (first | apply Kd.R_alloc | apply Kd.R_drewN | apply Kd.R_drew)); exact Kd.R_mono HO160.out (fun _ hk => ⟨hk.1.1.2, ⟨hk.1.2, hk.2⟩⟩)⟩, ⟨by (with_reducible repeat (first | apply Kd.R_alloc | apply Kd.R_drewN | apply Kd.R_drew)); exact Kd.R_mono HO166.out (fun _ hk => ⟨hk.1.1.2, ⟨hk.1.2, hk.2⟩⟩)⟩, ⟨by (with_reducible repeat (first | apply Kd.R_alloc | apply Kd.R_drewN | apply Kd.R_drew)); exact Kd.R_mono HO170.out (fun _ hk => ⟨hk.1.1.2, ⟨hk.1.2, hk.2⟩⟩)⟩, ⟨by (with_reducible repeat (first | apply Kd.R_alloc | apply Kd.R_drewN | apply Kd.R_drew)); exact Kd.R_mono HO174.out (fun _ hk => ⟨hk.1.1.2, ⟨hk.1.2, hk.2⟩⟩)⟩, ⟨by repeat (first | (with_reducible first | exact HB.out | apply below_alloc | apply pw_below_drewN | apply below_drew1) | exact HB.out)⟩⟩
      ·rw [if_neg c27] at H
       have c27b0 : (t172 == 0) = false := beq_eq_false_iff_ne.mpr c27
       have c27b1 : (t172 != 0) = true := bne_iff_ne.mpr c27
       have H' := Aside0.mk H
       clear H
       obtain ⟨Ao36, co36, eo36⟩ := Kd.R_slice HO160.out
       subst eo36
       obtain ⟨Ao37, co37, eo37⟩ := Kd.R_slice HO166.out
       subst eo37
       go_wp2
       go_meet
       case rel => exact ⟨_, (true), (by first | rfl | (simp; done) | (simp [*]; done)), H', ⟨by first | omega | exact Nat.le_refl _⟩, ⟨by (with_reducible repeat (first | apply Kd.R_alloc | apply Kd.R_drewN | apply Kd.R_drew)); exact Kd.R_mono HO160.out (fun _ hk => ⟨hk.1.1.2, ⟨hk.1.2, hk.2⟩⟩)⟩, ⟨by (with_reducible repeat (first | apply Kd.R_alloc | apply Kd.R_drewN | apply Kd.R_drew)); exact Kd.R_mono HO166.out (fun _ hk => ⟨hk.1.1.2, ⟨hk.1.2, hk.2⟩⟩)⟩, ⟨by (with_reducible repeat (first | apply Kd.R_alloc | apply Kd.R_drewN | apply Kd.R_drew)); exact Kd.R_mono HO170.out (fun _ hk => ⟨hk.1.1.2, ⟨hk.1.2, hk.2⟩⟩)⟩, ⟨by (with_reducible repeat (first | apply Kd.R_alloc | apply Kd.R_drewN | apply Kd.R_drew)); exact Kd.R_mono HO174.out (fun _ hk => ⟨hk.1.1.2, ⟨hk.1.2, hk.2⟩⟩)⟩, ⟨by repeat (first | (with_reducible first | exact HB.out | apply below_alloc | apply pw_below_drewN | apply below_drew1) | exact HB.out)⟩⟩
     ·rw [if_neg c26] at H
      have c26b0 : (t168 == 0) = false := beq_eq_false_iff_ne.mpr c26
      have c26b1 : (t168 != 0) = true := bne_iff_ne.mpr c26
      have H' := Aside0.mk H
      clear H
      obtain ⟨Ao38, co38, eo38⟩ := Kd.R_slice HO160.out
      subst eo38
      obtain ⟨Ao39, co39, eo39⟩ := Kd.R_slice HO166.out
      subst eo39
      go_wp2
      go_meet
      case rel => exact ⟨_, (true), (by first | rfl | (simp; done) | (simp [*]; done)), H', ⟨by first | omega | exact Nat.le_refl _⟩, ⟨by (with_reducible repeat (first | apply Kd.R_alloc | apply Kd.R_drewN | apply Kd.R_drew)); exact Kd.R_mono HO160.out (fun _ hk => ⟨hk.1.1.2, ⟨hk.1.2, hk.2⟩⟩)⟩, ⟨by (with_reducible repeat (first | apply Kd.R_alloc | apply Kd.R_drewN | apply Kd.R_drew)); exact Kd.R_mono HO166.out (fun _ hk => ⟨hk.1.1.2, ⟨hk.1.2, hk.2⟩⟩)⟩, ⟨by (with_reducible repeat (first | apply Kd.R_alloc | apply Kd.R_drewN | apply Kd.R_drew)); exact Kd.R_mono HO170.out (fun _ hk => ⟨hk.1.1.2, ⟨hk.1.2, hk.2⟩⟩)⟩, ⟨by (with_reducible repeat (first | apply Kd.R_alloc | apply Kd.R_drewN | apply Kd.R_drew)); exact Kd.R_mono HO174.out (fun _ hk => ⟨hk.1.1.2, ⟨hk.1.2, hk.2⟩⟩)⟩, ⟨by repeat (first | (with_reducible first | exact HB.out | apply below_alloc | apply pw_below_drewN | apply below_drew1) | exact HB.out)⟩⟩
  case rest =>
   clear HC9
   try clear c1
   try clear c2
   try clear p2
   try clear c3
   try clear c4
   try clear c8
   try clear c9
   try clear c10
   try clear c21
   try clear c21b0
   try clear c21b1
   try clear c21b2
   try clear c23
   try clear c23b0
   try clear c23b1
   try clear c23b2
   try clear c26
   try clear c26b0
   try clear c26b1
   try clear c27
   try clear c27b0
   try clear c27b1
   try clear c28
   try clear c28b0
   try clear c28b1
   obtain ⟨kq, x56_8, rfl, HA, HJ8, HO_6, HO_7, HO_8, HO_10, HB⟩ := hcut
   cases kq with
   | zero => exact absurd HA.out (by simp [palletlaw02_WireOrders.j0])
   | succ kj8 =>
    have H := HA.out
    clear HA
    simp only [palletlaw02_WireOrders.j0] at H
    by_cases c40 : x56_8 = true
    ·subst c40
     have H1 : (some false) = some r := by rw [if_pos rfl] at H; exact H
     clear H
     have H := H1
     clear H1
     obtain rfl := Option.some.inj H
     exact absurd hr_.out (by decide)
    ·replace c40 := Bool.eq_false_iff.mpr c40
     subst c40
     have H1 : (if a0 < a1 then (if (t158.length : Int) > (t164.length : Int) then (palletlaw02_WireOrders.j1 kj8 a0 a1 true t158 t164 t167 t171 true) else (if (t158.length : Int) = (t164.length : Int) then (palletlaw02_WireOrders.j1 kj8 a0 a1 true t158 t164 t167 t171 (!(Op.bytesLess ((strOfNums t158).toList) ((strOfNums t164).toList)))) else (palletlaw02_WireOrders.j1 kj8 a0 a1 true t158 t164 t167 t171 false))) else (palletlaw02_WireOrders.j1 kj8 a0 a1 true t158 t164 t167 t171 false)) = some r := by rw [if_neg (show ¬ (false = true) by decide)] at H; exact H
     clear H
     have H := H1
     clear H1
     have HC41 := Aside0.mk H
     clear H
     go_upto_region 10 with (fail)
     go_cut [80] (fun v80 wc => ∃ (kq : Nat) (x80_40 : Bool), v80 = .bool x80_40 ∧ Aside0 (palletlaw02_WireOrders.j1 kq a0 a1 true t158 t164 t167 t171 x80_40 = some r) ∧ Aside0 (kq ≤ kj8) ∧ Aside0 (Kd.R (Kd.int .u8) 5 wc w.heap.size (fun k_ => some k_ ≠ (v165 : Value).ownBlock ∧ some k_ ≠ (v169 : Value).ownBlock ∧ some k_ ≠ (v173 : Value).ownBlock) v159 t158) ∧ Aside0 (Kd.R (Kd.int .u8) 5 wc w.heap.size (fun k_ => some k_ ≠ (v159 : Value).ownBlock ∧ some k_ ≠ (v169 : Value).ownBlock ∧ some k_ ≠ (v173 : Value).ownBlock) v165 t164) ∧ Aside0 (Kd.R (Kd.int .u8) 5 wc w.heap.size (fun k_ => some k_ ≠ (v159 : Value).ownBlock ∧ some k_ ≠ (v165 : Value).ownBlock ∧ some k_ ≠ (v173 : Value).ownBlock) v169 t167) ∧ Aside0 (Kd.R (Kd.int .u8) 5 wc w.heap.size (fun k_ => some k_ ≠ (v159 : Value).ownBlock ∧ some k_ ≠ (v165 : Value).ownBlock ∧ some k_ ≠ (v169 : Value).ownBlock) v173 t171) ∧ Aside0 (Below w.heap.size w wc))
     case first =>
      have H := HC41.out
      clear HC41
      by_cases c42 : a0 < a1
      ·rw [if_pos c42] at H
       have c42b0 : decide (a0 < a1) = true := decide_eq_true c42
       clear c42
       (first | rw [c42b0] | (simp only [i64_w, i32_w]; rw [c42b0]) | skip)
       by_cases c43 : (t158.length : Int) > (t164.length : Int)
       ·rw [if_pos c43] at H
        have c43b0 : decide ((t164.length : Int) < (t158.length : Int)) = true := decide_eq_true c43
        have c43b1 : decide (t164.length < t158.length) = true := decide_eq_true (Int.ofNat_lt.mp c43)
        clear c43
        have H' := Aside0.mk H
        clear H
        obtain ⟨Ao44, co44, eo44⟩ := Kd.R_slice HO_6.out
        subst eo44
        obtain ⟨Ao45, co45, eo45⟩ := Kd.R_slice HO_7.out
        subst eo45
        go_wp2
        go_meet
        case rel => exact ⟨_, (true), (by first | rfl | (simp; done) | (simp [*]; done)), H', ⟨by have := HJ8.out; first | omega | exact Nat.le_refl _⟩, ⟨by (with_reducible repeat (first | apply Kd.R_alloc | apply Kd.R_drewN | apply Kd.R_drew)); exact HO_6.out⟩, ⟨by (with_reducible repeat (first | apply Kd.R_alloc | apply Kd.R_drewN | apply Kd.R_drew)); exact HO_7.out⟩, ⟨by (with_reducible repeat (first | apply Kd.R_alloc | apply Kd.R_drewN | apply Kd.R_drew)); exact HO_8.out⟩, ⟨by (with_reducible repeat (first | apply Kd.R_alloc | apply Kd.R_drewN | apply Kd.R_drew)); exact HO_10.out⟩, ⟨by repeat (first | (with_reducible first | exact HB.out | apply below_alloc | apply pw_below_drewN | apply below_drew1) | exact HB.out)⟩⟩
       ·rw [if_neg c43] at H
        have c43b0 : decide ((t164.length : Int) < (t158.length : Int)) = false := decide_eq_false c43
        have c43b1 : decide (t164.length < t158.length) = false := decide_eq_false (fun h => c43 (Int.ofNat_lt.mpr h))
        clear c43
        by_cases c46 : (t158.length : Int) = (t164.length : Int)
        ·rw [if_pos c46] at H
         have c46b0 : ((t158.length : Int) == (t164.length : Int)) = true := beq_iff_eq.mpr c46
         have c46b1 : ((t158.length : Int) != (t164.length : Int)) = false := bne_eq_false_iff_eq.mpr c46
         have c46b2 : (t158.length == t164.length) = true := by first | simpa using c46 | (simp at c46 ⊢; omega)
         clear c46
         have H' := Aside0.mk H
         clear H
         obtain ⟨Ao47, co47, eo47⟩ := Kd.R_slice HO_6.out
         subst eo47
         obtain ⟨Ao48, co48, eo48⟩ := Kd.R_slice HO_7.out
         subst eo48
         have hcv49 := own_string (P := Try.prog) Try.underlying24 Try.underlying5 Try.underlying9 (Kd.own_of_R HO_6.out)
         (try have hcv50 := fun (n_ : Nat) => own_string (P := Try.prog) Try.underlying24 Try.underlying5 Try.underlying9 (Kd.own_of_R (Kd.R_drewN HO_6.out n_)))
         have hcv51 := own_string (P := Try.prog) Try.underlying24 Try.underlying5 Try.underlying9 (Kd.own_of_R HO_7.out)
         (try have hcv52 := fun (n_ : Nat) => own_string (P := Try.prog) Try.underlying24 Try.underlying5 Try.underlying9 (Kd.own_of_R (Kd.R_drewN HO_7.out n_)))
         go_wp2
         go_meet
         case rel => exact ⟨_, (!(Op.bytesLess ((strOfNums t158).toList) ((strOfNums t164).toList))), (by first | rfl | (simp; done) | (simp [*]; done)), H', ⟨by have := HJ8.out; first | omega | exact Nat.le_refl _⟩, ⟨by (with_reducible repeat (first | apply Kd.R_alloc | apply Kd.R_drewN | apply Kd.R_drew)); exact HO_6.out⟩, ⟨by (with_reducible repeat (first | apply Kd.R_alloc | apply Kd.R_drewN | apply Kd.R_drew)); exact HO_7.out⟩, ⟨by (with_reducible repeat (first | apply Kd.R_alloc | apply Kd.R_drewN | apply Kd.R_drew)); exact HO_8.out⟩, ⟨by (with_reducible repeat (first | apply Kd.R_alloc | apply Kd.R_drewN | apply Kd.R_drew)); exact HO_10.out⟩, ⟨by repeat (first | (with_reducible first | exact HB.out | apply below_alloc | apply pw_below_drewN | apply below_drew1) | exact HB.out)⟩⟩
        ·rw [if_neg c46] at H
         have c46b0 : ((t158.length : Int) == (t164.length : Int)) = false := beq_eq_false_iff_ne.mpr c46
         have c46b1 : ((t158.length : Int) != (t164.length : Int)) = true := bne_iff_ne.mpr c46
         have c46b2 : (t158.length == t164.length) = false := by first | simpa using c46 | (simp at c46 ⊢; omega)
         have H' := Aside0.mk H
         clear H
         obtain ⟨Ao53, co53, eo53⟩ := Kd.R_slice HO_6.out
         subst eo53
         obtain ⟨Ao54, co54, eo54⟩ := Kd.R_slice HO_7.out
         subst eo54
         go_wp2
         go_meet
         case rel => exact ⟨_, (false), (by first | rfl | (simp; done) | (simp [*]; done)), H', ⟨by have := HJ8.out; first | omega | exact Nat.le_refl _⟩, ⟨by (with_reducible repeat (first | apply Kd.R_alloc | apply Kd.R_drewN | apply Kd.R_drew)); exact HO_6.out⟩, ⟨by (with_reducible repeat (first | apply Kd.R_alloc | apply Kd.R_drewN | apply Kd.R_drew)); exact HO_7.out⟩, ⟨by (with_reducible repeat (first | apply Kd.R_alloc | apply Kd.R_drewN | apply Kd.R_drew)); exact HO_8.out⟩, ⟨by (with_reducible repeat (first | apply Kd.R_alloc | apply Kd.R_drewN | apply Kd.R_drew)); exact HO_10.out⟩, ⟨by repeat (first | (with_reducible first | exact HB.out | apply below_alloc | apply pw_below_drewN | apply below_drew1) | exact HB.out)⟩⟩
      ·rw [if_neg c42] at H
       have c42b0 : decide (a0 < a1) = false := decide_eq_false c42
       clear c42
       (first | rw [c42b0] | (simp only [i64_w, i32_w]; rw [c42b0]) | skip)
       have H' := Aside0.mk H
       clear H
       go_wp2
       go_meet
       case rel => exact ⟨_, (false), (by first | rfl | (simp; done) | (simp [*]; done)), H', ⟨by have := HJ8.out; first | omega | exact Nat.le_refl _⟩, ⟨by (with_reducible repeat (first | apply Kd.R_alloc | apply Kd.R_drewN | apply Kd.R_drew)); exact HO_6.out⟩, ⟨by (with_reducible repeat (first | apply Kd.R_alloc | apply Kd.R_drewN | apply Kd.R_drew)); exact HO_7.out⟩, ⟨by (with_reducible repeat (first | apply Kd.R_alloc | apply Kd.R_drewN | apply Kd.R_drew)); exact HO_8.out⟩, ⟨by (with_reducible repeat (first | apply Kd.R_alloc | apply Kd.R_drewN | apply Kd.R_drew)); exact HO_10.out⟩, ⟨by repeat (first | (with_reducible first | exact HB.out | apply below_alloc | apply pw_below_drewN | apply below_drew1) | exact HB.out)⟩⟩
     case rest =>
      clear HC41
      try clear c1
      try clear c2
      try clear p2
      try clear c3
      try clear c4
      try clear hcv4
      try clear hcv5
      try clear c8
      try clear c9
      try clear c10
      try clear c21
      try clear c21b0
      try clear c21b1
      try clear c21b2
      try clear c23
      try clear c23b0
      try clear c23b1
      try clear c23b2
      try clear c26
      try clear c26b0
      try clear c26b1
      try clear c27
      try clear c27b0
      try clear c27b1
      try clear c28
      try clear c28b0
      try clear c28b1
      try clear c40
      try clear c42
      try clear c42b0
      try clear c43
      try clear c43b0
      try clear c43b1
      try clear c46
      try clear c46b0
      try clear c46b1
      try clear c46b2
      try clear hcv49
      try clear hcv50
      try clear hcv51
      try clear hcv52
      try clear p2
      obtain ⟨kq, x80_40, rfl, HA, HJ40, HO_6, HO_7, HO_8, HO_10, HB⟩ := hcut
      cases kq with
      | zero => exact absurd HA.out (by simp [palletlaw02_WireOrders.j1])
      | succ kj40 =>
       have H := HA.out
       clear HA
       simp only [palletlaw02_WireOrders.j1] at H
       by_cases c55 : x80_40 = true
       ·subst c55
        have H1 : (some false) = some r := by rw [if_pos rfl] at H; exact H
        clear H
        have H := H1
        clear H1
        obtain rfl := Option.some.inj H
        exact absurd hr_.out (by decide)
       ·replace c55 := Bool.eq_false_iff.mpr c55
        subst c55
        have H1 : (if a0 = a1 then (if true = true then (some ((decide (a0 < a1)) == (Op.bytesLess ((strOfNums t167).toList) ((strOfNums t171).toList)))) else (some false)) else (if (t158.length : Int) ≤ (t164.length : Int) then (if 0 ≤ (t158.length : Int) then ((palletref02_Same.f t158 (t164.take ((t158.length : Int) : Int).toNat)).bind fun t179 => (if t179 = true then (some false) else (if true = true then (some ((decide (a0 < a1)) == (Op.bytesLess ((strOfNums t167).toList) ((strOfNums t171).toList)))) else (some false)))) else (none)) else (if true = true then (some ((decide (a0 < a1)) == (Op.bytesLess ((strOfNums t167).toList) ((strOfNums t171).toList)))) else (some false)))) = some r := by rw [if_neg (show ¬ (false = true) by decide)] at H; exact H
        clear H
        have H := H1
        clear H1
        by_cases c56 : a0 = a1
        ·rw [if_pos c56] at H
         have c56b0 : (a0 == a1) = true := beq_iff_eq.mpr c56
         have c56b1 : (a0 != a1) = false := bne_eq_false_iff_eq.mpr c56
         clear c56
         have H1 : (some ((decide (a0 < a1)) == (Op.bytesLess ((strOfNums t167).toList) ((strOfNums t171).toList)))) = some r := by first | (rw [if_pos rfl] at H; exact H) | exact H
         clear H
         have H := H1
         clear H1
         obtain rfl := Option.some.inj H
         have hcv57 := own_string (P := Try.prog) Try.underlying24 Try.underlying5 Try.underlying9 (Kd.own_of_R HO_8.out)
         (try have hcv58 := fun (n_ : Nat) => own_string (P := Try.prog) Try.underlying24 Try.underlying5 Try.underlying9 (Kd.own_of_R (Kd.R_drewN HO_8.out n_)))
         have hcv59 := own_string (P := Try.prog) Try.underlying24 Try.underlying5 Try.underlying9 (Kd.own_of_R HO_10.out)
         (try have hcv60 := fun (n_ : Nat) => own_string (P := Try.prog) Try.underlying24 Try.underlying5 Try.underlying9 (Kd.own_of_R (Kd.R_drewN HO_10.out n_)))
         go_wp2
         go_ret
         exact ⟨by first | rfl | (simp [errW_none, errW_some] <;> rfl) | (simp [*, errW_none, errW_some] <;> rfl), by repeat (first | (with_reducible first | exact HB.out | apply below_alloc | apply pw_below_drewN | apply below_drew1) | exact HB.out)⟩
        ·rw [if_neg c56] at H
         have c56b0 : (a0 == a1) = false := beq_eq_false_iff_ne.mpr c56
         have c56b1 : (a0 != a1) = true := bne_iff_ne.mpr c56
         by_cases c61 : (t158.length : Int) ≤ (t164.length : Int)
         ·rw [if_pos c61] at H
          have c61b0 : decide ((t158.length : Int) ≤ (t164.length : Int)) = true := decide_eq_true c61
          have c61b1 : decide (t158.length ≤ t164.length) = true := decide_eq_true (Int.ofNat_le.mp c61)
          clear c61
          by_cases c62 : 0 ≤ (t158.length : Int)
          ·rw [if_pos c62] at H
           have c62b0 := eq_true c62
           have c62b1 : decide (0 ≤ (t158.length : Int)) = true := decide_eq_true c62
           clear c62
           have c63b0 := eq_true (of_decide_eq_true (by first | (with_reducible assumption) | assumption) : (t158.length : Int) ≤ (t164.length : Int))
           obtain ⟨y175, hy175⟩ : ∃ y_ : List Int, y_ = (t164.take ((t158.length : Int) : Int).toNat) := ⟨_, rfl⟩
           replace H : ((palletref02_Same.f t158 y175).bind fun t179 => (if t179 = true then (some false) else (if true = true then (some ((decide (a0 < a1)) == (Op.bytesLess ((strOfNums t167).toList) ((strOfNums t171).toList)))) else (some false)))) = some r := by first | (rw [hy175]; with_reducible exact H) | (have H2_ := (Option.bind_some _ _).symm.trans H; rw [hy175]; with_reducible exact H2_) | (have H2_ := (Option.bind_some _ _).symm.trans H; with_reducible exact H2_) | with_reducible exact H | (rw [hy175]; exact H) | exact H
           have Ny175 := Aside0.mk hy175
           clear hy175
           replace H := Option.bind_eq_some_iff.mp H
           obtain ⟨t179, A640, H⟩ := H
           replace H : (if t179 = true then (some false) else (if true = true then (some ((decide (a0 < a1)) == (Op.bytesLess ((strOfNums t167).toList) ((strOfNums t171).toList)))) else (some false))) = some r := H
           have A64 := Aside0.mk A640
           clear A640
           by_cases c65 : t179 = true
           ·subst c65
            have H1 : (some false) = some r := by rw [if_pos rfl] at H; exact H
            clear H
            have H := H1
            clear H1
            obtain rfl := Option.some.inj H
            exact absurd hr_.out (by decide)
           ·replace c65 := Bool.eq_false_iff.mpr c65
            subst c65
            have H1 : (if true = true then (some ((decide (a0 < a1)) == (Op.bytesLess ((strOfNums t167).toList) ((strOfNums t171).toList)))) else (some false)) = some r := by rw [if_neg (show ¬ (false = true) by decide)] at H; exact H
            clear H
            have H := H1
            clear H1
            have H1 : (some ((decide (a0 < a1)) == (Op.bytesLess ((strOfNums t167).toList) ((strOfNums t171).toList)))) = some r := by first | (rw [if_pos rfl] at H; exact H) | exact H
            clear H
            have H := H1
            clear H1
            obtain rfl := Option.some.inj H
            obtain ⟨Ao66, co66, eo66⟩ := Kd.R_slice HO_6.out
            subst eo66
            obtain ⟨Ao67, co67, eo67⟩ := Kd.R_slice HO_7.out
            subst eo67
            have q68 : ((t158.length : Int) : Int) ≤ ((t164.length : Int) : Int) := of_decide_eq_true (by first | (with_reducible assumption) | assumption)
            obtain ⟨i068, hi068, _, hsz68, _⟩ := info_parts info5
            have hroom68 : t164.length ≤ co67 := (Kd.R_reads' HO_7.out).2.1
            have hC68 : Kd.C (Kd.int .u8) _ Ao67 t164.length t164 := (Kd.R_reads' HO_7.out).2.2
            have hcut68 := cut_to (P := Try.prog) 24 5 .i64 Try.underlying24 hi068 Ao67 t164.length co67 (t158.length : Int) (of_decide_eq_true (by first | (with_reducible assumption) | assumption)) q68 hroom68
            have hr68 := Kd.C_take (m := ((t158.length : Int) : Int).toNat) hC68 (by omega)
            have hy68 : y175.length = ((t158.length : Int) : Int).toNat := (by rw [Ny175.out, List.length_take]; omega)
            rw [← Ny175.out] at hr68
            rw [← hy68] at hcut68
            have HR178 := Aside0.mk hr68
            have HC178 := Aside0.mk (show y175.length ≤ co67 from by omega)
            clear hr68 hC68 hroom68 hi068 hsz68
            have KY68 := Aside0.mk hy68
            clear hy68
            have KL68 := Aside0.mk (show ((t158.length : Int) : Int).toNat ≤ t164.length from by omega)
            replace q68 := eq_true q68
            go_wp2_with (first | (go_at_call 11; (with_reducible refine (palletref02_Same.calls _ _ t158 _ _ y175 false _ ?side1 ?side2 ?side3 ?side4 A64.out).mono ?_); (case side1 => repeat (first | exact (Kd.R_reads' HO_6.out).2.2 | (with_reducible refine Kd.C_alloc ?_ _) | (with_reducible refine Kd.C_drewN ?_ _) | (with_reducible refine Kd.C_drew ?_))); (case side2 => exact (Kd.R_reads' HO_6.out).2.1); (case side3 => repeat (first | exact (by repeat (first | (with_reducible exact HR178.out) | (with_reducible refine Kd.C_alloc ?_ _) | (with_reducible refine Kd.C_drewN ?_ _) | (with_reducible refine Kd.C_drew ?_) | exact HR178.out)) | (with_reducible refine Kd.C_alloc ?_ _) | (with_reducible refine Kd.C_drewN ?_ _) | (with_reducible refine Kd.C_drew ?_))); (case side4 => exact HC178.out); rintro e w' ⟨rfl, ⟨nd, rfl⟩⟩; have hcv69 := own_string (P := Try.prog) Try.underlying24 Try.underlying5 Try.underlying9 (Kd.own_of_R HO_8.out); (try have hcv70 := fun (n_ : Nat) => own_string (P := Try.prog) Try.underlying24 Try.underlying5 Try.underlying9 (Kd.own_of_R (Kd.R_drewN HO_8.out n_))); have hcv71 := own_string (P := Try.prog) Try.underlying24 Try.underlying5 Try.underlying9 (Kd.own_of_R HO_10.out); (try have hcv72 := fun (n_ : Nat) => own_string (P := Try.prog) Try.underlying24 Try.underlying5 Try.underlying9 (Kd.own_of_R (Kd.R_drewN HO_10.out n_)))))
            go_ret
            exact ⟨by first | rfl | (simp [errW_none, errW_some] <;> rfl) | (simp [*, errW_none, errW_some] <;> rfl), by repeat (first | (with_reducible first | exact HB.out | apply below_alloc | apply pw_below_drewN | apply below_drew1) | exact HB.out)⟩
          ·rw [if_neg c62] at H
           exact absurd H (by simp)
         ·rw [if_neg c61] at H
          have c61b0 : decide ((t158.length : Int) ≤ (t164.length : Int)) = false := decide_eq_false c61
          have c61b1 : decide (t158.length ≤ t164.length) = false := decide_eq_false (fun h => c61 (Int.ofNat_le.mpr h))
          clear c61
          have H1 : (some ((decide (a0 < a1)) == (Op.bytesLess ((strOfNums t167).toList) ((strOfNums t171).toList)))) = some r := by first | (rw [if_pos rfl] at H; exact H) | exact H
          clear H
          have H := H1
          clear H1
          obtain rfl := Option.some.inj H
          obtain ⟨Ao73, co73, eo73⟩ := Kd.R_slice HO_6.out
          subst eo73
          obtain ⟨Ao74, co74, eo74⟩ := Kd.R_slice HO_7.out
          subst eo74
          have hcv75 := own_string (P := Try.prog) Try.underlying24 Try.underlying5 Try.underlying9 (Kd.own_of_R HO_8.out)
          (try have hcv76 := fun (n_ : Nat) => own_string (P := Try.prog) Try.underlying24 Try.underlying5 Try.underlying9 (Kd.own_of_R (Kd.R_drewN HO_8.out n_)))
          have hcv77 := own_string (P := Try.prog) Try.underlying24 Try.underlying5 Try.underlying9 (Kd.own_of_R HO_10.out)
          (try have hcv78 := fun (n_ : Nat) => own_string (P := Try.prog) Try.underlying24 Try.underlying5 Try.underlying9 (Kd.own_of_R (Kd.R_drewN HO_10.out n_)))
          go_wp2
          go_ret
          exact ⟨by first | rfl | (simp [errW_none, errW_some] <;> rfl) | (simp [*, errW_none, errW_some] <;> rfl), by repeat (first | (with_reducible first | exact HB.out | apply below_alloc | apply pw_below_drewN | apply below_drew1) | exact HB.out)⟩
 ·replace c4 := Bool.eq_false_iff.mpr c4
  subst c4
  have H1 : (some false) = some r := by rw [if_neg (show ¬ (false = true) by decide)] at H; exact H
  clear H
  have H := H1
  clear H1
  obtain rfl := Option.some.inj H
  exact absurd hr_.out (by decide)

end Go.Proofs.Ytnmepjpjpillcaa.Print
