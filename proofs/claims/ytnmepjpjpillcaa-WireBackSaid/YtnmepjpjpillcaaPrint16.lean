-- PRINTED by print.py (a twelfth state) out of the translation. Not trusted: Lean checks it.
import Derived.Test.YtnmepjpjpillcaaPrint0
import Derived.Test.YtnmepjpjpillcaaPrint2
import Derived.Test.YtnmepjpjpillcaaPrint3
import Derived.Test.YtnmepjpjpillcaaPrint4
import Derived.Test.YtnmepjpjpillcaaPrint5
import Derived.Test.YtnmepjpjpillcaaPrint7
import Derived.Test.YtnmepjpjpillcaaPrint8
import Derived.Test.YtnmepjpjpillcaaPrint9
import Derived.Test.YtnmepjpjpillcaaPrint14
import Derived.Test.YtnmepjpjpillcaaPrint15
namespace Go.Proofs.Ytnmepjpjpillcaa.Print
open Go.RowKit Go.Proofs.YtnmepjpjpillcaaW.PrintWords Go.Proofs.YtnmepjpjpillcaaW.PrintLast Go.Proofs.YtnmepjpjpillcaaW.PrintMore Go.Proofs.YtnmepjpjpillcaaX
attribute [local go_sem] str_lss str_geq max2_int min2_int max_two min_two max_three min_three max_four min_four   -- for this text's walks alone
set_option linter.unusedVariables false
set_option linter.unusedSimpArgs false

/-! ### palletlaw02_WireBack: function 6 -/
mutual
def palletlaw02_WireBack.j0 : Nat → List Int → List Int → List Int → List Int → Int → Int → Bool → Bool → Option (Bool)
 | 0, _, _, _, _, _, _, _, _ => none
 | k + 1, x0, x1, x2, x3, x4, x5, x13, x52 => if x52 = true then (some x13) else ((wire_Vary.f k x0 x2).bind fun t378 => (if t378.length + x1.length < 140737488355328 then (palletlaw02_WireBack.l0 k x0 x1 x2 x3 x4 x5 x13 (t378 ++ x1) (x0.length : Int) x2 (x2.length : Int) 0) else (none)))
def palletlaw02_WireBack.l0 : Nat → List Int → List Int → List Int → List Int → Int → Int → Bool → List Int → Int → List Int → Int → Int → Option (Bool)
 | 0, _, _, _, _, _, _, _, _, _, _, _, _ => none
 | k + 1, x0, x1, x2, x3, x4, x5, x13, x14, x15, x61, x62, x63 => if x63 < x62 then (if 0 ≤ x63 then (if x63 < (x61.length : Int) then ((wire_TakeVary.f k x14 x15).bind fun bt385 => (if bt385.1 = (rd x61 x63) then (if bt385.2.2 = 0 then (palletlaw02_WireBack.l0 k x0 x1 x2 x3 x4 x5 x13 x14 bt385.2.1 x61 x62 (wrap64 (x63 + 1))) else (some false)) else (some false))) else (none)) else (none)) else (if x15 = (wrap64 ((x14.length : Int) - (x1.length : Int))) then ((wire_Sign.f k x0 x3).bind fun t388 => (if t388.length + x1.length < 140737488355328 then (palletlaw02_WireBack.l1 k x0 x1 x2 x4 x5 x13 (t388 ++ x1) (x0.length : Int) x3 (x3.length : Int) 0) else (none))) else (some false))
def palletlaw02_WireBack.l1 : Nat → List Int → List Int → List Int → Int → Int → Bool → List Int → Int → List Int → Int → Int → Option (Bool)
 | 0, _, _, _, _, _, _, _, _, _, _, _ => none
 | k + 1, x0, x1, x2, x4, x5, x13, x14, x15, x97, x98, x99 => if x99 < x98 then (if 0 ≤ x99 then (if x99 < (x97.length : Int) then ((wire_TakeSign.f k x14 x15).bind fun bt395 => (if bt395.1 = (rd x97 x99) then (if bt395.2.2 = 0 then (palletlaw02_WireBack.l1 k x0 x1 x2 x4 x5 x13 x14 bt395.2.1 x97 x98 (wrap64 (x99 + 1))) else (some false)) else (some false))) else (none)) else (none)) else ((wire_Record.f k x0 x4 x1).bind fun bt398 => (if bt398.1.length + x1.length < 140737488355328 then ((wire_TakeRecord.f k (bt398.1 ++ x1) (x0.length : Int)).bind fun bt405 => (if bt398.2 = 0 then (if bt405.2.2.2 = 0 then (if bt405.1 = x4 then ((palletref02_Same.f bt405.2.1 x1).bind fun t411 => (if t411 = true then (palletlaw02_WireBack.j3 k x0 x1 x2 x5 x13 x14 x15 (bt405.2.2.1 != (bt398.1.length : Int))) else (palletlaw02_WireBack.j3 k x0 x1 x2 x5 x13 x14 x15 true))) else (palletlaw02_WireBack.j3 k x0 x1 x2 x5 x13 x14 x15 true)) else (palletlaw02_WireBack.j3 k x0 x1 x2 x5 x13 x14 x15 true)) else (palletlaw02_WireBack.j3 k x0 x1 x2 x5 x13 x14 x15 true))) else (none)))
def palletlaw02_WireBack.j3 : Nat → List Int → List Int → List Int → Int → Bool → List Int → Int → Bool → Option (Bool)
 | 0, _, _, _, _, _, _, _, _ => none
 | k + 1, x0, x1, x2, x5, x13, x14, x15, x159 => if x159 = true then (some false) else (palletlaw02_WireBack.l2 k x0 x1 x5 x13 x14 x15 x2 (x2.length : Int) 0)
def palletlaw02_WireBack.l2 : Nat → List Int → List Int → Int → Bool → List Int → Int → List Int → Int → Int → Option (Bool)
 | 0, _, _, _, _, _, _, _, _, _ => none
 | k + 1, x0, x1, x5, x13, x14, x15, x160, x161, x162 => if x162 < x161 then (if 0 ≤ x162 then (if x162 < (x160.length : Int) then ((wire_Fixed.f k x0 x5 (rd x160 x162)).bind fun bt413 => (if bt413.2 = 0 then ((wire_TakeFixed.f k bt413.1 (x0.length : Int) x5).bind fun bt417 => (if bt417.1 = (rd x160 x162) then (if bt417.2.1 = (bt413.1.length : Int) then (if bt417.2.2 = 0 then (palletlaw02_WireBack.l2 k x0 x1 x5 x13 x14 x15 x160 x161 (wrap64 (x162 + 1))) else (some false)) else (some false)) else (some false))) else (palletlaw02_WireBack.l2 k x0 x1 x5 x13 x14 x15 x160 x161 (wrap64 (x162 + 1))))) else (none)) else (none)) else (if x13 = true then (some (x15 == (wrap64 ((x14.length : Int) - (x1.length : Int))))) else (some false))
end
def palletlaw02_WireBack.f (k : Nat) (l0 : List Int) (l1 : List Int) (l2 : List Int) (l3 : List Int) (a4 : Int) (a5 : Int) : Option (Bool) := (palletlaw02_live.f k).bind fun t373 => ((palletlaw02_few.f k (([l0, l1] : List (List Int)))).bind fun t377 => (if t377 = true then (palletlaw02_WireBack.j0 k l0 l1 l2 l3 a4 a5 t373 (decide ((wrap64 ((l2.length : Int) + (l3.length : Int))) > 500))) else (palletlaw02_WireBack.j0 k l0 l1 l2 l3 a4 a5 t373 true)))
theorem palletlaw02_WireBack.mono_l : ∀ k, (∀ y0 y1 y2 y3 y4 y5 y6 y7, LeO (palletlaw02_WireBack.j0 k y0 y1 y2 y3 y4 y5 y6 y7) (palletlaw02_WireBack.j0 (k + 1) y0 y1 y2 y3 y4 y5 y6 y7)) ∧ (∀ y0 y1 y2 y3 y4 y5 y6 y7 y8 y9 y10 y11, LeO (palletlaw02_WireBack.l0 k y0 y1 y2 y3 y4 y5 y6 y7 y8 y9 y10 y11) (palletlaw02_WireBack.l0 (k + 1) y0 y1 y2 y3 y4 y5 y6 y7 y8 y9 y10 y11)) ∧ (∀ y0 y1 y2 y3 y4 y5 y6 y7 y8 y9 y10, LeO (palletlaw02_WireBack.l1 k y0 y1 y2 y3 y4 y5 y6 y7 y8 y9 y10) (palletlaw02_WireBack.l1 (k + 1) y0 y1 y2 y3 y4 y5 y6 y7 y8 y9 y10)) ∧ (∀ y0 y1 y2 y3 y4 y5 y6 y7, LeO (palletlaw02_WireBack.j3 k y0 y1 y2 y3 y4 y5 y6 y7) (palletlaw02_WireBack.j3 (k + 1) y0 y1 y2 y3 y4 y5 y6 y7)) ∧ (∀ y0 y1 y2 y3 y4 y5 y6 y7 y8, LeO (palletlaw02_WireBack.l2 k y0 y1 y2 y3 y4 y5 y6 y7 y8) (palletlaw02_WireBack.l2 (k + 1) y0 y1 y2 y3 y4 y5 y6 y7 y8))
 | 0 => ⟨fun _ _ _ _ _ _ _ _ r h => by simp [palletlaw02_WireBack.j0] at h, fun _ _ _ _ _ _ _ _ _ _ _ _ r h => by simp [palletlaw02_WireBack.l0] at h, fun _ _ _ _ _ _ _ _ _ _ _ r h => by simp [palletlaw02_WireBack.l1] at h, fun _ _ _ _ _ _ _ _ r h => by simp [palletlaw02_WireBack.j3] at h, fun _ _ _ _ _ _ _ _ _ r h => by simp [palletlaw02_WireBack.l2] at h⟩
 | k + 1 => by
  obtain ⟨ih0, ih1, ih2, ih3, ih4⟩ := palletlaw02_WireBack.mono_l k
  refine ⟨?_, ?_, ?_, ?_, ?_⟩
  ·intro y0 y1 y2 y3 y4 y5 y6 y7
   unfold palletlaw02_WireBack.j0
   repeat' first
   | (with_reducible exact ih0 _ _ _ _ _ _ _ _)
   | (with_reducible exact ih1 _ _ _ _ _ _ _ _ _ _ _ _)
   | (with_reducible exact ih2 _ _ _ _ _ _ _ _ _ _ _)
   | (with_reducible exact ih3 _ _ _ _ _ _ _ _)
   | (with_reducible exact ih4 _ _ _ _ _ _ _ _ _)
   | (with_reducible exact palletlaw02_few.mono _ _)
   | (with_reducible exact palletlaw02_live.mono _)
   | (with_reducible exact wire_Fixed.mono _ _ _ _)
   | (with_reducible exact wire_Record.mono _ _ _ _)
   | (with_reducible exact wire_Sign.mono _ _ _)
   | (with_reducible exact wire_TakeFixed.mono _ _ _ _)
   | (with_reducible exact wire_TakeRecord.mono _ _ _)
   | (with_reducible exact wire_TakeSign.mono _ _ _)
   | (with_reducible exact wire_TakeVary.mono _ _ _)
   | (with_reducible exact wire_Vary.mono _ _ _)
   | (with_reducible exact LeO.refl _)
   | (with_reducible exact LeO.none _)
   | (with_reducible refine LeO.ite ?_ ?_)
   | (with_reducible refine LeO.bind ?_ (fun _ => ?_))
   | exact ih0 _ _ _ _ _ _ _ _
   | exact ih1 _ _ _ _ _ _ _ _ _ _ _ _
   | exact ih2 _ _ _ _ _ _ _ _ _ _ _
   | exact ih3 _ _ _ _ _ _ _ _
   | exact ih4 _ _ _ _ _ _ _ _ _
   | exact palletlaw02_few.mono _ _
   | exact palletlaw02_live.mono _
   | exact wire_Fixed.mono _ _ _ _
   | exact wire_Record.mono _ _ _ _
   | exact wire_Sign.mono _ _ _
   | exact wire_TakeFixed.mono _ _ _ _
   | exact wire_TakeRecord.mono _ _ _
   | exact wire_TakeSign.mono _ _ _
   | exact wire_TakeVary.mono _ _ _
   | exact wire_Vary.mono _ _ _
   | exact LeO.none _
   | refine LeO.ite ?_ ?_
   | refine LeO.bind ?_ (fun _ => ?_)
  ·intro y0 y1 y2 y3 y4 y5 y6 y7 y8 y9 y10 y11
   unfold palletlaw02_WireBack.l0
   repeat' first
   | (with_reducible exact ih0 _ _ _ _ _ _ _ _)
   | (with_reducible exact ih1 _ _ _ _ _ _ _ _ _ _ _ _)
   | (with_reducible exact ih2 _ _ _ _ _ _ _ _ _ _ _)
   | (with_reducible exact ih3 _ _ _ _ _ _ _ _)
   | (with_reducible exact ih4 _ _ _ _ _ _ _ _ _)
   | (with_reducible exact palletlaw02_few.mono _ _)
   | (with_reducible exact palletlaw02_live.mono _)
   | (with_reducible exact wire_Fixed.mono _ _ _ _)
   | (with_reducible exact wire_Record.mono _ _ _ _)
   | (with_reducible exact wire_Sign.mono _ _ _)
   | (with_reducible exact wire_TakeFixed.mono _ _ _ _)
   | (with_reducible exact wire_TakeRecord.mono _ _ _)
   | (with_reducible exact wire_TakeSign.mono _ _ _)
   | (with_reducible exact wire_TakeVary.mono _ _ _)
   | (with_reducible exact wire_Vary.mono _ _ _)
   | (with_reducible exact LeO.refl _)
   | (with_reducible exact LeO.none _)
   | (with_reducible refine LeO.ite ?_ ?_)
   | (with_reducible refine LeO.bind ?_ (fun _ => ?_))
   | exact ih0 _ _ _ _ _ _ _ _
   | exact ih1 _ _ _ _ _ _ _ _ _ _ _ _
   | exact ih2 _ _ _ _ _ _ _ _ _ _ _
   | exact ih3 _ _ _ _ _ _ _ _
   | exact ih4 _ _ _ _ _ _ _ _ _
   | exact palletlaw02_few.mono _ _
   | exact palletlaw02_live.mono _
   | exact wire_Fixed.mono _ _ _ _
   | exact wire_Record.mono _ _ _ _
   | exact wire_Sign.mono _ _ _
   | exact wire_TakeFixed.mono _ _ _ _
   | exact wire_TakeRecord.mono _ _ _
   | exact wire_TakeSign.mono _ _ _
   | exact wire_TakeVary.mono _ _ _
   | exact wire_Vary.mono _ _ _
   | exact LeO.none _
   | refine LeO.ite ?_ ?_
   | refine LeO.bind ?_ (fun _ => ?_)
  ·intro y0 y1 y2 y3 y4 y5 y6 y7 y8 y9 y10
   unfold palletlaw02_WireBack.l1
   repeat' first
   | (with_reducible exact ih0 _ _ _ _ _ _ _ _)
   | (with_reducible exact ih1 _ _ _ _ _ _ _ _ _ _ _ _)
   | (with_reducible exact ih2 _ _ _ _ _ _ _ _ _ _ _)
   | (with_reducible exact ih3 _ _ _ _ _ _ _ _)
   | (with_reducible exact ih4 _ _ _ _ _ _ _ _ _)
   | (with_reducible exact palletlaw02_few.mono _ _)
   | (with_reducible exact palletlaw02_live.mono _)
   | (with_reducible exact wire_Fixed.mono _ _ _ _)
   | (with_reducible exact wire_Record.mono _ _ _ _)
   | (with_reducible exact wire_Sign.mono _ _ _)
   | (with_reducible exact wire_TakeFixed.mono _ _ _ _)
   | (with_reducible exact wire_TakeRecord.mono _ _ _)
   | (with_reducible exact wire_TakeSign.mono _ _ _)
   | (with_reducible exact wire_TakeVary.mono _ _ _)
   | (with_reducible exact wire_Vary.mono _ _ _)
   | (with_reducible exact LeO.refl _)
   | (with_reducible exact LeO.none _)
   | (with_reducible refine LeO.ite ?_ ?_)
   | (with_reducible refine LeO.bind ?_ (fun _ => ?_))
   | exact ih0 _ _ _ _ _ _ _ _
   | exact ih1 _ _ _ _ _ _ _ _ _ _ _ _
   | exact ih2 _ _ _ _ _ _ _ _ _ _ _
   | exact ih3 _ _ _ _ _ _ _ _
   | exact ih4 _ _ _ _ _ _ _ _ _
   | exact palletlaw02_few.mono _ _
   | exact palletlaw02_live.mono _
   | exact wire_Fixed.mono _ _ _ _
   | exact wire_Record.mono _ _ _ _
   | exact wire_Sign.mono _ _ _
   | exact wire_TakeFixed.mono _ _ _ _
   | exact wire_TakeRecord.mono _ _ _
   | exact wire_TakeSign.mono _ _ _
   | exact wire_TakeVary.mono _ _ _
   | exact wire_Vary.mono _ _ _
   | exact LeO.none _
   | refine LeO.ite ?_ ?_
   | refine LeO.bind ?_ (fun _ => ?_)
  ·intro y0 y1 y2 y3 y4 y5 y6 y7
   unfold palletlaw02_WireBack.j3
   repeat' first
   | (with_reducible exact ih0 _ _ _ _ _ _ _ _)
   | (with_reducible exact ih1 _ _ _ _ _ _ _ _ _ _ _ _)
   | (with_reducible exact ih2 _ _ _ _ _ _ _ _ _ _ _)
   | (with_reducible exact ih3 _ _ _ _ _ _ _ _)
   | (with_reducible exact ih4 _ _ _ _ _ _ _ _ _)
   | (with_reducible exact palletlaw02_few.mono _ _)
   | (with_reducible exact palletlaw02_live.mono _)
   | (with_reducible exact wire_Fixed.mono _ _ _ _)
   | (with_reducible exact wire_Record.mono _ _ _ _)
   | (with_reducible exact wire_Sign.mono _ _ _)
   | (with_reducible exact wire_TakeFixed.mono _ _ _ _)
   | (with_reducible exact wire_TakeRecord.mono _ _ _)
   | (with_reducible exact wire_TakeSign.mono _ _ _)
   | (with_reducible exact wire_TakeVary.mono _ _ _)
   | (with_reducible exact wire_Vary.mono _ _ _)
   | (with_reducible exact LeO.refl _)
   | (with_reducible exact LeO.none _)
   | (with_reducible refine LeO.ite ?_ ?_)
   | (with_reducible refine LeO.bind ?_ (fun _ => ?_))
   | exact ih0 _ _ _ _ _ _ _ _
   | exact ih1 _ _ _ _ _ _ _ _ _ _ _ _
   | exact ih2 _ _ _ _ _ _ _ _ _ _ _
   | exact ih3 _ _ _ _ _ _ _ _
   | exact ih4 _ _ _ _ _ _ _ _ _
   | exact palletlaw02_few.mono _ _
   | exact palletlaw02_live.mono _
   | exact wire_Fixed.mono _ _ _ _
   | exact wire_Record.mono _ _ _ _
   | exact wire_Sign.mono _ _ _
   | exact wire_TakeFixed.mono _ _ _ _
   | exact wire_TakeRecord.mono _ _ _
   | exact wire_TakeSign.mono _ _ _
   | exact wire_TakeVary.mono _ _ _
   | exact wire_Vary.mono _ _ _
   | exact LeO.none _
   | refine LeO.ite ?_ ?_
   | refine LeO.bind ?_ (fun _ => ?_)
  ·intro y0 y1 y2 y3 y4 y5 y6 y7 y8
   unfold palletlaw02_WireBack.l2
   repeat' first
   | (with_reducible exact ih0 _ _ _ _ _ _ _ _)
   | (with_reducible exact ih1 _ _ _ _ _ _ _ _ _ _ _ _)
   | (with_reducible exact ih2 _ _ _ _ _ _ _ _ _ _ _)
   | (with_reducible exact ih3 _ _ _ _ _ _ _ _)
   | (with_reducible exact ih4 _ _ _ _ _ _ _ _ _)
   | (with_reducible exact palletlaw02_few.mono _ _)
   | (with_reducible exact palletlaw02_live.mono _)
   | (with_reducible exact wire_Fixed.mono _ _ _ _)
   | (with_reducible exact wire_Record.mono _ _ _ _)
   | (with_reducible exact wire_Sign.mono _ _ _)
   | (with_reducible exact wire_TakeFixed.mono _ _ _ _)
   | (with_reducible exact wire_TakeRecord.mono _ _ _)
   | (with_reducible exact wire_TakeSign.mono _ _ _)
   | (with_reducible exact wire_TakeVary.mono _ _ _)
   | (with_reducible exact wire_Vary.mono _ _ _)
   | (with_reducible exact LeO.refl _)
   | (with_reducible exact LeO.none _)
   | (with_reducible refine LeO.ite ?_ ?_)
   | (with_reducible refine LeO.bind ?_ (fun _ => ?_))
   | exact ih0 _ _ _ _ _ _ _ _
   | exact ih1 _ _ _ _ _ _ _ _ _ _ _ _
   | exact ih2 _ _ _ _ _ _ _ _ _ _ _
   | exact ih3 _ _ _ _ _ _ _ _
   | exact ih4 _ _ _ _ _ _ _ _ _
   | exact palletlaw02_few.mono _ _
   | exact palletlaw02_live.mono _
   | exact wire_Fixed.mono _ _ _ _
   | exact wire_Record.mono _ _ _ _
   | exact wire_Sign.mono _ _ _
   | exact wire_TakeFixed.mono _ _ _ _
   | exact wire_TakeRecord.mono _ _ _
   | exact wire_TakeSign.mono _ _ _
   | exact wire_TakeVary.mono _ _ _
   | exact wire_Vary.mono _ _ _
   | exact LeO.none _
   | refine LeO.ite ?_ ?_
   | refine LeO.bind ?_ (fun _ => ?_)
theorem palletlaw02_WireBack.mono : ∀ a0 a1 a2 a3 a4 a5 k, LeO (palletlaw02_WireBack.f k a0 a1 a2 a3 a4 a5) (palletlaw02_WireBack.f (k + 1) a0 a1 a2 a3 a4 a5) := by
 intro a0 a1 a2 a3 a4 a5 k
 obtain ⟨ih0, ih1, ih2, ih3, ih4⟩ := palletlaw02_WireBack.mono_l k
 unfold palletlaw02_WireBack.f
 repeat' first
   | (with_reducible exact ih0 _ _ _ _ _ _ _ _)
   | (with_reducible exact ih1 _ _ _ _ _ _ _ _ _ _ _ _)
   | (with_reducible exact ih2 _ _ _ _ _ _ _ _ _ _ _)
   | (with_reducible exact ih3 _ _ _ _ _ _ _ _)
   | (with_reducible exact ih4 _ _ _ _ _ _ _ _ _)
   | (with_reducible exact palletlaw02_few.mono _ _)
   | (with_reducible exact palletlaw02_live.mono _)
   | (with_reducible exact wire_Fixed.mono _ _ _ _)
   | (with_reducible exact wire_Record.mono _ _ _ _)
   | (with_reducible exact wire_Sign.mono _ _ _)
   | (with_reducible exact wire_TakeFixed.mono _ _ _ _)
   | (with_reducible exact wire_TakeRecord.mono _ _ _)
   | (with_reducible exact wire_TakeSign.mono _ _ _)
   | (with_reducible exact wire_TakeVary.mono _ _ _)
   | (with_reducible exact wire_Vary.mono _ _ _)
   | (with_reducible exact LeO.refl _)
   | (with_reducible exact LeO.none _)
   | (with_reducible refine LeO.ite ?_ ?_)
   | (with_reducible refine LeO.bind ?_ (fun _ => ?_))
   | exact ih0 _ _ _ _ _ _ _ _
   | exact ih1 _ _ _ _ _ _ _ _ _ _ _ _
   | exact ih2 _ _ _ _ _ _ _ _ _ _ _
   | exact ih3 _ _ _ _ _ _ _ _
   | exact ih4 _ _ _ _ _ _ _ _ _
   | exact palletlaw02_few.mono _ _
   | exact palletlaw02_live.mono _
   | exact wire_Fixed.mono _ _ _ _
   | exact wire_Record.mono _ _ _ _
   | exact wire_Sign.mono _ _ _
   | exact wire_TakeFixed.mono _ _ _ _
   | exact wire_TakeRecord.mono _ _ _
   | exact wire_TakeSign.mono _ _ _
   | exact wire_TakeVary.mono _ _ _
   | exact wire_Vary.mono _ _ _
   | exact LeO.none _
   | refine LeO.ite ?_ ?_
   | refine LeO.bind ?_ (fun _ => ?_)
set_option maxHeartbeats 8000000 in
set_option maxRecDepth 100000 in
theorem palletlaw02_WireBack.calls (k : Nat) (P0_ : Nat → Prop) (A0 : Option Addr) (c0 : Nat) (l0 : List Int) (P1_ : Nat → Prop) (A1 : Option Addr) (c1 : Nat) (l1 : List Int) (A2 : Option Addr) (c2 : Nat) (l2 : List Int) (A3 : Option Addr) (c3 : Nat) (l3 : List Int) (a4 : Int) (a5 : Int) (r : Bool) (w : World) (hs0 : Kd.V (Kd.int .u8) 5 w w.heap.size (fun k_ => P0_ k_) (.slice A0 l0.length c0) l0) (hs1 : Kd.V (Kd.int .u8) 5 w w.heap.size (fun k_ => P1_ k_) (.slice A1 l1.length c1) l1) (hr2 : Kd.C (Kd.int .u64) w A2 l2.length l2) (hc2 : l2.length ≤ c2) (hr3 : Kd.C (Kd.int .i64) w A3 l3.length l3) (hc3 : l3.length ≤ c3) (hr_ : Aside0 (r = true)) (h : palletlaw02_WireBack.f k l0 l1 l2 l3 a4 a5 = some r) :
  Calls Try.prog 6 #[.slice A0 l0.length c0, .slice A1 l1.length c1, .slice A2 l2.length c2, .slice A3 l3.length c3, .int .u8 a4, .int .i64 a5] w fun e w' => e = .returned (.bool r) ∧ Below w.heap.size w w' := by
 have HO0 := Aside0.mk (show Kd.V (Kd.int .u8) 5 w w.heap.size (fun k_ => ((P0_ k_ ∨ P1_ k_) ∨ w.heap.size ≤ k_)) (.slice A0 l0.length c0) l0 from Kd.V_mono hs0 (fun k_ hk => .inl (.inl hk)))
 have HO1 := Aside0.mk (show Kd.V (Kd.int .u8) 5 w w.heap.size (fun k_ => ((P0_ k_ ∨ P1_ k_) ∨ w.heap.size ≤ k_)) (.slice A1 l1.length c1) l1 from Kd.V_mono hs1 (fun k_ hk => .inl (.inr hk)))
 have HR2 := Aside0.mk hr2
 have HC2 := Aside0.mk hc2
 clear hr2 hc2
 have HR3 := Aside0.mk hr3
 have HC3 := Aside0.mk hc3
 clear hr3 hc3
 have HB := Aside0.mk (Below.refl w.heap.size w)
 have H : ((palletlaw02_live.f k).bind fun t373 => ((palletlaw02_few.f k (([l0, l1] : List (List Int)))).bind fun t377 => (if t377 = true then (palletlaw02_WireBack.j0 k l0 l1 l2 l3 a4 a5 t373 (decide ((wrap64 ((l2.length : Int) + (l3.length : Int))) > 500))) else (palletlaw02_WireBack.j0 k l0 l1 l2 l3 a4 a5 t373 true)))) = some r := h
 clear h
 replace H := Option.bind_eq_some_iff.mp H
 obtain ⟨t373, A70, H⟩ := H
 replace H : ((palletlaw02_few.f k (([l0, l1] : List (List Int)))).bind fun t377 => (if t377 = true then (palletlaw02_WireBack.j0 k l0 l1 l2 l3 a4 a5 t373 (decide ((wrap64 ((l2.length : Int) + (l3.length : Int))) > 500))) else (palletlaw02_WireBack.j0 k l0 l1 l2 l3 a4 a5 t373 true))) = some r := H
 have A7 := Aside0.mk A70
 clear A70
 have HC8 := Aside0.mk H
 clear H
 go_enter Try.func6, Try.ntmps6
 go_upto_region 2 with (first | ((with_reducible refine gate_callee (f := 8) rfl ?_); refine goesL_ (some 39) rfl rfl Try.func8 (by kernel_rfl) rfl #[] rfl (by (try simp only [List.map_toArray, List.map_cons, List.map_nil]); first | done | rfl | (simp only [List.length_drop, List.length_take]; rfl)) ?_; (with_reducible refine (palletlaw02_live.calls k  t373 _ A7.out).mono ?_); rintro e w9 ⟨rfl, hb⟩; refine ⟨_, rfl, ?_⟩; have n0_ := Aside0.mk (Kd.V_below (by (with_reducible repeat (first | apply Kd.V_alloc | apply Kd.V_drewN | apply Kd.V_drew)); exact HO0.out) hb); have n1_ := Aside0.mk (Kd.V_below (by (with_reducible repeat (first | apply Kd.V_alloc | apply Kd.V_drewN | apply Kd.V_drew)); exact HO1.out) hb); have n2_ := Aside0.mk (below_step (by repeat (first | (with_reducible first | exact HB.out | apply below_alloc | apply pw_below_drewN | apply below_drew1) | exact HB.out)) hb); clear HO0; clear HO1; clear HB; have HO0 := n0_; have HO1 := n1_; have HB := n2_; clear n0_ n1_ n2_; (try clear hb); (try clear hb2); (try clear hk); (try clear hi)))
 (try simp only [Act.put, List.setIfInBounds_toArray, List.set_cons_zero, List.set_cons_succ])
 go_cut [52] (fun v52 wc => ∃ (kq : Nat) (x52_7 : Bool), v52 = .bool x52_7 ∧ Aside0 (palletlaw02_WireBack.j0 kq l0 l1 l2 l3 a4 a5 t373 x52_7 = some r) ∧ Aside0 (kq ≤ k) ∧ Aside0 (Kd.V (Kd.int .u8) 5 wc w.heap.size (fun k_ => ((P0_ k_ ∨ P1_ k_) ∨ w.heap.size ≤ k_)) (.slice A0 l0.length c0) l0) ∧ Aside0 (Kd.V (Kd.int .u8) 5 wc w.heap.size (fun k_ => ((P0_ k_ ∨ P1_ k_) ∨ w.heap.size ≤ k_)) (.slice A1 l1.length c1) l1) ∧ Aside0 (Below w.heap.size w wc))
 case first =>
  have H := HC8.out
  clear HC8
  obtain ⟨y374, hy374⟩ : ∃ y_ : List (List Int), y_ = (([l0, l1] : List (List Int))) := ⟨_, rfl⟩
  replace H : ((palletlaw02_few.f k y374).bind fun t377 => (if t377 = true then (palletlaw02_WireBack.j0 k l0 l1 l2 l3 a4 a5 t373 (decide ((wrap64 ((l2.length : Int) + (l3.length : Int))) > 500))) else (palletlaw02_WireBack.j0 k l0 l1 l2 l3 a4 a5 t373 true))) = some r := by first | (rw [hy374]; with_reducible exact H) | (have H2_ := (Option.bind_some _ _).symm.trans H; rw [hy374]; with_reducible exact H2_) | (have H2_ := (Option.bind_some _ _).symm.trans H; with_reducible exact H2_) | with_reducible exact H | (rw [hy374]; exact H) | exact H
  have Ny374 := Aside0.mk hy374
  clear hy374
  replace H := Option.bind_eq_some_iff.mp H
  obtain ⟨t377, A100, H⟩ := H
  replace H : (if t377 = true then (palletlaw02_WireBack.j0 k l0 l1 l2 l3 a4 a5 t373 (decide ((wrap64 ((l2.length : Int) + (l3.length : Int))) > 500))) else (palletlaw02_WireBack.j0 k l0 l1 l2 l3 a4 a5 t373 true)) = some r := H
  have A10 := Aside0.mk A100
  clear A100
  by_cases c11 : t377 = true
  ·subst c11
   have H1 : (palletlaw02_WireBack.j0 k l0 l1 l2 l3 a4 a5 t373 (decide ((wrap64 ((l2.length : Int) + (l3.length : Int))) > 500))) = some r := by rw [if_pos rfl] at H; exact H
   clear H
   have H := H1
   clear H1
   have H' := Aside0.mk H
   clear H
   go_wp2_with (first | ((with_reducible refine gate_dst (N := 42) rfl ?_); (try (refine gate_guard (by rfl) ?_; dsimp only)); refine Kd.N_lit (Kd.slice 5 (Kd.int .u8)) _ 24 ?hg (N' := 42) ?hd (xs := ([l0, l1] : List (List Int))) (inner := [.slice A0 l0.length c0, .slice A1 l1.length c1]) (ok := (fun k_ => ((P0_ k_ ∨ P1_ k_) ∨ w.heap.size ≤ k_))) (okp := (fun k_ => ((P0_ k_ ∨ P1_ k_) ∨ w.heap.size ≤ k_))) ?hr ?hp (fun _ hk => hk) ((show ∀ k_, w9.heap.size ≤ k_ → (fun k_ => ((P0_ k_ ∨ P1_ k_) ∨ w.heap.size ≤ k_)) k_ from fun k_ hk => (.inr (Nat.le_trans (below_size (by repeat (first | (with_reducible first | exact HB.out | apply below_alloc | apply pw_below_drewN | apply below_drew1) | exact HB.out))) hk))) _ (Nat.le_refl _)) (Below.refl _ _) (Nat.le_refl _) (by simp) ?_; (case hd => rfl); (case hg => rfl); (case hr => first | (go_simp; done) | (go_simp; rfl)); (case hp => exact (Reps.one (show Kd.FK (Kd.slice 5 (Kd.int .u8)) _ _ l0 [.slice A0 l0.length c0] from (Kd.FK_slice_mk (Kd.V_reads' (Kd.V_mono (ok' := (fun k_ => ((P0_ k_ ∨ P1_ k_) ∨ w.heap.size ≤ k_))) (HO0.out) (fun k_ hk => hk))).2.1 (Kd.V_F (Kd.V_mono (ok' := (fun k_ => ((P0_ k_ ∨ P1_ k_) ∨ w.heap.size ≤ k_))) (HO0.out) (fun k_ hk => hk))))) (Reps.one (show Kd.FK (Kd.slice 5 (Kd.int .u8)) _ _ l1 [.slice A1 l1.length c1] from (Kd.FK_slice_mk (Kd.V_reads' (Kd.V_mono (ok' := (fun k_ => ((P0_ k_ ∨ P1_ k_) ∨ w.heap.size ≤ k_))) (HO1.out) (fun k_ hk => hk))).2.1 (Kd.V_F (Kd.V_mono (ok' := (fun k_ => ((P0_ k_ ∨ P1_ k_) ∨ w.heap.size ≤ k_))) (HO1.out) (fun k_ hk => hk))))) (Reps.none _ _)))); intro v375 w12 ho13 hb hg_ hnew_; clear hg_ hnew_; (first | rw [← Ny374.out] at ho13 | (simp only [Int.reduceToNat] at ho13; rw [← Ny374.out] at ho13)); have n0_ := Aside0.mk (Kd.V_elder' (by (with_reducible repeat (first | apply Kd.V_alloc | apply Kd.V_drewN | apply Kd.V_drew)); exact HO0.out) (Kd.N_base ho13) hb); have n1_ := Aside0.mk (Kd.V_elder' (by (with_reducible repeat (first | apply Kd.V_alloc | apply Kd.V_drewN | apply Kd.V_drew)); exact HO1.out) (Kd.N_base ho13) hb); have n2_ := Aside0.mk (Kd.N_lower ho13 (below_size (by repeat (first | (with_reducible first | exact HB.out | apply below_alloc | apply pw_below_drewN | apply below_drew1) | exact HB.out)))); have n3_ := Aside0.mk (below_step (by repeat (first | (with_reducible first | exact HB.out | apply below_alloc | apply pw_below_drewN | apply below_drew1) | exact HB.out)) hb); clear HO0; clear HO1; clear HB; have HO0 := n0_; have HO1 := n1_; have HO376 := n2_; have HB := n3_; clear n0_ n1_ n2_ n3_; clear hb ho13; obtain ⟨Ao14, co14, eo14⟩ := Kd.N_slice HO376.out; subst eo14) | ((with_reducible refine gate_callee (f := 12) rfl ?_); refine goesL_ (some 43) rfl rfl Try.func12 (by kernel_rfl) rfl #[.slice Ao14 y374.length co14] rfl (by (try simp only [List.map_toArray, List.map_cons, List.map_nil]); first | done | rfl | (simp only [List.length_drop, List.length_take]; rfl)) ?_; (with_reducible refine (palletlaw02_few.calls k _ _ y374 true _ ?side1 ?side2 A10.out).mono ?_); (case side1 => repeat (first | exact (Kd.N_reads' HO376.out).2.2 | (with_reducible refine Kd.C_alloc ?_ _) | (with_reducible refine Kd.C_drewN ?_ _) | (with_reducible refine Kd.C_drew ?_))); (case side2 => exact (Kd.N_reads' HO376.out).2.1); rintro e w' ⟨rfl, ⟨nd, rfl⟩⟩; refine ⟨_, rfl, ?_⟩))
   go_meet
   case rel => exact ⟨_, (decide ((wrap64 ((l2.length : Int) + (l3.length : Int))) > 500)), (by first | rfl | (simp; done) | (simp [*]; done)), H', ⟨by first | omega | exact Nat.le_refl _⟩, ⟨by (with_reducible repeat (first | apply Kd.V_alloc | apply Kd.V_drewN | apply Kd.V_drew)); exact Kd.V_mono HO0.out (fun _ hk => hk.1)⟩, ⟨by (with_reducible repeat (first | apply Kd.V_alloc | apply Kd.V_drewN | apply Kd.V_drew)); exact Kd.V_mono HO1.out (fun _ hk => hk.1)⟩, ⟨by repeat (first | (with_reducible first | exact HB.out | apply below_alloc | apply pw_below_drewN | apply below_drew1) | exact HB.out)⟩⟩
  ·replace c11 := Bool.eq_false_iff.mpr c11
   subst c11
   have H1 : (palletlaw02_WireBack.j0 k l0 l1 l2 l3 a4 a5 t373 true) = some r := by rw [if_neg (show ¬ (false = true) by decide)] at H; exact H
   clear H
   have H := H1
   clear H1
   have H' := Aside0.mk H
   clear H
   go_wp2_with (first | ((with_reducible refine gate_dst (N := 42) rfl ?_); (try (refine gate_guard (by rfl) ?_; dsimp only)); refine Kd.N_lit (Kd.slice 5 (Kd.int .u8)) _ 24 ?hg (N' := 42) ?hd (xs := ([l0, l1] : List (List Int))) (inner := [.slice A0 l0.length c0, .slice A1 l1.length c1]) (ok := (fun k_ => ((P0_ k_ ∨ P1_ k_) ∨ w.heap.size ≤ k_))) (okp := (fun k_ => ((P0_ k_ ∨ P1_ k_) ∨ w.heap.size ≤ k_))) ?hr ?hp (fun _ hk => hk) ((show ∀ k_, w9.heap.size ≤ k_ → (fun k_ => ((P0_ k_ ∨ P1_ k_) ∨ w.heap.size ≤ k_)) k_ from fun k_ hk => (.inr (Nat.le_trans (below_size (by repeat (first | (with_reducible first | exact HB.out | apply below_alloc | apply pw_below_drewN | apply below_drew1) | exact HB.out))) hk))) _ (Nat.le_refl _)) (Below.refl _ _) (Nat.le_refl _) (by simp) ?_; (case hd => rfl); (case hg => rfl); (case hr => first | (go_simp; done) | (go_simp; rfl)); (case hp => exact (Reps.one (show Kd.FK (Kd.slice 5 (Kd.int .u8)) _ _ l0 [.slice A0 l0.length c0] from (Kd.FK_slice_mk (Kd.V_reads' (Kd.V_mono (ok' := (fun k_ => ((P0_ k_ ∨ P1_ k_) ∨ w.heap.size ≤ k_))) (HO0.out) (fun k_ hk => hk))).2.1 (Kd.V_F (Kd.V_mono (ok' := (fun k_ => ((P0_ k_ ∨ P1_ k_) ∨ w.heap.size ≤ k_))) (HO0.out) (fun k_ hk => hk))))) (Reps.one (show Kd.FK (Kd.slice 5 (Kd.int .u8)) _ _ l1 [.slice A1 l1.length c1] from (Kd.FK_slice_mk (Kd.V_reads' (Kd.V_mono (ok' := (fun k_ => ((P0_ k_ ∨ P1_ k_) ∨ w.heap.size ≤ k_))) (HO1.out) (fun k_ hk => hk))).2.1 (Kd.V_F (Kd.V_mono (ok' := (fun k_ => ((P0_ k_ ∨ P1_ k_) ∨ w.heap.size ≤ k_))) (HO1.out) (fun k_ hk => hk))))) (Reps.none _ _)))); intro v375 w15 ho16 hb hg_ hnew_; clear hg_ hnew_; (first | rw [← Ny374.out] at ho16 | (simp only [Int.reduceToNat] at ho16; rw [← Ny374.out] at ho16)); have n0_ := Aside0.mk (Kd.V_elder' (by (with_reducible repeat (first | apply Kd.V_alloc | apply Kd.V_drewN | apply Kd.V_drew)); exact HO0.out) (Kd.N_base ho16) hb); have n1_ := Aside0.mk (Kd.V_elder' (by (with_reducible repeat (first | apply Kd.V_alloc | apply Kd.V_drewN | apply Kd.V_drew)); exact HO1.out) (Kd.N_base ho16) hb); have n2_ := Aside0.mk (Kd.N_lower ho16 (below_size (by repeat (first | (with_reducible first | exact HB.out | apply below_alloc | apply pw_below_drewN | apply below_drew1) | exact HB.out)))); have n3_ := Aside0.mk (below_step (by repeat (first | (with_reducible first | exact HB.out | apply below_alloc | apply pw_below_drewN | apply below_drew1) | exact HB.out)) hb); clear HO0; clear HO1; clear HB; have HO0 := n0_; have HO1 := n1_; have HO376 := n2_; have HB := n3_; clear n0_ n1_ n2_ n3_; clear hb ho16; obtain ⟨Ao17, co17, eo17⟩ := Kd.N_slice HO376.out; subst eo17) | ((with_reducible refine gate_callee (f := 12) rfl ?_); refine goesL_ (some 43) rfl rfl Try.func12 (by kernel_rfl) rfl #[.slice Ao17 y374.length co17] rfl (by (try simp only [List.map_toArray, List.map_cons, List.map_nil]); first | done | rfl | (simp only [List.length_drop, List.length_take]; rfl)) ?_; (with_reducible refine (palletlaw02_few.calls k _ _ y374 false _ ?side1 ?side2 A10.out).mono ?_); (case side1 => repeat (first | exact (Kd.N_reads' HO376.out).2.2 | (with_reducible refine Kd.C_alloc ?_ _) | (with_reducible refine Kd.C_drewN ?_ _) | (with_reducible refine Kd.C_drew ?_))); (case side2 => exact (Kd.N_reads' HO376.out).2.1); rintro e w' ⟨rfl, ⟨nd, rfl⟩⟩; refine ⟨_, rfl, ?_⟩))
   go_meet
   case rel => exact ⟨_, (true), (by first | rfl | (simp; done) | (simp [*]; done)), H', ⟨by first | omega | exact Nat.le_refl _⟩, ⟨by (with_reducible repeat (first | apply Kd.V_alloc | apply Kd.V_drewN | apply Kd.V_drew)); exact Kd.V_mono HO0.out (fun _ hk => hk.1)⟩, ⟨by (with_reducible repeat (first | apply Kd.V_alloc | apply Kd.V_drewN | apply Kd.V_drew)); exact Kd.V_mono HO1.out (fun _ hk => hk.1)⟩, ⟨by repeat (first | (with_reducible first | exact HB.out | apply below_alloc | apply pw_below_drewN | apply below_drew1) | exact HB.out)⟩⟩
 case rest =>
  clear HC8
  try clear c1
  try clear c2
  try clear p2
  try clear c3
  try clear c6
  try clear p6
  try clear c8
  try clear c11
  try clear c12
  obtain ⟨kq, x52_7, rfl, HA, HJ7, HO_0, HO_1, HB⟩ := hcut
  cases kq with
  | zero => exact absurd HA.out (by simp [palletlaw02_WireBack.j0])
  | succ kj7 =>
   have H := HA.out
   clear HA
   simp only [palletlaw02_WireBack.j0] at H
   by_cases c18 : x52_7 = true
   ·subst c18
    have H1 : (some t373) = some r := by rw [if_pos rfl] at H; exact H
    clear H
    have H := H1
    clear H1
    obtain rfl := Option.some.inj H
    go_wp2
    go_ret
    exact ⟨by first | rfl | (simp [errW_none, errW_some] <;> rfl) | (simp [*, errW_none, errW_some] <;> rfl), by repeat (first | (with_reducible first | exact HB.out | apply below_alloc | apply pw_below_drewN | apply below_drew1) | exact HB.out)⟩
   ·replace c18 := Bool.eq_false_iff.mpr c18
    subst c18
    have H1 : ((wire_Vary.f kj7 l0 l2).bind fun t378 => (if t378.length + l1.length < 140737488355328 then (palletlaw02_WireBack.l0 kj7 l0 l1 l2 l3 a4 a5 t373 (t378 ++ l1) (l0.length : Int) l2 (l2.length : Int) 0) else (none))) = some r := by rw [if_neg (show ¬ (false = true) by decide)] at H; exact H
    clear H
    have H := H1
    clear H1
    replace H := Option.bind_eq_some_iff.mp H
    obtain ⟨t378, A190, H⟩ := H
    replace H : (if t378.length + l1.length < 140737488355328 then (palletlaw02_WireBack.l0 kj7 l0 l1 l2 l3 a4 a5 t373 (t378 ++ l1) (l0.length : Int) l2 (l2.length : Int) 0) else (none)) = some r := H
    have A19 := Aside0.mk A190
    clear A190
    by_cases c20 : t378.length + l1.length < 140737488355328
    ·rw [if_pos c20] at H
     have LMc20 := Aside0.mk c20
     clear c20
     obtain ⟨y381, hy381⟩ : ∃ y_ : List Int, y_ = (t378 ++ l1) := ⟨_, rfl⟩
     replace H : (palletlaw02_WireBack.l0 kj7 l0 l1 l2 l3 a4 a5 t373 y381 (l0.length : Int) l2 (l2.length : Int) 0) = some r := by first | (rw [hy381]; with_reducible exact H) | (have H2_ := (Option.bind_some _ _).symm.trans H; rw [hy381]; with_reducible exact H2_) | (have H2_ := (Option.bind_some _ _).symm.trans H; with_reducible exact H2_) | with_reducible exact H | (rw [hy381]; exact H) | exact H
     have Ny381 := Aside0.mk hy381
     clear hy381
     have H' := Aside0.mk H
     clear H
     go_wp2_with (first | ((with_reducible refine gate_callee (f := 9) rfl ?_); refine goesL_ (some 56) rfl rfl Try.func9 (by kernel_rfl) rfl #[.slice A0 l0.length c0, .slice A2 l2.length c2] rfl (by (try simp only [List.map_toArray, List.map_cons, List.map_nil]); first | done | rfl | (simp only [List.length_drop, List.length_take]; rfl)) ?_; (with_reducible refine (wire_Vary.calls kj7 _ _ l0 _ _ l2 t378 _ ?side1 ?side2 ?side3 ?side4 A19.out).mono ?_); (case side1 => repeat (first | exact (Kd.V_reads' HO_0.out).2.2 | (with_reducible refine Kd.C_alloc ?_ _) | (with_reducible refine Kd.C_drewN ?_ _) | (with_reducible refine Kd.C_drew ?_))); (case side2 => exact (Kd.V_reads' HO_0.out).2.1); (case side3 => repeat (first | exact (Kd.C_below HR2.out HB.out) | (with_reducible refine Kd.C_alloc ?_ _) | (with_reducible refine Kd.C_drewN ?_ _) | (with_reducible refine Kd.C_drew ?_))); (case side4 => exact HC2.out); rintro e w21 ⟨v379, rfl, ho0, hb⟩; refine ⟨_, rfl, ?_⟩; have n0_ := Aside0.mk (Kd.V_elder' (by (with_reducible repeat (first | apply Kd.V_alloc | apply Kd.V_drewN | apply Kd.V_drew)); exact HO_0.out) (Kd.R_base ho0) hb); have n1_ := Aside0.mk (Kd.V_elder' (by (with_reducible repeat (first | apply Kd.V_alloc | apply Kd.V_drewN | apply Kd.V_drew)); exact HO_1.out) (Kd.R_base ho0) hb); have n2_ := Aside0.mk (Kd.R_lower (Kd.R_newM (M := fun k_ => (w.heap.size ≤ k_)) ho0 (below_size (by repeat (first | (with_reducible first | exact HB.out | apply below_alloc | apply pw_below_drewN | apply below_drew1) | exact HB.out))) (fun k_ h_ => h_)) (below_size (by repeat (first | (with_reducible first | exact HB.out | apply below_alloc | apply pw_below_drewN | apply below_drew1) | exact HB.out)))); have n3_ := Aside0.mk (below_step (by repeat (first | (with_reducible first | exact HB.out | apply below_alloc | apply pw_below_drewN | apply below_drew1) | exact HB.out)) hb); clear HO_0; clear HO_1; clear HB; have HO_0 := n0_; have HO_1 := n1_; have HO380 := n2_; have HB := n3_; clear n0_ n1_ n2_ n3_; (try clear hb); (try clear hb2); (try clear hk); (try clear hi); (try clear ho0); obtain ⟨Ao23, co23, eo23⟩ := Kd.R_slice HO380.out; subst eo23) | ((with_reducible refine gate_builtin (b := .append) (xs := #[.tmp 56, .tmp 57]) rfl ?_); (try (refine gate_guard (by rfl) ?_; dsimp only)); at_builtin; refine Kd.R_append_rows (Kd.int .u8) (w0 := w) w.heap.size rfl (.tmp 56) (.tmp 57) 24 5 (.int .u8 0) 1 rfl Try.underlying24 info5 rfl (by decide) (by omega) (.slice Ao23 t378.length co23) t378 l1 _ _ _ (fun k_ => (w.heap.size ≤ k_)) (fun _ => False) rfl rfl ?aO ?aR (fun _ _ h => h) (fun _ h => h.elim) ?aF ?aB ?aS ?aL ?_; (case aR => repeat (first | exact (Kd.V_reads' HO_1.out).2.2 | (with_reducible refine Kd.C_alloc ?_ _) | (with_reducible refine Kd.C_drewN ?_ _) | (with_reducible refine Kd.C_drew ?_))); (case aB => exact (by repeat (first | (with_reducible first | exact HB.out | apply below_alloc | apply pw_below_drewN | apply below_drew1) | exact HB.out))); (case aF => exact (fun k_ hk => (Nat.le_trans (below_size (by repeat (first | (with_reducible first | exact HB.out | apply below_alloc | apply pw_below_drewN | apply below_drew1) | exact HB.out))) hk))); (case aO => exact (by (with_reducible repeat (first | apply Kd.R_alloc | apply Kd.R_drewN | apply Kd.R_drew)); exact Kd.R_mono HO380.out (fun _ hk => hk.1))); (case aS => exact (below_size (by repeat (first | (with_reducible first | exact HB.out | apply below_alloc | apply pw_below_drewN | apply below_drew1) | exact HB.out)))); (case aL => have := LMc20.out; omega); intro v382 w22 ho hb hg hat; rw [← Ny381.out] at ho; have n0_ := Aside0.mk (Kd.V_afterv (ok := (fun k_ => ((P0_ k_ ∨ P1_ k_) ∨ w.heap.size ≤ k_))) (by (with_reducible repeat (first | apply Kd.V_alloc | apply Kd.V_drewN | apply Kd.V_drew)); exact HO_0.out) hg hat); have n1_ := Aside0.mk (Kd.V_afterv (ok := (fun k_ => ((P0_ k_ ∨ P1_ k_) ∨ w.heap.size ≤ k_))) (by (with_reducible repeat (first | apply Kd.V_alloc | apply Kd.V_drewN | apply Kd.V_drew)); exact HO_1.out) hg hat); have n2_ := Aside0.mk (hb); have n3_ := Aside0.mk (ho); clear HO_0; clear HO_1; clear HB; clear HO380; have HO_0 := n0_; have HO_1 := n1_; have HB := n2_; have HO383 := n3_; clear n0_ n1_ n2_ n3_; clear ho hb hg hat))
     go_loopg [15, 63] kj7 (fun kq v15 v63 w' => ∃ (x15_2 : Int) (x63_2 : Int), v15 = .int .i64 x15_2 ∧ v63 = .int .i64 x63_2 ∧ Aside0 (palletlaw02_WireBack.l0 kq l0 l1 l2 l3 a4 a5 t373 y381 x15_2 l2 (l2.length : Int) x63_2 = some r) ∧ Aside0 (kq ≤ kj7) ∧ Aside0 (Kd.V (Kd.int .u8) 5 w' w.heap.size (fun k_ => ((P0_ k_ ∨ P1_ k_) ∨ w.heap.size ≤ k_) ∧ some k_ ≠ (v382 : Value).ownBlock) (.slice A0 l0.length c0) l0) ∧ Aside0 (Kd.V (Kd.int .u8) 5 w' w.heap.size (fun k_ => ((P0_ k_ ∨ P1_ k_) ∨ w.heap.size ≤ k_) ∧ some k_ ≠ (v382 : Value).ownBlock) (.slice A1 l1.length c1) l1) ∧ Aside0 (Kd.R (Kd.int .u8) 5 w' w.heap.size (fun k_ => (w.heap.size ≤ k_)) v382 y381) ∧ Aside0 (Below w.heap.size w w'))
     case atStart => exact ⟨((l0.length : Int)), (0), (by first | rfl | (simp; done) | (simp [*]; done)), (by first | rfl | (simp; done) | (simp [*]; done)), H', ⟨Nat.le_refl _⟩, ⟨by (with_reducible repeat (first | apply Kd.V_alloc | apply Kd.V_drewN | apply Kd.V_drew)); exact HO_0.out⟩, ⟨by (with_reducible repeat (first | apply Kd.V_alloc | apply Kd.V_drewN | apply Kd.V_drew)); exact HO_1.out⟩, ⟨by (with_reducible repeat (first | apply Kd.R_alloc | apply Kd.R_drewN | apply Kd.R_drew)); exact HO383.out⟩, ⟨by repeat (first | (with_reducible first | exact HB.out | apply below_alloc | apply pw_below_drewN | apply below_drew1) | exact HB.out)⟩⟩
     case round =>
      clear H'
      try clear c1
      try clear c2
      try clear p2
      try clear c3
      try clear c6
      try clear p6
      try clear c8
      try clear c9
      try clear c11
      try clear c12
      try clear c18
      try clear c20
      try clear p2
      try clear p6
      obtain ⟨x15_2, x63_2, rfl, rfl, HA, HK2, HO_0, HO_1, HO_14, HB⟩ := hrel
      cases gk with
      | zero => exact absurd HA.out (by simp [palletlaw02_WireBack.l0])
      | succ k2 =>
       have H := HA.out
       clear HA
       simp only [palletlaw02_WireBack.l0] at H
       by_cases c24 : x63_2 < (l2.length : Int)
       ·rw [if_pos c24] at H
        have c24b0 : decide (x63_2 < (l2.length : Int)) = true := decide_eq_true c24
        clear c24
        by_cases c25 : 0 ≤ x63_2
        ·rw [if_pos c25] at H
         have c25b0 : decide (0 ≤ x63_2) = true := decide_eq_true c25
         clear c25
         by_cases c26 : x63_2 < (l2.length : Int)
         ·rw [if_pos c26] at H
          have c26b0 : decide (x63_2 < (l2.length : Int)) = true := decide_eq_true c26
          clear c26
          replace H := Option.bind_eq_some_iff.mp H
          obtain ⟨⟨t385, t386, t387⟩, A270, H⟩ := H
          replace H : (if t385 = (rd l2 x63_2) then (if t387 = 0 then (palletlaw02_WireBack.l0 k2 l0 l1 l2 l3 a4 a5 t373 y381 t386 l2 (l2.length : Int) (wrap64 (x63_2 + 1))) else (some false)) else (some false)) = some r := H
          have A27 := Aside0.mk A270
          clear A270
          by_cases c28 : t385 = (rd l2 x63_2)
          ·rw [if_pos c28] at H
           have c28b0 : (t385 == (rd l2 x63_2)) = true := beq_iff_eq.mpr c28
           have c28b1 : (t385 != (rd l2 x63_2)) = false := bne_eq_false_iff_eq.mpr c28
           clear c28
           by_cases c29 : t387 = 0
           ·rw [if_pos c29] at H
            have c29b0 : (t387 == 0) = true := beq_iff_eq.mpr c29
            have c29b1 : (t387 != 0) = false := bne_eq_false_iff_eq.mpr c29
            clear c29
            have H' := Aside0.mk H
            clear H
            have p384 : 0 ≤ (x63_2 : Int) := of_decide_eq_true (by first | (with_reducible assumption) | assumption)
            have q384 : x63_2 < (l2.length : Int) := of_decide_eq_true (by first | (with_reducible assumption) | assumption)
            obtain ⟨ad384, e384, hx384_0⟩ := Kd.at_int HR2.out x63_2 p384 q384
            cases e384
            replace hx384_0 := (HB.out.cell (World.block_lt_of_cell? w _ hx384_0)).trans hx384_0
            replace p384 := eq_true p384
            replace q384 := eq_true q384
            obtain ⟨Ao30, co30, eo30⟩ := Kd.R_slice HO_14.out
            subst eo30
            go_wp2_with (first | ((with_reducible refine gate_callee (f := 21) rfl ?_); refine goesL_ (some 70) rfl rfl Try.func21 (by kernel_rfl) rfl #[.slice Ao30 y381.length co30, .int .i64 x15_2] rfl (by (try simp only [List.map_toArray, List.map_cons, List.map_nil]); first | done | rfl | (simp only [List.length_drop, List.length_take]; rfl)) ?_; (with_reducible refine (wire_TakeVary.calls k2 _ _ y381 x15_2 t385 t386 t387 _ ?side1 ?side2 A27.out).mono ?_); (case side1 => repeat (first | exact (Kd.R_reads' HO_14.out).2.2 | (with_reducible refine Kd.C_alloc ?_ _) | (with_reducible refine Kd.C_drewN ?_ _) | (with_reducible refine Kd.C_drew ?_))); (case side2 => exact (Kd.R_reads' HO_14.out).2.1); rintro e w31 ⟨rfl, hb⟩; refine ⟨_, rfl, ?_⟩; have n0_ := Aside0.mk (Kd.V_below (by (with_reducible repeat (first | apply Kd.V_alloc | apply Kd.V_drewN | apply Kd.V_drew)); exact HO_0.out) hb); have n1_ := Aside0.mk (Kd.V_below (by (with_reducible repeat (first | apply Kd.V_alloc | apply Kd.V_drewN | apply Kd.V_drew)); exact HO_1.out) hb); have n2_ := Aside0.mk (Kd.R_below (by (with_reducible repeat (first | apply Kd.R_alloc | apply Kd.R_drewN | apply Kd.R_drew)); exact HO_14.out) hb); have n3_ := Aside0.mk (below_step (by repeat (first | (with_reducible first | exact HB.out | apply below_alloc | apply pw_below_drewN | apply below_drew1) | exact HB.out)) hb); clear HO_0; clear HO_1; clear HO_14; clear HB; have HO_0 := n0_; have HO_1 := n1_; have HO_14 := n2_; have HB := n3_; clear n0_ n1_ n2_ n3_; (try clear hb); (try clear hb2); (try clear hk); (try clear hi)))
            go_roundg k2
            case measure => have := HJ7.out; have := HK2.out; omega
            case rel => exact ⟨(t386), (wrap64 (x63_2 + 1)), (by first | rfl | (simp; done) | (simp [*]; done)), (by first | rfl | (simp; done) | (simp [*]; done)), H', ⟨by have := HJ7.out; have := HK2.out; omega⟩, ⟨by (with_reducible repeat (first | apply Kd.V_alloc | apply Kd.V_drewN | apply Kd.V_drew)); exact HO_0.out⟩, ⟨by (with_reducible repeat (first | apply Kd.V_alloc | apply Kd.V_drewN | apply Kd.V_drew)); exact HO_1.out⟩, ⟨by (with_reducible repeat (first | apply Kd.R_alloc | apply Kd.R_drewN | apply Kd.R_drew)); exact HO_14.out⟩, ⟨by repeat (first | (with_reducible first | exact HB.out | apply below_alloc | apply pw_below_drewN | apply below_drew1) | exact HB.out)⟩⟩
           ·rw [if_neg c29] at H
            have c29b0 : (t387 == 0) = false := beq_eq_false_iff_ne.mpr c29
            have c29b1 : (t387 != 0) = true := bne_iff_ne.mpr c29
            obtain rfl := Option.some.inj H
            exact absurd hr_.out (by decide)
          ·rw [if_neg c28] at H
           have c28b0 : (t385 == (rd l2 x63_2)) = false := beq_eq_false_iff_ne.mpr c28
           have c28b1 : (t385 != (rd l2 x63_2)) = true := bne_iff_ne.mpr c28
           obtain rfl := Option.some.inj H
           exact absurd hr_.out (by decide)
         ·rw [if_neg c26] at H
          exact absurd H (by simp)
        ·rw [if_neg c25] at H
         exact absurd H (by simp)
       ·rw [if_neg c24] at H
        have c24b0 : decide (x63_2 < (l2.length : Int)) = false := decide_eq_false c24
        clear c24
        by_cases c32 : x15_2 = (wrap64 ((y381.length : Int) - (l1.length : Int)))
        ·rw [if_pos c32] at H
         have c32b0 : (x15_2 == (wrap64 ((y381.length : Int) - (l1.length : Int)))) = true := beq_iff_eq.mpr c32
         have c32b1 : (x15_2 != (wrap64 ((y381.length : Int) - (l1.length : Int)))) = false := bne_eq_false_iff_eq.mpr c32
         clear c32
         replace H := Option.bind_eq_some_iff.mp H
         obtain ⟨t388, A330, H⟩ := H
         replace H : (if t388.length + l1.length < 140737488355328 then (palletlaw02_WireBack.l1 k2 l0 l1 l2 a4 a5 t373 (t388 ++ l1) (l0.length : Int) l3 (l3.length : Int) 0) else (none)) = some r := H
         have A33 := Aside0.mk A330
         clear A330
         by_cases c34 : t388.length + l1.length < 140737488355328
         ·rw [if_pos c34] at H
          have LMc34 := Aside0.mk c34
          clear c34
          obtain ⟨y391, hy391⟩ : ∃ y_ : List Int, y_ = (t388 ++ l1) := ⟨_, rfl⟩
          replace H : (palletlaw02_WireBack.l1 k2 l0 l1 l2 a4 a5 t373 y391 (l0.length : Int) l3 (l3.length : Int) 0) = some r := by first | (rw [hy391]; with_reducible exact H) | (have H2_ := (Option.bind_some _ _).symm.trans H; rw [hy391]; with_reducible exact H2_) | (have H2_ := (Option.bind_some _ _).symm.trans H; with_reducible exact H2_) | with_reducible exact H | (rw [hy391]; exact H) | exact H
          have Ny391 := Aside0.mk hy391
          clear hy391
          have H' := Aside0.mk H
          clear H
          obtain ⟨Ao35, co35, eo35⟩ := Kd.R_slice HO_14.out
          subst eo35
          go_wp2_with (first | ((with_reducible refine gate_callee (f := 17) rfl ?_); refine goesL_ (some 92) rfl rfl Try.func17 (by kernel_rfl) rfl #[.slice A0 l0.length c0, .slice A3 l3.length c3] rfl (by (try simp only [List.map_toArray, List.map_cons, List.map_nil]); first | done | rfl | (simp only [List.length_drop, List.length_take]; rfl)) ?_; (with_reducible refine (wire_Sign.calls k2 _ _ l0 _ _ l3 t388 _ ?side1 ?side2 ?side3 ?side4 A33.out).mono ?_); (case side1 => repeat (first | exact (Kd.V_reads' HO_0.out).2.2 | (with_reducible refine Kd.C_alloc ?_ _) | (with_reducible refine Kd.C_drewN ?_ _) | (with_reducible refine Kd.C_drew ?_))); (case side2 => exact (Kd.V_reads' HO_0.out).2.1); (case side3 => repeat (first | exact (Kd.C_below HR3.out HB.out) | (with_reducible refine Kd.C_alloc ?_ _) | (with_reducible refine Kd.C_drewN ?_ _) | (with_reducible refine Kd.C_drew ?_))); (case side4 => exact HC3.out); rintro e w36 ⟨v389, rfl, ho0, hb⟩; refine ⟨_, rfl, ?_⟩; have n0_ := Aside0.mk (Kd.V_elder' (by (with_reducible repeat (first | apply Kd.V_alloc | apply Kd.V_drewN | apply Kd.V_drew)); exact HO_0.out) (Kd.R_base ho0) hb); have n1_ := Aside0.mk (Kd.V_elder' (by (with_reducible repeat (first | apply Kd.V_alloc | apply Kd.V_drewN | apply Kd.V_drew)); exact HO_1.out) (Kd.R_base ho0) hb); have n2_ := Aside0.mk (Kd.R_elder' (by (with_reducible repeat (first | apply Kd.R_alloc | apply Kd.R_drewN | apply Kd.R_drew)); exact HO_14.out) (Kd.R_base ho0) hb); have n3_ := Aside0.mk (Kd.R_lower (Kd.R_new' (Kd.R_newM (M := fun k_ => (w.heap.size ≤ k_)) ho0 (below_size (by repeat (first | (with_reducible first | exact HB.out | apply below_alloc | apply pw_below_drewN | apply below_drew1) | exact HB.out))) (fun k_ h_ => h_)) (Kd.R_lt (by (with_reducible repeat (first | apply Kd.R_alloc | apply Kd.R_drewN | apply Kd.R_drew)); exact HO_14.out))) (below_size (by repeat (first | (with_reducible first | exact HB.out | apply below_alloc | apply pw_below_drewN | apply below_drew1) | exact HB.out)))); have n4_ := Aside0.mk (below_step (by repeat (first | (with_reducible first | exact HB.out | apply below_alloc | apply pw_below_drewN | apply below_drew1) | exact HB.out)) hb); clear HO_0; clear HO_1; clear HO_14; clear HB; have HO_0 := n0_; have HO_1 := n1_; have HO_14 := n2_; have HO390 := n3_; have HB := n4_; clear n0_ n1_ n2_ n3_ n4_; (try clear hb); (try clear hb2); (try clear hk); (try clear hi); (try clear ho0); obtain ⟨Ao38, co38, eo38⟩ := Kd.R_slice HO390.out; subst eo38) | ((with_reducible refine gate_builtin (b := .append) (xs := #[.tmp 92, .tmp 93]) rfl ?_); (try (refine gate_guard (by rfl) ?_; dsimp only)); at_builtin; refine Kd.R_append_rows (Kd.int .u8) (w0 := w) w.heap.size rfl (.tmp 92) (.tmp 93) 24 5 (.int .u8 0) 1 rfl Try.underlying24 info5 rfl (by decide) (by omega) (.slice Ao38 t388.length co38) t388 l1 _ _ _ (fun k_ => (w.heap.size ≤ k_) ∧ some k_ ≠ (.slice Ao35 y381.length co35 : Value).ownBlock) (fun _ => False) rfl rfl ?aO ?aR (fun _ _ h => h) (fun _ h => h.elim) ?aF ?aB ?aS ?aL ?_; (case aR => repeat (first | exact (Kd.V_reads' HO_1.out).2.2 | (with_reducible refine Kd.C_alloc ?_ _) | (with_reducible refine Kd.C_drewN ?_ _) | (with_reducible refine Kd.C_drew ?_))); (case aB => exact (by repeat (first | (with_reducible first | exact HB.out | apply below_alloc | apply pw_below_drewN | apply below_drew1) | exact HB.out))); (case aF => exact (fun k_ hk => ⟨(Nat.le_trans (below_size (by repeat (first | (with_reducible first | exact HB.out | apply below_alloc | apply pw_below_drewN | apply below_drew1) | exact HB.out))) hk), Kd.fresh' (Kd.R_lt (by (with_reducible repeat (first | apply Kd.R_alloc | apply Kd.R_drewN | apply Kd.R_drew)); exact HO_14.out)) k_ hk⟩)); (case aO => exact (by (with_reducible repeat (first | apply Kd.R_alloc | apply Kd.R_drewN | apply Kd.R_drew)); exact Kd.R_mono HO390.out (fun _ hk => ⟨hk.1.1, hk.2⟩))); (case aS => exact (below_size (by repeat (first | (with_reducible first | exact HB.out | apply below_alloc | apply pw_below_drewN | apply below_drew1) | exact HB.out)))); (case aL => have := LMc34.out; omega); intro v392 w37 ho hb hg hat; rw [← Ny391.out] at ho; have n0_ := Aside0.mk (Kd.V_afterv (ok := (fun k_ => ((P0_ k_ ∨ P1_ k_) ∨ w.heap.size ≤ k_) ∧ some k_ ≠ (.slice Ao35 y381.length co35 : Value).ownBlock)) (by (with_reducible repeat (first | apply Kd.V_alloc | apply Kd.V_drewN | apply Kd.V_drew)); exact HO_0.out) hg hat); have n1_ := Aside0.mk (Kd.V_afterv (ok := (fun k_ => ((P0_ k_ ∨ P1_ k_) ∨ w.heap.size ≤ k_) ∧ some k_ ≠ (.slice Ao35 y381.length co35 : Value).ownBlock)) (by (with_reducible repeat (first | apply Kd.V_alloc | apply Kd.V_drewN | apply Kd.V_drew)); exact HO_1.out) hg hat); have n2_ := Aside0.mk (Kd.R_after (ok := (fun k_ => (w.heap.size ≤ k_))) (by (with_reducible repeat (first | apply Kd.R_alloc | apply Kd.R_drewN | apply Kd.R_drew)); exact HO_14.out) hg hat); have n3_ := Aside0.mk (hb); have n4_ := Aside0.mk (ho); clear HO_0; clear HO_1; clear HO_14; clear HB; clear HO390; have HO_0 := n0_; have HO_1 := n1_; have HO_14 := n2_; have HB := n3_; have HO393 := n4_; clear n0_ n1_ n2_ n3_ n4_; clear ho hb hg hat))
          go_loopg [15, 99] k2 (fun kq v15 v99 w' => ∃ (x15_3 : Int) (x99_3 : Int), v15 = .int .i64 x15_3 ∧ v99 = .int .i64 x99_3 ∧ Aside0 (palletlaw02_WireBack.l1 kq l0 l1 l2 a4 a5 t373 y391 x15_3 l3 (l3.length : Int) x99_3 = some r) ∧ Aside0 (kq ≤ k2) ∧ Aside0 (Kd.V (Kd.int .u8) 5 w' w.heap.size (fun k_ => ((P0_ k_ ∨ P1_ k_) ∨ w.heap.size ≤ k_) ∧ some k_ ≠ (v392 : Value).ownBlock) (.slice A0 l0.length c0) l0) ∧ Aside0 (Kd.V (Kd.int .u8) 5 w' w.heap.size (fun k_ => ((P0_ k_ ∨ P1_ k_) ∨ w.heap.size ≤ k_) ∧ some k_ ≠ (v392 : Value).ownBlock) (.slice A1 l1.length c1) l1) ∧ Aside0 (Kd.R (Kd.int .u8) 5 w' w.heap.size (fun k_ => (w.heap.size ≤ k_)) v392 y391) ∧ Aside0 (Below w.heap.size w w'))
          case atStart => exact ⟨((l0.length : Int)), (0), (by first | rfl | (simp; done) | (simp [*]; done)), (by first | rfl | (simp; done) | (simp [*]; done)), H', ⟨Nat.le_refl _⟩, ⟨by (with_reducible repeat (first | apply Kd.V_alloc | apply Kd.V_drewN | apply Kd.V_drew)); exact Kd.V_mono HO_0.out (fun _ hk => ⟨hk.1.1, hk.2⟩)⟩, ⟨by (with_reducible repeat (first | apply Kd.V_alloc | apply Kd.V_drewN | apply Kd.V_drew)); exact Kd.V_mono HO_1.out (fun _ hk => ⟨hk.1.1, hk.2⟩)⟩, ⟨by (with_reducible repeat (first | apply Kd.R_alloc | apply Kd.R_drewN | apply Kd.R_drew)); exact Kd.R_mono HO393.out (fun _ hk => hk.1)⟩, ⟨by repeat (first | (with_reducible first | exact HB.out | apply below_alloc | apply pw_below_drewN | apply below_drew1) | exact HB.out)⟩⟩
          case round =>
           clear H'
           try clear c1
           try clear c2
           try clear p2
           try clear c3
           try clear p3
           try clear q3
           try clear hx3
           try clear c6
           try clear p6
           try clear c8
           try clear c9
           try clear c11
           try clear c12
           try clear c17
           try clear c18
           try clear c20
           try clear c21
           try clear c24
           try clear c24b0
           try clear c25
           try clear c25b0
           try clear c26
           try clear c26b0
           try clear c28
           try clear c28b0
           try clear c28b1
           try clear c29
           try clear c29b0
           try clear c29b1
           try clear c32
           try clear c32b0
           try clear c32b1
           try clear c34
           try clear p38
           try clear q38
           try clear hx38
           try clear hx384_0
           try clear p2
           try clear p384
           try clear p6
           try clear q384
           obtain ⟨x15_3, x99_3, rfl, rfl, HA, HK3, HO_0, HO_1, HO_14, HB⟩ := hrel
           cases gk with
           | zero => exact absurd HA.out (by simp [palletlaw02_WireBack.l1])
           | succ k3 =>
            have H := HA.out
            clear HA
            simp only [palletlaw02_WireBack.l1] at H
            by_cases c39 : x99_3 < (l3.length : Int)
            ·rw [if_pos c39] at H
             have c39b0 : decide (x99_3 < (l3.length : Int)) = true := decide_eq_true c39
             clear c39
             by_cases c40 : 0 ≤ x99_3
             ·rw [if_pos c40] at H
              have c40b0 : decide (0 ≤ x99_3) = true := decide_eq_true c40
              clear c40
              by_cases c41 : x99_3 < (l3.length : Int)
              ·rw [if_pos c41] at H
               have c41b0 : decide (x99_3 < (l3.length : Int)) = true := decide_eq_true c41
               clear c41
               replace H := Option.bind_eq_some_iff.mp H
               obtain ⟨⟨t395, t396, t397⟩, A420, H⟩ := H
               replace H : (if t395 = (rd l3 x99_3) then (if t397 = 0 then (palletlaw02_WireBack.l1 k3 l0 l1 l2 a4 a5 t373 y391 t396 l3 (l3.length : Int) (wrap64 (x99_3 + 1))) else (some false)) else (some false)) = some r := H
               have A42 := Aside0.mk A420
               clear A420
               by_cases c43 : t395 = (rd l3 x99_3)
               ·rw [if_pos c43] at H
                have c43b0 : (t395 == (rd l3 x99_3)) = true := beq_iff_eq.mpr c43
                have c43b1 : (t395 != (rd l3 x99_3)) = false := bne_eq_false_iff_eq.mpr c43
                clear c43
                by_cases c44 : t397 = 0
                ·rw [if_pos c44] at H
                 have c44b0 : (t397 == 0) = true := beq_iff_eq.mpr c44
                 have c44b1 : (t397 != 0) = false := bne_eq_false_iff_eq.mpr c44
                 clear c44
                 have H' := Aside0.mk H
                 clear H
                 have p394 : 0 ≤ (x99_3 : Int) := of_decide_eq_true (by first | (with_reducible assumption) | assumption)
                 have q394 : x99_3 < (l3.length : Int) := of_decide_eq_true (by first | (with_reducible assumption) | assumption)
                 obtain ⟨ad394, e394, hx394_0⟩ := Kd.at_int HR3.out x99_3 p394 q394
                 cases e394
                 replace hx394_0 := (HB.out.cell (World.block_lt_of_cell? w _ hx394_0)).trans hx394_0
                 replace p394 := eq_true p394
                 replace q394 := eq_true q394
                 obtain ⟨Ao45, co45, eo45⟩ := Kd.R_slice HO_14.out
                 subst eo45
                 go_wp2_with (first | ((with_reducible refine gate_callee (f := 22) rfl ?_); refine goesL_ (some 106) rfl rfl Try.func22 (by kernel_rfl) rfl #[.slice Ao45 y391.length co45, .int .i64 x15_3] rfl (by (try simp only [List.map_toArray, List.map_cons, List.map_nil]); first | done | rfl | (simp only [List.length_drop, List.length_take]; rfl)) ?_; (with_reducible refine (wire_TakeSign.calls k3 _ _ y391 x15_3 t395 t396 t397 _ ?side1 ?side2 A42.out).mono ?_); (case side1 => repeat (first | exact (Kd.R_reads' HO_14.out).2.2 | (with_reducible refine Kd.C_alloc ?_ _) | (with_reducible refine Kd.C_drewN ?_ _) | (with_reducible refine Kd.C_drew ?_))); (case side2 => exact (Kd.R_reads' HO_14.out).2.1); rintro e w46 ⟨rfl, hb⟩; refine ⟨_, rfl, ?_⟩; have n0_ := Aside0.mk (Kd.V_below (by (with_reducible repeat (first | apply Kd.V_alloc | apply Kd.V_drewN | apply Kd.V_drew)); exact HO_0.out) hb); have n1_ := Aside0.mk (Kd.V_below (by (with_reducible repeat (first | apply Kd.V_alloc | apply Kd.V_drewN | apply Kd.V_drew)); exact HO_1.out) hb); have n2_ := Aside0.mk (Kd.R_below (by (with_reducible repeat (first | apply Kd.R_alloc | apply Kd.R_drewN | apply Kd.R_drew)); exact HO_14.out) hb); have n3_ := Aside0.mk (below_step (by repeat (first | (with_reducible first | exact HB.out | apply below_alloc | apply pw_below_drewN | apply below_drew1) | exact HB.out)) hb); clear HO_0; clear HO_1; clear HO_14; clear HB; have HO_0 := n0_; have HO_1 := n1_; have HO_14 := n2_; have HB := n3_; clear n0_ n1_ n2_ n3_; (try clear hb); (try clear hb2); (try clear hk); (try clear hi)))
                 go_roundg k3
                 case measure => have := HJ7.out; have := HK2.out; have := HK3.out; omega
                 case rel => exact ⟨(t396), (wrap64 (x99_3 + 1)), (by first | rfl | (simp; done) | (simp [*]; done)), (by first | rfl | (simp; done) | (simp [*]; done)), H', ⟨by have := HJ7.out; have := HK2.out; have := HK3.out; omega⟩, ⟨by (with_reducible repeat (first | apply Kd.V_alloc | apply Kd.V_drewN | apply Kd.V_drew)); exact HO_0.out⟩, ⟨by (with_reducible repeat (first | apply Kd.V_alloc | apply Kd.V_drewN | apply Kd.V_drew)); exact HO_1.out⟩, ⟨by (with_reducible repeat (first | apply Kd.R_alloc | apply Kd.R_drewN | apply Kd.R_drew)); exact HO_14.out⟩, ⟨by repeat (first | (with_reducible first | exact HB.out | apply below_alloc | apply pw_below_drewN | apply below_drew1) | exact HB.out)⟩⟩
                ·rw [if_neg c44] at H
                 have c44b0 : (t397 == 0) = false := beq_eq_false_iff_ne.mpr c44
                 have c44b1 : (t397 != 0) = true := bne_iff_ne.mpr c44
                 obtain rfl := Option.some.inj H
                 exact absurd hr_.out (by decide)
               ·rw [if_neg c43] at H
                have c43b0 : (t395 == (rd l3 x99_3)) = false := beq_eq_false_iff_ne.mpr c43
                have c43b1 : (t395 != (rd l3 x99_3)) = true := bne_iff_ne.mpr c43
                obtain rfl := Option.some.inj H
                exact absurd hr_.out (by decide)
              ·rw [if_neg c41] at H
               exact absurd H (by simp)
             ·rw [if_neg c40] at H
              exact absurd H (by simp)
            ·rw [if_neg c39] at H
             have c39b0 : decide (x99_3 < (l3.length : Int)) = false := decide_eq_false c39
             clear c39
             replace H := Option.bind_eq_some_iff.mp H
             obtain ⟨⟨t398, t399⟩, A470, H⟩ := H
             replace H : (if t398.length + l1.length < 140737488355328 then ((wire_TakeRecord.f k3 (t398 ++ l1) (l0.length : Int)).bind fun bt405 => (if t399 = 0 then (if bt405.2.2.2 = 0 then (if bt405.1 = a4 then ((palletref02_Same.f bt405.2.1 l1).bind fun t411 => (if t411 = true then (palletlaw02_WireBack.j3 k3 l0 l1 l2 a5 t373 y391 x15_3 (bt405.2.2.1 != (t398.length : Int))) else (palletlaw02_WireBack.j3 k3 l0 l1 l2 a5 t373 y391 x15_3 true))) else (palletlaw02_WireBack.j3 k3 l0 l1 l2 a5 t373 y391 x15_3 true)) else (palletlaw02_WireBack.j3 k3 l0 l1 l2 a5 t373 y391 x15_3 true)) else (palletlaw02_WireBack.j3 k3 l0 l1 l2 a5 t373 y391 x15_3 true))) else (none)) = some r := H
             have A47 := Aside0.mk A470
             clear A470
             by_cases c48 : t398.length + l1.length < 140737488355328
             ·rw [if_pos c48] at H
              have LMc48 := Aside0.mk c48
              clear c48
              obtain ⟨y402, hy402⟩ : ∃ y_ : List Int, y_ = (t398 ++ l1) := ⟨_, rfl⟩
              replace H : ((wire_TakeRecord.f k3 y402 (l0.length : Int)).bind fun bt405 => (if t399 = 0 then (if bt405.2.2.2 = 0 then (if bt405.1 = a4 then ((palletref02_Same.f bt405.2.1 l1).bind fun t411 => (if t411 = true then (palletlaw02_WireBack.j3 k3 l0 l1 l2 a5 t373 y391 x15_3 (bt405.2.2.1 != (t398.length : Int))) else (palletlaw02_WireBack.j3 k3 l0 l1 l2 a5 t373 y391 x15_3 true))) else (palletlaw02_WireBack.j3 k3 l0 l1 l2 a5 t373 y391 x15_3 true)) else (palletlaw02_WireBack.j3 k3 l0 l1 l2 a5 t373 y391 x15_3 true)) else (palletlaw02_WireBack.j3 k3 l0 l1 l2 a5 t373 y391 x15_3 true))) = some r := by first | (rw [hy402]; with_reducible exact H) | (have H2_ := (Option.bind_some _ _).symm.trans H; rw [hy402]; with_reducible exact H2_) | (have H2_ := (Option.bind_some _ _).symm.trans H; with_reducible exact H2_) | with_reducible exact H | (rw [hy402]; exact H) | exact H
              have Ny402 := Aside0.mk hy402
              clear hy402
              replace H := Option.bind_eq_some_iff.mp H
              obtain ⟨⟨t405, t406, t407, t408⟩, A490, H⟩ := H
              replace H : (if t399 = 0 then (if t408 = 0 then (if t405 = a4 then ((palletref02_Same.f t406 l1).bind fun t411 => (if t411 = true then (palletlaw02_WireBack.j3 k3 l0 l1 l2 a5 t373 y391 x15_3 (t407 != (t398.length : Int))) else (palletlaw02_WireBack.j3 k3 l0 l1 l2 a5 t373 y391 x15_3 true))) else (palletlaw02_WireBack.j3 k3 l0 l1 l2 a5 t373 y391 x15_3 true)) else (palletlaw02_WireBack.j3 k3 l0 l1 l2 a5 t373 y391 x15_3 true)) else (palletlaw02_WireBack.j3 k3 l0 l1 l2 a5 t373 y391 x15_3 true)) = some r := H
              have A49 := Aside0.mk A490
              clear A490
              have HC50 := Aside0.mk H
              clear H
              go_upto_region 28 with (first | ((with_reducible refine gate_callee (f := 14) rfl ?_); refine goesL_ (some 123) rfl rfl Try.func14 (by kernel_rfl) rfl #[.slice A0 l0.length c0, .int .u8 a4, .slice A1 l1.length c1] rfl (by (try simp only [List.map_toArray, List.map_cons, List.map_nil]); first | done | rfl | (simp only [List.length_drop, List.length_take]; rfl)) ?_; (with_reducible refine (wire_Record.calls k3 _ _ l0 a4 _ _ l1 t398 t399 _ ?side1 ?side2 ?side3 ?side4 A47.out).mono ?_); (case side1 => repeat (first | exact (Kd.V_reads' HO_0.out).2.2 | (with_reducible refine Kd.C_alloc ?_ _) | (with_reducible refine Kd.C_drewN ?_ _) | (with_reducible refine Kd.C_drew ?_))); (case side2 => exact (Kd.V_reads' HO_0.out).2.1); (case side3 => repeat (first | exact (Kd.V_reads' HO_1.out).2.2 | (with_reducible refine Kd.C_alloc ?_ _) | (with_reducible refine Kd.C_drewN ?_ _) | (with_reducible refine Kd.C_drew ?_))); (case side4 => exact (Kd.V_reads' HO_1.out).2.1); rintro e w51 ⟨v400, rfl, ho0, hb⟩; refine ⟨_, rfl, ?_⟩; have n0_ := Aside0.mk (Kd.V_elder' (by (with_reducible repeat (first | apply Kd.V_alloc | apply Kd.V_drewN | apply Kd.V_drew)); exact HO_0.out) (Kd.R_base ho0) hb); have n1_ := Aside0.mk (Kd.V_elder' (by (with_reducible repeat (first | apply Kd.V_alloc | apply Kd.V_drewN | apply Kd.V_drew)); exact HO_1.out) (Kd.R_base ho0) hb); have n2_ := Aside0.mk (Kd.R_elder' (by (with_reducible repeat (first | apply Kd.R_alloc | apply Kd.R_drewN | apply Kd.R_drew)); exact HO_14.out) (Kd.R_base ho0) hb); have n3_ := Aside0.mk (Kd.R_lower (Kd.R_new' (Kd.R_newM (M := fun k_ => (w.heap.size ≤ k_)) ho0 (below_size (by repeat (first | (with_reducible first | exact HB.out | apply below_alloc | apply pw_below_drewN | apply below_drew1) | exact HB.out))) (fun k_ h_ => h_)) (Kd.R_lt (by (with_reducible repeat (first | apply Kd.R_alloc | apply Kd.R_drewN | apply Kd.R_drew)); exact HO_14.out))) (below_size (by repeat (first | (with_reducible first | exact HB.out | apply below_alloc | apply pw_below_drewN | apply below_drew1) | exact HB.out)))); have n4_ := Aside0.mk (below_step (by repeat (first | (with_reducible first | exact HB.out | apply below_alloc | apply pw_below_drewN | apply below_drew1) | exact HB.out)) hb); clear HO_0; clear HO_1; clear HO_14; clear HB; have HO_0 := n0_; have HO_1 := n1_; have HO_14 := n2_; have HO401 := n3_; have HB := n4_; clear n0_ n1_ n2_ n3_ n4_; (try clear hb); (try clear hb2); (try clear hk); (try clear hi); (try clear ho0); obtain ⟨Ao53, co53, eo53⟩ := Kd.R_slice HO401.out; subst eo53) | ((with_reducible refine gate_builtin (b := .append) (xs := #[.tmp 127, .tmp 128]) rfl ?_); (try (refine gate_guard (by rfl) ?_; dsimp only)); at_builtin; refine Kd.R_append_rows (Kd.int .u8) (w0 := w) w.heap.size rfl (.tmp 127) (.tmp 128) 24 5 (.int .u8 0) 1 rfl Try.underlying24 info5 rfl (by decide) (by omega) (.slice Ao53 t398.length co53) t398 l1 _ _ _ (fun k_ => (w.heap.size ≤ k_) ∧ some k_ ≠ (v392 : Value).ownBlock) (fun _ => False) rfl rfl ?aO ?aR (fun _ _ h => h) (fun _ h => h.elim) ?aF ?aB ?aS ?aL ?_; (case aR => repeat (first | exact (Kd.V_reads' HO_1.out).2.2 | (with_reducible refine Kd.C_alloc ?_ _) | (with_reducible refine Kd.C_drewN ?_ _) | (with_reducible refine Kd.C_drew ?_))); (case aB => exact (by repeat (first | (with_reducible first | exact HB.out | apply below_alloc | apply pw_below_drewN | apply below_drew1) | exact HB.out))); (case aF => exact (fun k_ hk => ⟨(Nat.le_trans (below_size (by repeat (first | (with_reducible first | exact HB.out | apply below_alloc | apply pw_below_drewN | apply below_drew1) | exact HB.out))) hk), Kd.fresh' (Kd.R_lt (by (with_reducible repeat (first | apply Kd.R_alloc | apply Kd.R_drewN | apply Kd.R_drew)); exact HO_14.out)) k_ hk⟩)); (case aO => exact (by (with_reducible repeat (first | apply Kd.R_alloc | apply Kd.R_drewN | apply Kd.R_drew)); exact Kd.R_mono HO401.out (fun _ hk => ⟨hk.1.1, hk.2⟩))); (case aS => exact (below_size (by repeat (first | (with_reducible first | exact HB.out | apply below_alloc | apply pw_below_drewN | apply below_drew1) | exact HB.out)))); (case aL => have := LMc48.out; omega); intro v403 w52 ho hb hg hat; rw [← Ny402.out] at ho; have n0_ := Aside0.mk (Kd.V_afterv (ok := (fun k_ => ((P0_ k_ ∨ P1_ k_) ∨ w.heap.size ≤ k_) ∧ some k_ ≠ (v392 : Value).ownBlock)) (by (with_reducible repeat (first | apply Kd.V_alloc | apply Kd.V_drewN | apply Kd.V_drew)); exact HO_0.out) hg hat); have n1_ := Aside0.mk (Kd.V_afterv (ok := (fun k_ => ((P0_ k_ ∨ P1_ k_) ∨ w.heap.size ≤ k_) ∧ some k_ ≠ (v392 : Value).ownBlock)) (by (with_reducible repeat (first | apply Kd.V_alloc | apply Kd.V_drewN | apply Kd.V_drew)); exact HO_1.out) hg hat); have n2_ := Aside0.mk (Kd.R_after (ok := (fun k_ => (w.heap.size ≤ k_))) (by (with_reducible repeat (first | apply Kd.R_alloc | apply Kd.R_drewN | apply Kd.R_drew)); exact HO_14.out) hg hat); have n3_ := Aside0.mk (hb); have n4_ := Aside0.mk (ho); clear HO_0; clear HO_1; clear HO_14; clear HB; clear HO401; have HO_0 := n0_; have HO_1 := n1_; have HO_14 := n2_; have HB := n3_; have HO404 := n4_; clear n0_ n1_ n2_ n3_ n4_; clear ho hb hg hat; obtain ⟨Ao54, co54, eo54⟩ := Kd.R_slice HO404.out; subst eo54) | ((with_reducible refine gate_callee (f := 23) rfl ?_); refine goesL_ (some 132) rfl rfl Try.func23 (by kernel_rfl) rfl #[.slice Ao54 y402.length co54, .int .i64 (l0.length : Int)] rfl (by (try simp only [List.map_toArray, List.map_cons, List.map_nil]); first | done | rfl | (simp only [List.length_drop, List.length_take]; rfl)) ?_; (with_reducible refine (wire_TakeRecord.calls k3 _ _ y402 (l0.length : Int) t405 t406 t407 t408 _ ?side1 ?side2 A49.out).mono ?_); (case side1 => repeat (first | exact (Kd.R_reads' HO404.out).2.2 | (with_reducible refine Kd.C_alloc ?_ _) | (with_reducible refine Kd.C_drewN ?_ _) | (with_reducible refine Kd.C_drew ?_))); (case side2 => exact (Kd.R_reads' HO404.out).2.1); rintro e w55 ⟨v409, rfl, ho0, hb⟩; refine ⟨_, rfl, ?_⟩; have n0_ := Aside0.mk (Kd.V_elder' (by (with_reducible repeat (first | apply Kd.V_alloc | apply Kd.V_drewN | apply Kd.V_drew)); exact HO_0.out) (Kd.R_base ho0) hb); have n1_ := Aside0.mk (Kd.V_elder' (by (with_reducible repeat (first | apply Kd.V_alloc | apply Kd.V_drewN | apply Kd.V_drew)); exact HO_1.out) (Kd.R_base ho0) hb); have n2_ := Aside0.mk (Kd.R_elder' (by (with_reducible repeat (first | apply Kd.R_alloc | apply Kd.R_drewN | apply Kd.R_drew)); exact HO_14.out) (Kd.R_base ho0) hb); have n3_ := Aside0.mk (Kd.R_elder' (by (with_reducible repeat (first | apply Kd.R_alloc | apply Kd.R_drewN | apply Kd.R_drew)); exact HO404.out) (Kd.R_base ho0) hb); have n4_ := Aside0.mk (Kd.R_lower (Kd.R_new' (Kd.R_new' (Kd.R_newM (M := fun k_ => (w.heap.size ≤ k_)) ho0 (below_size (by repeat (first | (with_reducible first | exact HB.out | apply below_alloc | apply pw_below_drewN | apply below_drew1) | exact HB.out))) (fun k_ h_ => h_)) (Kd.R_lt (by (with_reducible repeat (first | apply Kd.R_alloc | apply Kd.R_drewN | apply Kd.R_drew)); exact HO_14.out))) (Kd.R_lt (by (with_reducible repeat (first | apply Kd.R_alloc | apply Kd.R_drewN | apply Kd.R_drew)); exact HO404.out))) (below_size (by repeat (first | (with_reducible first | exact HB.out | apply below_alloc | apply pw_below_drewN | apply below_drew1) | exact HB.out)))); have n5_ := Aside0.mk (below_step (by repeat (first | (with_reducible first | exact HB.out | apply below_alloc | apply pw_below_drewN | apply below_drew1) | exact HB.out)) hb); clear HO_0; clear HO_1; clear HO_14; clear HO404; clear HB; have HO_0 := n0_; have HO_1 := n1_; have HO_14 := n2_; have HO404 := n3_; have HO410 := n4_; have HB := n5_; clear n0_ n1_ n2_ n3_ n4_ n5_; (try clear hb); (try clear hb2); (try clear hk); (try clear hi); (try clear ho0)))
              (try simp only [Act.put, List.setIfInBounds_toArray, List.set_cons_zero, List.set_cons_succ])
              go_cut [159] (fun v159 wc => ∃ (kq : Nat) (x159_49 : Bool), v159 = .bool x159_49 ∧ Aside0 (palletlaw02_WireBack.j3 kq l0 l1 l2 a5 t373 y391 x15_3 x159_49 = some r) ∧ Aside0 (kq ≤ k3) ∧ Aside0 (Kd.V (Kd.int .u8) 5 wc w.heap.size (fun k_ => ((P0_ k_ ∨ P1_ k_) ∨ w.heap.size ≤ k_) ∧ some k_ ≠ (v392 : Value).ownBlock) (.slice A0 l0.length c0) l0) ∧ Aside0 (Kd.V (Kd.int .u8) 5 wc w.heap.size (fun k_ => ((P0_ k_ ∨ P1_ k_) ∨ w.heap.size ≤ k_) ∧ some k_ ≠ (v392 : Value).ownBlock) (.slice A1 l1.length c1) l1) ∧ Aside0 (Kd.R (Kd.int .u8) 5 wc w.heap.size (fun k_ => (w.heap.size ≤ k_)) v392 y391) ∧ Aside0 (Below w.heap.size w wc))
              case first =>
               have H := HC50.out
               clear HC50
               by_cases c56 : t399 = 0
               ·rw [if_pos c56] at H
                have c56b0 : (t399 == 0) = true := beq_iff_eq.mpr c56
                have c56b1 : (t399 != 0) = false := bne_eq_false_iff_eq.mpr c56
                clear c56
                (first | rw [c56b0] | (simp only [i64_w, i32_w]; rw [c56b0]) | skip)
                by_cases c57 : t408 = 0
                ·rw [if_pos c57] at H
                 have c57b0 : (t408 == 0) = true := beq_iff_eq.mpr c57
                 have c57b1 : (t408 != 0) = false := bne_eq_false_iff_eq.mpr c57
                 clear c57
                 by_cases c58 : t405 = a4
                 ·rw [if_pos c58] at H
                  have c58b0 : (t405 == a4) = true := beq_iff_eq.mpr c58
                  have c58b1 : (t405 != a4) = false := bne_eq_false_iff_eq.mpr c58
                  clear c58
                  replace H := Option.bind_eq_some_iff.mp H
                  obtain ⟨t411, A590, H⟩ := H
                  replace H : (if t411 = true then (palletlaw02_WireBack.j3 k3 l0 l1 l2 a5 t373 y391 x15_3 (t407 != (t398.length : Int))) else (palletlaw02_WireBack.j3 k3 l0 l1 l2 a5 t373 y391 x15_3 true)) = some r := H
                  have A59 := Aside0.mk A590
                  clear A590
                  by_cases c60 : t411 = true
                  ·subst c60
                   have H1 : (palletlaw02_WireBack.j3 k3 l0 l1 l2 a5 t373 y391 x15_3 (t407 != (t398.length : Int))) = some r := by rw [if_pos rfl] at H; exact H
                   clear H
                   have H := H1
                   clear H1
                   have H' := Aside0.mk H
                   clear H
                   obtain ⟨Ao61, co61, eo61⟩ := Kd.R_slice HO410.out
                   subst eo61
                   go_wp2_with (first | (go_at_call 11; (with_reducible refine (palletref02_Same.calls _ _ t406 _ _ l1 true _ ?side1 ?side2 ?side3 ?side4 A59.out).mono ?_); (case side1 => repeat (first | exact (Kd.R_reads' HO410.out).2.2 | (with_reducible refine Kd.C_alloc ?_ _) | (with_reducible refine Kd.C_drewN ?_ _) | (with_reducible refine Kd.C_drew ?_))); (case side2 => exact (Kd.R_reads' HO410.out).2.1); (case side3 => repeat (first | exact (Kd.V_reads' HO_1.out).2.2 | (with_reducible refine Kd.C_alloc ?_ _) | (with_reducible refine Kd.C_drewN ?_ _) | (with_reducible refine Kd.C_drew ?_))); (case side4 => exact (Kd.V_reads' HO_1.out).2.1); rintro e w' ⟨rfl, ⟨nd, rfl⟩⟩))
                   go_meet
                   case rel => exact ⟨_, ((t407 != (t398.length : Int))), (by first | rfl | (simp; done) | (simp [*]; done)), H', ⟨by have := HJ7.out; have := HK2.out; have := HK3.out; first | omega | exact Nat.le_refl _⟩, ⟨by (with_reducible repeat (first | apply Kd.V_alloc | apply Kd.V_drewN | apply Kd.V_drew)); exact Kd.V_mono HO_0.out (fun _ hk => ⟨hk.1.1.1, hk.1.1.2⟩)⟩, ⟨by (with_reducible repeat (first | apply Kd.V_alloc | apply Kd.V_drewN | apply Kd.V_drew)); exact Kd.V_mono HO_1.out (fun _ hk => ⟨hk.1.1.1, hk.1.1.2⟩)⟩, ⟨by (with_reducible repeat (first | apply Kd.R_alloc | apply Kd.R_drewN | apply Kd.R_drew)); exact Kd.R_mono HO_14.out (fun _ hk => hk.1.1)⟩, ⟨by repeat (first | (with_reducible first | exact HB.out | apply below_alloc | apply pw_below_drewN | apply below_drew1) | exact HB.out)⟩⟩
                  ·replace c60 := Bool.eq_false_iff.mpr c60
                   subst c60
                   have H1 : (palletlaw02_WireBack.j3 k3 l0 l1 l2 a5 t373 y391 x15_3 true) = some r := by rw [if_neg (show ¬ (false = true) by decide)] at H; exact H
                   clear H
                   have H := H1
                   clear H1
                   have H' := Aside0.mk H
                   clear H
                   obtain ⟨Ao62, co62, eo62⟩ := Kd.R_slice HO410.out
                   subst eo62
                   go_wp2_with (first | (go_at_call 11; (with_reducible refine (palletref02_Same.calls _ _ t406 _ _ l1 false _ ?side1 ?side2 ?side3 ?side4 A59.out).mono ?_); (case side1 => repeat (first | exact (Kd.R_reads' HO410.out).2.2 | (with_reducible refine Kd.C_alloc ?_ _) | (with_reducible refine Kd.C_drewN ?_ _) | (with_reducible refine Kd.C_drew ?_))); (case side2 => exact (Kd.R_reads' HO410.out).2.1); (case side3 => repeat (first | exact (Kd.V_reads' HO_1.out).2.2 | (with_reducible refine Kd.C_alloc ?_ _) | (with_reducible refine Kd.C_drewN ?_ _) | (with_reducible refine Kd.C_drew ?_))); (case side4 => exact (Kd.V_reads' HO_1.out).2.1); rintro e w' ⟨rfl, ⟨nd, rfl⟩⟩))
                   go_meet
                   case rel => exact ⟨_, (true), (by first | rfl | (simp; done) | (simp [*]; done)), H', ⟨by have := HJ7.out; have := HK2.out; have := HK3.out; first | omega | exact Nat.le_refl _⟩, ⟨by (with_reducible repeat (first | apply Kd.V_alloc | apply Kd.V_drewN | apply Kd.V_drew)); exact Kd.V_mono HO_0.out (fun _ hk => ⟨hk.1.1.1, hk.1.1.2⟩)⟩, ⟨by (with_reducible repeat (first | apply Kd.V_alloc | apply Kd.V_drewN | apply Kd.V_drew)); exact Kd.V_mono HO_1.out (fun _ hk => ⟨hk.1.1.1, hk.1.1.2⟩)⟩, ⟨by (with_reducible repeat (first | apply Kd.R_alloc | apply Kd.R_drewN | apply Kd.R_drew)); exact Kd.R_mono HO_14.out (fun _ hk => hk.1.1)⟩, ⟨by repeat (first | (with_reducible first | exact HB.out | apply below_alloc | apply pw_below_drewN | apply below_drew1) | exact HB.out)⟩⟩
                 ·rw [if_neg c58] at H
                  have c58b0 : (t405 == a4) = false := beq_eq_false_iff_ne.mpr c58
                  have c58b1 : (t405 != a4) = true := bne_iff_ne.mpr c58
                  have H' := Aside0.mk H
                  clear H
                  go_wp2
                  go_meet
                  case rel => exact ⟨_, (true), (by first | rfl | (simp; done) | (simp [*]; done)), H', ⟨by have := HJ7.out; have := HK2.out; have := HK3.out; first | omega | exact Nat.le_refl _⟩, ⟨by (with_reducible repeat (first | apply Kd.V_alloc | apply Kd.V_drewN | apply Kd.V_drew)); exact Kd.V_mono HO_0.out (fun _ hk => ⟨hk.1.1.1, hk.1.1.2⟩)⟩, ⟨by (with_reducible repeat (first | apply Kd.V_alloc | apply Kd.V_drewN | apply Kd.V_drew)); exact Kd.V_mono HO_1.out (fun _ hk => ⟨hk.1.1.1, hk.1.1.2⟩)⟩, ⟨by (with_reducible repeat (first | apply Kd.R_alloc | apply Kd.R_drewN | apply Kd.R_drew)); exact Kd.R_mono HO_14.out (fun _ hk => hk.1.1)⟩, ⟨by repeat (first | (with_reducible first | exact HB.out | apply below_alloc | apply pw_below_drewN | apply below_drew1) | exact HB.out)⟩⟩
                ·rw [if_neg c57] at H
                 have c57b0 : (t408 == 0) = false := beq_eq_false_iff_ne.mpr c57
                 have c57b1 : (t408 != 0) = true := bne_iff_ne.mpr c57
                 have H' := Aside0.mk H
                 clear H
                 go_wp2
                 go_meet
                 case rel => exact ⟨_, (true), (by first | rfl | (simp; done) | (simp [*]; done)), H', ⟨by have := HJ7.out; have := HK2.out; have := HK3.out; first | omega | exact Nat.le_refl _⟩, ⟨by (with_reducible repeat (first | apply Kd.V_alloc | apply Kd.V_drewN | apply Kd.V_drew)); exact Kd.V_mono HO_0.out (fun _ hk => ⟨hk.1.1.1, hk.1.1.2⟩)⟩, ⟨by (with_reducible repeat (first | apply Kd.V_alloc | apply Kd.V_drewN | apply Kd.V_drew)); exact Kd.V_mono HO_1.out (fun _ hk => ⟨hk.1.1.1, hk.1.1.2⟩)⟩, ⟨by (with_reducible repeat (first | apply Kd.R_alloc | apply Kd.R_drewN | apply Kd.R_drew)); exact Kd.R_mono HO_14.out (fun _ hk => hk.1.1)⟩, ⟨by repeat (first | (with_reducible first | exact HB.out | apply below_alloc | apply pw_below_drewN | apply below_drew1) | exact HB.out)⟩⟩
               ·rw [if_neg c56] at H
                have c56b0 : (t399 == 0) = false := beq_eq_false_iff_ne.mpr c56
                have c56b1 : (t399 != 0) = true := bne_iff_ne.mpr c56
                (first | rw [c56b0] | (simp only [i64_w, i32_w]; rw [c56b0]) | skip)
                have H' := Aside0.mk H
                clear H
                go_wp2
                go_meet
                case rel => exact ⟨_, (true), (by first | rfl | (simp; done) | (simp [*]; done)), H', ⟨by have := HJ7.out; have := HK2.out; have := HK3.out; first | omega | exact Nat.le_refl _⟩, ⟨by (with_reducible repeat (first | apply Kd.V_alloc | apply Kd.V_drewN | apply Kd.V_drew)); exact Kd.V_mono HO_0.out (fun _ hk => ⟨hk.1.1.1, hk.1.1.2⟩)⟩, ⟨by (with_reducible repeat (first | apply Kd.V_alloc | apply Kd.V_drewN | apply Kd.V_drew)); exact Kd.V_mono HO_1.out (fun _ hk => ⟨hk.1.1.1, hk.1.1.2⟩)⟩, ⟨by (with_reducible repeat (first | apply Kd.R_alloc | apply Kd.R_drewN | apply Kd.R_drew)); exact Kd.R_mono HO_14.out (fun _ hk => hk.1.1)⟩, ⟨by repeat (first | (with_reducible first | exact HB.out | apply below_alloc | apply pw_below_drewN | apply below_drew1) | exact HB.out)⟩⟩
              case rest =>
               clear HC50
               try clear c1
               try clear c2
               try clear p2
               try clear c3
               try clear p3
               try clear q3
               try clear hx3
               try clear c4
               try clear c5
               try clear c6
               try clear p6
               try clear c8
               try clear c9
               try clear c11
               try clear c12
               try clear c14
               try clear c17
               try clear c18
               try clear c20
               try clear c21
               try clear c22
               try clear c23
               try clear c24
               try clear c24b0
               try clear c25
               try clear c25b0
               try clear c26
               try clear c26b0
               try clear c28
               try clear c28b0
               try clear c28b1
               try clear c29
               try clear c29b0
               try clear c29b1
               try clear c32
               try clear c32b0
               try clear c32b1
               try clear c34
               try clear p38
               try clear q38
               try clear hx38
               try clear c39
               try clear c39b0
               try clear p39
               try clear q39
               try clear hx39
               try clear c40
               try clear c40b0
               try clear c41
               try clear c41b0
               try clear c43
               try clear c43b0
               try clear c43b1
               try clear c44
               try clear c44b0
               try clear c44b1
               try clear c48
               try clear c56
               try clear c56b0
               try clear c56b1
               try clear c57
               try clear c57b0
               try clear c57b1
               try clear c58
               try clear c58b0
               try clear c58b1
               try clear c60
               try clear hx384_0
               try clear hx394_0
               try clear p2
               try clear p3
               try clear p38
               try clear p384
               try clear p394
               try clear p6
               try clear q3
               try clear q38
               try clear q384
               try clear q394
               obtain ⟨kq, x159_49, rfl, HA, HJ49, HO_0, HO_1, HO_14, HB⟩ := hcut
               cases kq with
               | zero => exact absurd HA.out (by simp [palletlaw02_WireBack.j3])
               | succ kj49 =>
                have H := HA.out
                clear HA
                simp only [palletlaw02_WireBack.j3] at H
                by_cases c63 : x159_49 = true
                ·subst c63
                 have H1 : (some false) = some r := by rw [if_pos rfl] at H; exact H
                 clear H
                 have H := H1
                 clear H1
                 obtain rfl := Option.some.inj H
                 exact absurd hr_.out (by decide)
                ·replace c63 := Bool.eq_false_iff.mpr c63
                 subst c63
                 have H1 : (palletlaw02_WireBack.l2 kj49 l0 l1 a5 t373 y391 x15_3 l2 (l2.length : Int) 0) = some r := by rw [if_neg (show ¬ (false = true) by decide)] at H; exact H
                 clear H
                 have H := H1
                 clear H1
                 have H' := Aside0.mk H
                 clear H
                 go_wp2
                 go_loopg [162] kj49 (fun kq v162 w' => ∃ (x162_5 : Int), v162 = .int .i64 x162_5 ∧ Aside0 (palletlaw02_WireBack.l2 kq l0 l1 a5 t373 y391 x15_3 l2 (l2.length : Int) x162_5 = some r) ∧ Aside0 (kq ≤ kj49) ∧ Aside0 (Kd.V (Kd.int .u8) 5 w' w.heap.size (fun k_ => ((P0_ k_ ∨ P1_ k_) ∨ w.heap.size ≤ k_) ∧ some k_ ≠ (v392 : Value).ownBlock) (.slice A0 l0.length c0) l0) ∧ Aside0 (Kd.V (Kd.int .u8) 5 w' w.heap.size (fun k_ => ((P0_ k_ ∨ P1_ k_) ∨ w.heap.size ≤ k_) ∧ some k_ ≠ (v392 : Value).ownBlock) (.slice A1 l1.length c1) l1) ∧ Aside0 (Kd.R (Kd.int .u8) 5 w' w.heap.size (fun k_ => (w.heap.size ≤ k_)) v392 y391) ∧ Aside0 (Below w.heap.size w w'))
                 case atStart => exact ⟨(0), (by first | rfl | (simp; done) | (simp [*]; done)), H', ⟨Nat.le_refl _⟩, ⟨by (with_reducible repeat (first | apply Kd.V_alloc | apply Kd.V_drewN | apply Kd.V_drew)); exact HO_0.out⟩, ⟨by (with_reducible repeat (first | apply Kd.V_alloc | apply Kd.V_drewN | apply Kd.V_drew)); exact HO_1.out⟩, ⟨by (with_reducible repeat (first | apply Kd.R_alloc | apply Kd.R_drewN | apply Kd.R_drew)); exact HO_14.out⟩, ⟨by repeat (first | (with_reducible first | exact HB.out | apply below_alloc | apply pw_below_drewN | apply below_drew1) | exact HB.out)⟩⟩
                 case round =>
                  clear H'
                  try clear c1
                  try clear c2
                  try clear p2
                  try clear c3
                  try clear p3
                  try clear q3
                  try clear hx3
                  try clear c4
                  try clear c5
                  try clear c6
                  try clear p6
                  try clear c8
                  try clear c9
                  try clear c11
                  try clear c12
                  try clear c14
                  try clear c17
                  try clear c18
                  try clear c20
                  try clear c21
                  try clear c22
                  try clear c23
                  try clear c24
                  try clear c24b0
                  try clear c25
                  try clear c25b0
                  try clear c26
                  try clear c26b0
                  try clear c28
                  try clear c28b0
                  try clear c28b1
                  try clear c29
                  try clear c29b0
                  try clear c29b1
                  try clear c32
                  try clear c32b0
                  try clear c32b1
                  try clear c34
                  try clear p38
                  try clear q38
                  try clear hx38
                  try clear c39
                  try clear c39b0
                  try clear p39
                  try clear q39
                  try clear hx39
                  try clear c40
                  try clear c40b0
                  try clear c41
                  try clear c41b0
                  try clear c43
                  try clear c43b0
                  try clear c43b1
                  try clear c44
                  try clear c44b0
                  try clear c44b1
                  try clear c48
                  try clear c56
                  try clear c56b0
                  try clear c56b1
                  try clear c57
                  try clear c57b0
                  try clear c57b1
                  try clear c58
                  try clear c58b0
                  try clear c58b1
                  try clear c60
                  try clear c63
                  try clear hx384_0
                  try clear hx394_0
                  try clear p2
                  try clear p3
                  try clear p38
                  try clear p384
                  try clear p39
                  try clear p394
                  try clear p6
                  try clear q3
                  try clear q38
                  try clear q384
                  try clear q39
                  try clear q394
                  obtain ⟨x162_5, rfl, HA, HK5, HO_0, HO_1, HO_14, HB⟩ := hrel
                  cases gk with
                  | zero => exact absurd HA.out (by simp [palletlaw02_WireBack.l2])
                  | succ k5 =>
                   have H := HA.out
                   clear HA
                   simp only [palletlaw02_WireBack.l2] at H
                   by_cases c64 : x162_5 < (l2.length : Int)
                   ·rw [if_pos c64] at H
                    have c64b0 : decide (x162_5 < (l2.length : Int)) = true := decide_eq_true c64
                    clear c64
                    by_cases c65 : 0 ≤ x162_5
                    ·rw [if_pos c65] at H
                     have c65b0 : decide (0 ≤ x162_5) = true := decide_eq_true c65
                     clear c65
                     by_cases c66 : x162_5 < (l2.length : Int)
                     ·rw [if_pos c66] at H
                      have c66b0 : decide (x162_5 < (l2.length : Int)) = true := decide_eq_true c66
                      clear c66
                      replace H := Option.bind_eq_some_iff.mp H
                      obtain ⟨⟨t413, t414⟩, A670, H⟩ := H
                      replace H : (if t414 = 0 then ((wire_TakeFixed.f k5 t413 (l0.length : Int) a5).bind fun bt417 => (if bt417.1 = (rd l2 x162_5) then (if bt417.2.1 = (t413.length : Int) then (if bt417.2.2 = 0 then (palletlaw02_WireBack.l2 k5 l0 l1 a5 t373 y391 x15_3 l2 (l2.length : Int) (wrap64 (x162_5 + 1))) else (some false)) else (some false)) else (some false))) else (palletlaw02_WireBack.l2 k5 l0 l1 a5 t373 y391 x15_3 l2 (l2.length : Int) (wrap64 (x162_5 + 1)))) = some r := H
                      have A67 := Aside0.mk A670
                      clear A670
                      by_cases c68 : t414 = 0
                      ·rw [if_pos c68] at H
                       have c68b0 : (t414 == 0) = true := beq_iff_eq.mpr c68
                       have c68b1 : (t414 != 0) = false := bne_eq_false_iff_eq.mpr c68
                       clear c68
                       replace H := Option.bind_eq_some_iff.mp H
                       obtain ⟨⟨t417, t418, t419⟩, A690, H⟩ := H
                       replace H : (if t417 = (rd l2 x162_5) then (if t418 = (t413.length : Int) then (if t419 = 0 then (palletlaw02_WireBack.l2 k5 l0 l1 a5 t373 y391 x15_3 l2 (l2.length : Int) (wrap64 (x162_5 + 1))) else (some false)) else (some false)) else (some false)) = some r := H
                       have A69 := Aside0.mk A690
                       clear A690
                       by_cases c70 : t417 = (rd l2 x162_5)
                       ·rw [if_pos c70] at H
                        have c70b0 : (t417 == (rd l2 x162_5)) = true := beq_iff_eq.mpr c70
                        have c70b1 : (t417 != (rd l2 x162_5)) = false := bne_eq_false_iff_eq.mpr c70
                        clear c70
                        by_cases c71 : t418 = (t413.length : Int)
                        ·rw [if_pos c71] at H
                         have c71b0 : (t418 == (t413.length : Int)) = true := beq_iff_eq.mpr c71
                         have c71b1 : (t418 != (t413.length : Int)) = false := bne_eq_false_iff_eq.mpr c71
                         clear c71
                         by_cases c72 : t419 = 0
                         ·rw [if_pos c72] at H
                          have c72b0 : (t419 == 0) = true := beq_iff_eq.mpr c72
                          have c72b1 : (t419 != 0) = false := bne_eq_false_iff_eq.mpr c72
                          clear c72
                          have H' := Aside0.mk H
                          clear H
                          have p412 : 0 ≤ (x162_5 : Int) := of_decide_eq_true (by first | (with_reducible assumption) | assumption)
                          have q412 : x162_5 < (l2.length : Int) := of_decide_eq_true (by first | (with_reducible assumption) | assumption)
                          obtain ⟨ad412, e412, hx412_0⟩ := Kd.at_int HR2.out x162_5 p412 q412
                          cases e412
                          replace hx412_0 := (HB.out.cell (World.block_lt_of_cell? w _ hx412_0)).trans hx412_0
                          replace p412 := eq_true p412
                          replace q412 := eq_true q412
                          go_wp2_with (first | ((with_reducible refine gate_callee (f := 10) rfl ?_); refine goesL_ (some 170) rfl rfl Try.func10 (by kernel_rfl) rfl #[.slice A0 l0.length c0, .int .i64 a5, .int .u64 (rd l2 x162_5)] rfl (by (try simp only [List.map_toArray, List.map_cons, List.map_nil]); first | done | rfl | (simp only [List.length_drop, List.length_take]; rfl)) ?_; (with_reducible refine (wire_Fixed.calls k5 _ _ l0 a5 (rd l2 x162_5) t413 t414 _ ?side1 ?side2 A67.out).mono ?_); (case side1 => repeat (first | exact (Kd.V_reads' HO_0.out).2.2 | (with_reducible refine Kd.C_alloc ?_ _) | (with_reducible refine Kd.C_drewN ?_ _) | (with_reducible refine Kd.C_drew ?_))); (case side2 => exact (Kd.V_reads' HO_0.out).2.1); rintro e w73 ⟨v415, rfl, ho0, hb⟩; refine ⟨_, rfl, ?_⟩; have n0_ := Aside0.mk (Kd.V_elder' (by (with_reducible repeat (first | apply Kd.V_alloc | apply Kd.V_drewN | apply Kd.V_drew)); exact HO_0.out) (Kd.R_base ho0) hb); have n1_ := Aside0.mk (Kd.V_elder' (by (with_reducible repeat (first | apply Kd.V_alloc | apply Kd.V_drewN | apply Kd.V_drew)); exact HO_1.out) (Kd.R_base ho0) hb); have n2_ := Aside0.mk (Kd.R_elder' (by (with_reducible repeat (first | apply Kd.R_alloc | apply Kd.R_drewN | apply Kd.R_drew)); exact HO_14.out) (Kd.R_base ho0) hb); have n3_ := Aside0.mk (Kd.R_lower (Kd.R_new' (Kd.R_newM (M := fun k_ => (w.heap.size ≤ k_)) ho0 (below_size (by repeat (first | (with_reducible first | exact HB.out | apply below_alloc | apply pw_below_drewN | apply below_drew1) | exact HB.out))) (fun k_ h_ => h_)) (Kd.R_lt (by (with_reducible repeat (first | apply Kd.R_alloc | apply Kd.R_drewN | apply Kd.R_drew)); exact HO_14.out))) (below_size (by repeat (first | (with_reducible first | exact HB.out | apply below_alloc | apply pw_below_drewN | apply below_drew1) | exact HB.out)))); have n4_ := Aside0.mk (below_step (by repeat (first | (with_reducible first | exact HB.out | apply below_alloc | apply pw_below_drewN | apply below_drew1) | exact HB.out)) hb); clear HO_0; clear HO_1; clear HO_14; clear HB; have HO_0 := n0_; have HO_1 := n1_; have HO_14 := n2_; have HO416 := n3_; have HB := n4_; clear n0_ n1_ n2_ n3_ n4_; (try clear hb); (try clear hb2); (try clear hk); (try clear hi); (try clear ho0); obtain ⟨Ao74, co74, eo74⟩ := Kd.R_slice HO416.out; subst eo74) | ((with_reducible refine gate_callee (f := 24) rfl ?_); refine goesL_ (some 180) rfl rfl Try.func24 (by kernel_rfl) rfl #[.slice Ao74 t413.length co74, .int .i64 (l0.length : Int), .int .i64 a5] rfl (by (try simp only [List.map_toArray, List.map_cons, List.map_nil]); first | done | rfl | (simp only [List.length_drop, List.length_take]; rfl)) ?_; (with_reducible refine (wire_TakeFixed.calls k5 _ _ t413 (l0.length : Int) a5 t417 t418 t419 _ ?side1 ?side2 A69.out).mono ?_); (case side1 => repeat (first | exact (Kd.R_reads' HO416.out).2.2 | (with_reducible refine Kd.C_alloc ?_ _) | (with_reducible refine Kd.C_drewN ?_ _) | (with_reducible refine Kd.C_drew ?_))); (case side2 => exact (Kd.R_reads' HO416.out).2.1); rintro e w' ⟨rfl, ⟨nd, rfl⟩⟩; refine ⟨_, rfl, ?_⟩))
                          go_roundg k5
                          case measure => have := HJ7.out; have := HK2.out; have := HK3.out; have := HJ49.out; have := HK5.out; omega
                          case rel => exact ⟨(wrap64 (x162_5 + 1)), (by first | rfl | (simp; done) | (simp [*]; done)), H', ⟨by have := HJ7.out; have := HK2.out; have := HK3.out; have := HJ49.out; have := HK5.out; omega⟩, ⟨by (with_reducible repeat (first | apply Kd.V_alloc | apply Kd.V_drewN | apply Kd.V_drew)); exact Kd.V_mono HO_0.out (fun _ hk => ⟨hk.1.1, hk.1.2⟩)⟩, ⟨by (with_reducible repeat (first | apply Kd.V_alloc | apply Kd.V_drewN | apply Kd.V_drew)); exact Kd.V_mono HO_1.out (fun _ hk => ⟨hk.1.1, hk.1.2⟩)⟩, ⟨by (with_reducible repeat (first | apply Kd.R_alloc | apply Kd.R_drewN | apply Kd.R_drew)); exact Kd.R_mono HO_14.out (fun _ hk => hk.1)⟩, ⟨by repeat (first | (with_reducible first | exact HB.out | apply below_alloc | apply pw_below_drewN | apply below_drew1) | exact HB.out)⟩⟩
                         ·rw [if_neg c72] at H
                          have c72b0 : (t419 == 0) = false := beq_eq_false_iff_ne.mpr c72
                          have c72b1 : (t419 != 0) = true := bne_iff_ne.mpr c72
                          obtain rfl := Option.some.inj H
                          exact absurd hr_.out (by decide)
                        ·rw [if_neg c71] at H
                         have c71b0 : (t418 == (t413.length : Int)) = false := beq_eq_false_iff_ne.mpr c71
                         have c71b1 : (t418 != (t413.length : Int)) = true := bne_iff_ne.mpr c71
                         obtain rfl := Option.some.inj H
                         exact absurd hr_.out (by decide)
                       ·rw [if_neg c70] at H
                        have c70b0 : (t417 == (rd l2 x162_5)) = false := beq_eq_false_iff_ne.mpr c70
                        have c70b1 : (t417 != (rd l2 x162_5)) = true := bne_iff_ne.mpr c70
                        obtain rfl := Option.some.inj H
                        exact absurd hr_.out (by decide)
                      ·rw [if_neg c68] at H
                       have c68b0 : (t414 == 0) = false := beq_eq_false_iff_ne.mpr c68
                       have c68b1 : (t414 != 0) = true := bne_iff_ne.mpr c68
                       have H' := Aside0.mk H
                       clear H
                       have p412 : 0 ≤ (x162_5 : Int) := of_decide_eq_true (by first | (with_reducible assumption) | assumption)
                       have q412 : x162_5 < (l2.length : Int) := of_decide_eq_true (by first | (with_reducible assumption) | assumption)
                       obtain ⟨ad412, e412, hx412_0⟩ := Kd.at_int HR2.out x162_5 p412 q412
                       cases e412
                       replace hx412_0 := (HB.out.cell (World.block_lt_of_cell? w _ hx412_0)).trans hx412_0
                       replace p412 := eq_true p412
                       replace q412 := eq_true q412
                       go_wp2_with (first | ((with_reducible refine gate_callee (f := 10) rfl ?_); refine goesL_ (some 170) rfl rfl Try.func10 (by kernel_rfl) rfl #[.slice A0 l0.length c0, .int .i64 a5, .int .u64 (rd l2 x162_5)] rfl (by (try simp only [List.map_toArray, List.map_cons, List.map_nil]); first | done | rfl | (simp only [List.length_drop, List.length_take]; rfl)) ?_; (with_reducible refine (wire_Fixed.calls k5 _ _ l0 a5 (rd l2 x162_5) t413 t414 _ ?side1 ?side2 A67.out).mono ?_); (case side1 => repeat (first | exact (Kd.V_reads' HO_0.out).2.2 | (with_reducible refine Kd.C_alloc ?_ _) | (with_reducible refine Kd.C_drewN ?_ _) | (with_reducible refine Kd.C_drew ?_))); (case side2 => exact (Kd.V_reads' HO_0.out).2.1); rintro e w75 ⟨v415, rfl, ho0, hb⟩; refine ⟨_, rfl, ?_⟩; have n0_ := Aside0.mk (Kd.V_elder' (by (with_reducible repeat (first | apply Kd.V_alloc | apply Kd.V_drewN | apply Kd.V_drew)); exact HO_0.out) (Kd.R_base ho0) hb); have n1_ := Aside0.mk (Kd.V_elder' (by (with_reducible repeat (first | apply Kd.V_alloc | apply Kd.V_drewN | apply Kd.V_drew)); exact HO_1.out) (Kd.R_base ho0) hb); have n2_ := Aside0.mk (Kd.R_elder' (by (with_reducible repeat (first | apply Kd.R_alloc | apply Kd.R_drewN | apply Kd.R_drew)); exact HO_14.out) (Kd.R_base ho0) hb); have n3_ := Aside0.mk (Kd.R_lower (Kd.R_new' (Kd.R_newM (M := fun k_ => (w.heap.size ≤ k_)) ho0 (below_size (by repeat (first | (with_reducible first | exact HB.out | apply below_alloc | apply pw_below_drewN | apply below_drew1) | exact HB.out))) (fun k_ h_ => h_)) (Kd.R_lt (by (with_reducible repeat (first | apply Kd.R_alloc | apply Kd.R_drewN | apply Kd.R_drew)); exact HO_14.out))) (below_size (by repeat (first | (with_reducible first | exact HB.out | apply below_alloc | apply pw_below_drewN | apply below_drew1) | exact HB.out)))); have n4_ := Aside0.mk (below_step (by repeat (first | (with_reducible first | exact HB.out | apply below_alloc | apply pw_below_drewN | apply below_drew1) | exact HB.out)) hb); clear HO_0; clear HO_1; clear HO_14; clear HB; have HO_0 := n0_; have HO_1 := n1_; have HO_14 := n2_; have HO416 := n3_; have HB := n4_; clear n0_ n1_ n2_ n3_ n4_; (try clear hb); (try clear hb2); (try clear hk); (try clear hi); (try clear ho0)))
                       go_roundg k5
                       case measure => have := HJ7.out; have := HK2.out; have := HK3.out; have := HJ49.out; have := HK5.out; omega
                       case rel => exact ⟨(wrap64 (x162_5 + 1)), (by first | rfl | (simp; done) | (simp [*]; done)), H', ⟨by have := HJ7.out; have := HK2.out; have := HK3.out; have := HJ49.out; have := HK5.out; omega⟩, ⟨by (with_reducible repeat (first | apply Kd.V_alloc | apply Kd.V_drewN | apply Kd.V_drew)); exact Kd.V_mono HO_0.out (fun _ hk => ⟨hk.1.1, hk.1.2⟩)⟩, ⟨by (with_reducible repeat (first | apply Kd.V_alloc | apply Kd.V_drewN | apply Kd.V_drew)); exact Kd.V_mono HO_1.out (fun _ hk => ⟨hk.1.1, hk.1.2⟩)⟩, ⟨by (with_reducible repeat (first | apply Kd.R_alloc | apply Kd.R_drewN | apply Kd.R_drew)); exact Kd.R_mono HO_14.out (fun _ hk => hk.1)⟩, ⟨by repeat (first | (with_reducible first | exact HB.out | apply below_alloc | apply pw_below_drewN | apply below_drew1) | exact HB.out)⟩⟩
                     ·rw [if_neg c66] at H
                      exact absurd H (by simp)
                    ·rw [if_neg c65] at H
                     exact absurd H (by simp)
                   ·rw [if_neg c64] at H
                    have c64b0 : decide (x162_5 < (l2.length : Int)) = false := decide_eq_false c64
                    clear c64
                    by_cases c76 : t373 = true
                    ·subst c76
                     have H1 : (some (x15_3 == (wrap64 ((y391.length : Int) - (l1.length : Int))))) = some r := by rw [if_pos rfl] at H; exact H
                     clear H
                     have H := H1
                     clear H1
                     obtain rfl := Option.some.inj H
                     obtain ⟨Ao77, co77, eo77⟩ := Kd.R_slice HO_14.out
                     subst eo77
                     go_wp2
                     go_ret
                     exact ⟨by first | rfl | (simp [errW_none, errW_some] <;> rfl) | (simp [*, errW_none, errW_some] <;> rfl), by repeat (first | (with_reducible first | exact HB.out | apply below_alloc | apply pw_below_drewN | apply below_drew1) | exact HB.out)⟩
                    ·replace c76 := Bool.eq_false_iff.mpr c76
                     subst c76
                     have H1 : (some false) = some r := by rw [if_neg (show ¬ (false = true) by decide)] at H; exact H
                     clear H
                     have H := H1
                     clear H1
                     obtain rfl := Option.some.inj H
                     exact absurd hr_.out (by decide)
             ·rw [if_neg c48] at H
              exact absurd H (by simp)
         ·rw [if_neg c34] at H
          exact absurd H (by simp)
        ·rw [if_neg c32] at H
         have c32b0 : (x15_2 == (wrap64 ((y381.length : Int) - (l1.length : Int)))) = false := beq_eq_false_iff_ne.mpr c32
         have c32b1 : (x15_2 != (wrap64 ((y381.length : Int) - (l1.length : Int)))) = true := bne_iff_ne.mpr c32
         obtain rfl := Option.some.inj H
         exact absurd hr_.out (by decide)
    ·rw [if_neg c20] at H
     exact absurd H (by simp)

end Go.Proofs.Ytnmepjpjpillcaa.Print
