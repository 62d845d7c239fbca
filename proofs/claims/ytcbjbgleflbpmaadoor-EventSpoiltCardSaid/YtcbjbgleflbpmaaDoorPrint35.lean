-- PRINTED by print.py (a twelfth state) out of the translation. Not trusted: Lean checks it.
import Derived.Test.YtcbjbgleflbpmaaDoorPrint0
import Derived.Test.YtcbjbgleflbpmaaDoorPrint11
import Derived.Test.YtcbjbgleflbpmaaDoorPrint29
import Derived.Test.YtcbjbgleflbpmaaDoorPrint31
import Derived.Test.YtcbjbgleflbpmaaDoorPrint34
namespace Go.Proofs.YtcbjbgleflbpmaaDoor.Print
open Go.RowKit Go.Proofs.YtcbjbgleflbpmaaDoorW.PrintWords Go.Proofs.YtcbjbgleflbpmaaDoorW.PrintLast Go.Proofs.YtcbjbgleflbpmaaDoorW.PrintMore Go.Proofs.YtcbjbgleflbpmaaDoorX
attribute [local go_sem] str_lss str_geq max2_int min2_int max_two min_two max_three min_three max_four min_four   -- for this text's walks alone
set_option linter.unusedVariables false
set_option linter.unusedSimpArgs false

/-! ### palletlaw19_EventSpoilt: function 7 -/
mutual
def palletlaw19_EventSpoilt.j0 : Nat → List (S30) → Int → Int → Int → List Int → Bool → Bool → Option (Bool)
 | 0, _, _, _, _, _, _, _ => none
 | k + 1, x0, x1, x2, x3, x4, x11, x42 => if x42 = true then (some x11) else ((event_Encode.f k x0).bind fun bt574 => (if bt574.2 = 0 then (palletlaw19_EventSpoilt.j1 k x1 x2 x3 x4 x11 bt574.1 bt574.2 ((bt574.1.length : Int) == 0)) else (palletlaw19_EventSpoilt.j1 k x1 x2 x3 x4 x11 bt574.1 bt574.2 true)))
def palletlaw19_EventSpoilt.j1 : Nat → Int → Int → Int → List Int → Bool → List Int → Int → Bool → Option (Bool)
 | 0, _, _, _, _, _, _, _, _ => none
 | k + 1, x1, x2, x3, x4, x11, x12, x13, x55 => if x55 = true then (if x11 = true then (some (x13 != 0)) else (none)) else (if (x12.length : Int) = 0 then (none) else (if 0 ≤ (Int.tmod (wrap64 ((Int.tmod x3 (x12.length : Int)) + (x12.length : Int))) (x12.length : Int)) then (if (Int.tmod (wrap64 ((Int.tmod x3 (x12.length : Int)) + (x12.length : Int))) (x12.length : Int)) ≤ (x12.length : Int) then ((event_Decode.f k (x12.take ((Int.tmod (wrap64 ((Int.tmod x3 (x12.length : Int)) + (x12.length : Int))) (x12.length : Int)) : Int).toNat)).bind fun bt582 => (if bt582.2.2 = 0 then ((crc_Open32.f (x12.take ((Int.tmod (wrap64 ((Int.tmod x3 (x12.length : Int)) + (x12.length : Int))) (x12.length : Int)) : Int).toNat)).bind fun bt591 => (if bt591.2 = 0 then (palletlaw19_EventSpoilt.j2 k x1 x2 x4 x11 x12) else (none))) else (palletlaw19_EventSpoilt.j2 k x1 x2 x4 x11 x12))) else (none)) else (none)))
def palletlaw19_EventSpoilt.j2 : Nat → Int → Int → List Int → Bool → List Int → Option (Bool)
 | 0, _, _, _, _, _ => none
 | k + 1, x1, x2, x4, x11, x12 => if ([] : List Int).length + x12.length < 140737488355328 then ((some (([] : List Int) ++ x12 : List Int)).bind fun y595 => (if y595.length + x4.length < 140737488355328 then ((event_Decode.f k (y595 ++ x4)).bind fun bt601 => (if bt601.2.2 = 0 then (palletlaw19_EventSpoilt.j3 k x1 x2 x4 x11 x12 (decide ((x4.length : Int) > 0))) else (palletlaw19_EventSpoilt.j3 k x1 x2 x4 x11 x12 false))) else (none))) else (none)
def palletlaw19_EventSpoilt.j3 : Nat → Int → Int → List Int → Bool → List Int → Bool → Option (Bool)
 | 0, _, _, _, _, _, _ => none
 | k + 1, x1, x2, x4, x11, x12, x105 => if x105 = true then (if ([] : List Int).length + x12.length < 140737488355328 then ((some (([] : List Int) ++ x12 : List Int)).bind fun y606 => (if y606.length + x4.length < 140737488355328 then ((crc_Open32.f (y606 ++ x4)).bind fun bt612 => (if bt612.2 = 0 then (palletlaw19_EventSpoilt.j4 k x1 x2 x11 x12) else (none))) else (none))) else (none)) else (palletlaw19_EventSpoilt.j4 k x1 x2 x11 x12)
def palletlaw19_EventSpoilt.j4 : Nat → Int → Int → Bool → List Int → Option (Bool)
 | 0, _, _, _, _ => none
 | k + 1, x1, x2, x11, x12 => if (wrap64 (8 * (x12.length : Int))) = 0 then (none) else (palletlaw19_EventSpoilt.l0 k (Int.tmod (wrap64 ((Int.tmod x1 (wrap64 (8 * (x12.length : Int)))) + (wrap64 (8 * (x12.length : Int))))) (wrap64 (8 * (x12.length : Int)))) x2 x11 x12 (wrap64 (8 * (x12.length : Int))) false 0)
def palletlaw19_EventSpoilt.l0 : Nat → Int → Int → Bool → List Int → Int → Bool → Int → Option (Bool)
 | 0, _, _, _, _, _, _, _ => none
 | k + 1, x1, x2, x11, x12, x24, x25, x126 => if x126 < 25 then (if 0 ≤ x126 then (if (Go.bits .and .u32 (shr .u32 x2 x126) 1) = 1 then (palletlaw19_EventSpoilt.j6 k x1 x2 x11 x12 x24 x25 x126 x126 (decide ((wrap64 (x1 + x126)) < x24))) else (palletlaw19_EventSpoilt.j6 k x1 x2 x11 x12 x24 x25 x126 x126 false)) else (none)) else ((event_Decode.f k x12).bind fun bt616 => (if x11 = true then (if ((bt616.2.2 == 5) == x25) = true then (if x25 = true then (some true) else (some (bt616.2.2 == 0))) else (none)) else (none)))
def palletlaw19_EventSpoilt.j6 : Nat → Int → Int → Bool → List Int → Int → Bool → Int → Int → Bool → Option (Bool)
 | 0, _, _, _, _, _, _, _, _, _ => none
 | k + 1, x1, x2, x11, x12, x24, x25, x26, x126, x140 => if x140 = true then ((crc_Turn.f x12 (wrap64 (x1 + x26))).bind fun bt621 => (if bt621.2 = 0 then (palletlaw19_EventSpoilt.l0 k x1 x2 x11 bt621.1 x24 true (wrap64 (x126 + 1))) else (none))) else (palletlaw19_EventSpoilt.l0 k x1 x2 x11 x12 x24 x25 (wrap64 (x126 + 1)))
end
def palletlaw19_EventSpoilt.f (k : Nat) (l0 : List (S30)) (a1 : Int) (a2 : Int) (a3 : Int) (l4 : List Int) : Option (Bool) := (palletlaw19_live.f k).bind fun t573 => (if t573 = true then (if (l0.length : Int) > 300 then (palletlaw19_EventSpoilt.j0 k l0 a1 a2 a3 l4 t573 true) else (palletlaw19_EventSpoilt.j0 k l0 a1 a2 a3 l4 t573 (decide ((l4.length : Int) > 300)))) else (none))
theorem palletlaw19_EventSpoilt.mono_l : ∀ k, (∀ y0 y1 y2 y3 y4 y5 y6, LeO (palletlaw19_EventSpoilt.j0 k y0 y1 y2 y3 y4 y5 y6) (palletlaw19_EventSpoilt.j0 (k + 1) y0 y1 y2 y3 y4 y5 y6)) ∧ (∀ y0 y1 y2 y3 y4 y5 y6 y7, LeO (palletlaw19_EventSpoilt.j1 k y0 y1 y2 y3 y4 y5 y6 y7) (palletlaw19_EventSpoilt.j1 (k + 1) y0 y1 y2 y3 y4 y5 y6 y7)) ∧ (∀ y0 y1 y2 y3 y4, LeO (palletlaw19_EventSpoilt.j2 k y0 y1 y2 y3 y4) (palletlaw19_EventSpoilt.j2 (k + 1) y0 y1 y2 y3 y4)) ∧ (∀ y0 y1 y2 y3 y4 y5, LeO (palletlaw19_EventSpoilt.j3 k y0 y1 y2 y3 y4 y5) (palletlaw19_EventSpoilt.j3 (k + 1) y0 y1 y2 y3 y4 y5)) ∧ (∀ y0 y1 y2 y3, LeO (palletlaw19_EventSpoilt.j4 k y0 y1 y2 y3) (palletlaw19_EventSpoilt.j4 (k + 1) y0 y1 y2 y3)) ∧ (∀ y0 y1 y2 y3 y4 y5 y6, LeO (palletlaw19_EventSpoilt.l0 k y0 y1 y2 y3 y4 y5 y6) (palletlaw19_EventSpoilt.l0 (k + 1) y0 y1 y2 y3 y4 y5 y6)) ∧ (∀ y0 y1 y2 y3 y4 y5 y6 y7 y8, LeO (palletlaw19_EventSpoilt.j6 k y0 y1 y2 y3 y4 y5 y6 y7 y8) (palletlaw19_EventSpoilt.j6 (k + 1) y0 y1 y2 y3 y4 y5 y6 y7 y8))
 | 0 => ⟨fun _ _ _ _ _ _ _ r h => by simp [palletlaw19_EventSpoilt.j0] at h, fun _ _ _ _ _ _ _ _ r h => by simp [palletlaw19_EventSpoilt.j1] at h, fun _ _ _ _ _ r h => by simp [palletlaw19_EventSpoilt.j2] at h, fun _ _ _ _ _ _ r h => by simp [palletlaw19_EventSpoilt.j3] at h, fun _ _ _ _ r h => by simp [palletlaw19_EventSpoilt.j4] at h, fun _ _ _ _ _ _ _ r h => by simp [palletlaw19_EventSpoilt.l0] at h, fun _ _ _ _ _ _ _ _ _ r h => by simp [palletlaw19_EventSpoilt.j6] at h⟩
 | k + 1 => by
  obtain ⟨ih0, ih1, ih2, ih3, ih4, ih5, ih6⟩ := palletlaw19_EventSpoilt.mono_l k
  refine ⟨?_, ?_, ?_, ?_, ?_, ?_, ?_⟩
  ·intro y0 y1 y2 y3 y4 y5 y6
   unfold palletlaw19_EventSpoilt.j0
   repeat' first
   | (with_reducible exact ih0 _ _ _ _ _ _ _)
   | (with_reducible exact ih1 _ _ _ _ _ _ _ _)
   | (with_reducible exact ih2 _ _ _ _ _)
   | (with_reducible exact ih3 _ _ _ _ _ _)
   | (with_reducible exact ih4 _ _ _ _)
   | (with_reducible exact ih5 _ _ _ _ _ _ _)
   | (with_reducible exact ih6 _ _ _ _ _ _ _ _ _)
   | (with_reducible exact event_Decode.mono _ _)
   | (with_reducible exact event_Encode.mono _ _)
   | (with_reducible exact palletlaw19_live.mono _)
   | (with_reducible exact LeO.refl _)
   | (with_reducible exact LeO.none _)
   | (with_reducible refine LeO.ite ?_ ?_)
   | (with_reducible refine LeO.bind ?_ (fun _ => ?_))
   | exact ih0 _ _ _ _ _ _ _
   | exact ih1 _ _ _ _ _ _ _ _
   | exact ih2 _ _ _ _ _
   | exact ih3 _ _ _ _ _ _
   | exact ih4 _ _ _ _
   | exact ih5 _ _ _ _ _ _ _
   | exact ih6 _ _ _ _ _ _ _ _ _
   | exact event_Decode.mono _ _
   | exact event_Encode.mono _ _
   | exact palletlaw19_live.mono _
   | exact LeO.none _
   | refine LeO.ite ?_ ?_
   | refine LeO.bind ?_ (fun _ => ?_)
  ·intro y0 y1 y2 y3 y4 y5 y6 y7
   unfold palletlaw19_EventSpoilt.j1
   repeat' first
   | (with_reducible exact ih0 _ _ _ _ _ _ _)
   | (with_reducible exact ih1 _ _ _ _ _ _ _ _)
   | (with_reducible exact ih2 _ _ _ _ _)
   | (with_reducible exact ih3 _ _ _ _ _ _)
   | (with_reducible exact ih4 _ _ _ _)
   | (with_reducible exact ih5 _ _ _ _ _ _ _)
   | (with_reducible exact ih6 _ _ _ _ _ _ _ _ _)
   | (with_reducible exact event_Decode.mono _ _)
   | (with_reducible exact event_Encode.mono _ _)
   | (with_reducible exact palletlaw19_live.mono _)
   | (with_reducible exact LeO.refl _)
   | (with_reducible exact LeO.none _)
   | (with_reducible refine LeO.ite ?_ ?_)
   | (with_reducible refine LeO.bind ?_ (fun _ => ?_))
   | exact ih0 _ _ _ _ _ _ _
   | exact ih1 _ _ _ _ _ _ _ _
   | exact ih2 _ _ _ _ _
   | exact ih3 _ _ _ _ _ _
   | exact ih4 _ _ _ _
   | exact ih5 _ _ _ _ _ _ _
   | exact ih6 _ _ _ _ _ _ _ _ _
   | exact event_Decode.mono _ _
   | exact event_Encode.mono _ _
   | exact palletlaw19_live.mono _
   | exact LeO.none _
   | refine LeO.ite ?_ ?_
   | refine LeO.bind ?_ (fun _ => ?_)
  ·intro y0 y1 y2 y3 y4
   unfold palletlaw19_EventSpoilt.j2
   repeat' first
   | (with_reducible exact ih0 _ _ _ _ _ _ _)
   | (with_reducible exact ih1 _ _ _ _ _ _ _ _)
   | (with_reducible exact ih2 _ _ _ _ _)
   | (with_reducible exact ih3 _ _ _ _ _ _)
   | (with_reducible exact ih4 _ _ _ _)
   | (with_reducible exact ih5 _ _ _ _ _ _ _)
   | (with_reducible exact ih6 _ _ _ _ _ _ _ _ _)
   | (with_reducible exact event_Decode.mono _ _)
   | (with_reducible exact event_Encode.mono _ _)
   | (with_reducible exact palletlaw19_live.mono _)
   | (with_reducible exact LeO.refl _)
   | (with_reducible exact LeO.none _)
   | (with_reducible refine LeO.ite ?_ ?_)
   | (with_reducible refine LeO.bind ?_ (fun _ => ?_))
   | exact ih0 _ _ _ _ _ _ _
   | exact ih1 _ _ _ _ _ _ _ _
   | exact ih2 _ _ _ _ _
   | exact ih3 _ _ _ _ _ _
   | exact ih4 _ _ _ _
   | exact ih5 _ _ _ _ _ _ _
   | exact ih6 _ _ _ _ _ _ _ _ _
   | exact event_Decode.mono _ _
   | exact event_Encode.mono _ _
   | exact palletlaw19_live.mono _
   | exact LeO.none _
   | refine LeO.ite ?_ ?_
   | refine LeO.bind ?_ (fun _ => ?_)
  ·intro y0 y1 y2 y3 y4 y5
   unfold palletlaw19_EventSpoilt.j3
   repeat' first
   | (with_reducible exact ih0 _ _ _ _ _ _ _)
   | (with_reducible exact ih1 _ _ _ _ _ _ _ _)
   | (with_reducible exact ih2 _ _ _ _ _)
   | (with_reducible exact ih3 _ _ _ _ _ _)
   | (with_reducible exact ih4 _ _ _ _)
   | (with_reducible exact ih5 _ _ _ _ _ _ _)
   | (with_reducible exact ih6 _ _ _ _ _ _ _ _ _)
   | (with_reducible exact event_Decode.mono _ _)
   | (with_reducible exact event_Encode.mono _ _)
   | (with_reducible exact palletlaw19_live.mono _)
   | (with_reducible exact LeO.refl _)
   | (with_reducible exact LeO.none _)
   | (with_reducible refine LeO.ite ?_ ?_)
   | (with_reducible refine LeO.bind ?_ (fun _ => ?_))
   | exact ih0 _ _ _ _ _ _ _
   | exact ih1 _ _ _ _ _ _ _ _
   | exact ih2 _ _ _ _ _
   | exact ih3 _ _ _ _ _ _
   | exact ih4 _ _ _ _
   | exact ih5 _ _ _ _ _ _ _
   | exact ih6 _ _ _ _ _ _ _ _ _
   | exact event_Decode.mono _ _
   | exact event_Encode.mono _ _
   | exact palletlaw19_live.mono _
   | exact LeO.none _
   | refine LeO.ite ?_ ?_
   | refine LeO.bind ?_ (fun _ => ?_)
  ·intro y0 y1 y2 y3
   unfold palletlaw19_EventSpoilt.j4
   repeat' first
   | (with_reducible exact ih0 _ _ _ _ _ _ _)
   | (with_reducible exact ih1 _ _ _ _ _ _ _ _)
   | (with_reducible exact ih2 _ _ _ _ _)
   | (with_reducible exact ih3 _ _ _ _ _ _)
   | (with_reducible exact ih4 _ _ _ _)
   | (with_reducible exact ih5 _ _ _ _ _ _ _)
   | (with_reducible exact ih6 _ _ _ _ _ _ _ _ _)
   | (with_reducible exact event_Decode.mono _ _)
   | (with_reducible exact event_Encode.mono _ _)
   | (with_reducible exact palletlaw19_live.mono _)
   | (with_reducible exact LeO.refl _)
   | (with_reducible exact LeO.none _)
   | (with_reducible refine LeO.ite ?_ ?_)
   | (with_reducible refine LeO.bind ?_ (fun _ => ?_))
   | exact ih0 _ _ _ _ _ _ _
   | exact ih1 _ _ _ _ _ _ _ _
   | exact ih2 _ _ _ _ _
   | exact ih3 _ _ _ _ _ _
   | exact ih4 _ _ _ _
   | exact ih5 _ _ _ _ _ _ _
   | exact ih6 _ _ _ _ _ _ _ _ _
   | exact event_Decode.mono _ _
   | exact event_Encode.mono _ _
   | exact palletlaw19_live.mono _
   | exact LeO.none _
   | refine LeO.ite ?_ ?_
   | refine LeO.bind ?_ (fun _ => ?_)
  ·intro y0 y1 y2 y3 y4 y5 y6
   unfold palletlaw19_EventSpoilt.l0
   repeat' first
   | (with_reducible exact ih0 _ _ _ _ _ _ _)
   | (with_reducible exact ih1 _ _ _ _ _ _ _ _)
   | (with_reducible exact ih2 _ _ _ _ _)
   | (with_reducible exact ih3 _ _ _ _ _ _)
   | (with_reducible exact ih4 _ _ _ _)
   | (with_reducible exact ih5 _ _ _ _ _ _ _)
   | (with_reducible exact ih6 _ _ _ _ _ _ _ _ _)
   | (with_reducible exact event_Decode.mono _ _)
   | (with_reducible exact event_Encode.mono _ _)
   | (with_reducible exact palletlaw19_live.mono _)
   | (with_reducible exact LeO.refl _)
   | (with_reducible exact LeO.none _)
   | (with_reducible refine LeO.ite ?_ ?_)
   | (with_reducible refine LeO.bind ?_ (fun _ => ?_))
   | exact ih0 _ _ _ _ _ _ _
   | exact ih1 _ _ _ _ _ _ _ _
   | exact ih2 _ _ _ _ _
   | exact ih3 _ _ _ _ _ _
   | exact ih4 _ _ _ _
   | exact ih5 _ _ _ _ _ _ _
   | exact ih6 _ _ _ _ _ _ _ _ _
   | exact event_Decode.mono _ _
   | exact event_Encode.mono _ _
   | exact palletlaw19_live.mono _
   | exact LeO.none _
   | refine LeO.ite ?_ ?_
   | refine LeO.bind ?_ (fun _ => ?_)
  ·intro y0 y1 y2 y3 y4 y5 y6 y7 y8
   unfold palletlaw19_EventSpoilt.j6
   repeat' first
   | (with_reducible exact ih0 _ _ _ _ _ _ _)
   | (with_reducible exact ih1 _ _ _ _ _ _ _ _)
   | (with_reducible exact ih2 _ _ _ _ _)
   | (with_reducible exact ih3 _ _ _ _ _ _)
   | (with_reducible exact ih4 _ _ _ _)
   | (with_reducible exact ih5 _ _ _ _ _ _ _)
   | (with_reducible exact ih6 _ _ _ _ _ _ _ _ _)
   | (with_reducible exact event_Decode.mono _ _)
   | (with_reducible exact event_Encode.mono _ _)
   | (with_reducible exact palletlaw19_live.mono _)
   | (with_reducible exact LeO.refl _)
   | (with_reducible exact LeO.none _)
   | (with_reducible refine LeO.ite ?_ ?_)
   | (with_reducible refine LeO.bind ?_ (fun _ => ?_))
   | exact ih0 _ _ _ _ _ _ _
   | exact ih1 _ _ _ _ _ _ _ _
   | exact ih2 _ _ _ _ _
   | exact ih3 _ _ _ _ _ _
   | exact ih4 _ _ _ _
   | exact ih5 _ _ _ _ _ _ _
   | exact ih6 _ _ _ _ _ _ _ _ _
   | exact event_Decode.mono _ _
   | exact event_Encode.mono _ _
   | exact palletlaw19_live.mono _
   | exact LeO.none _
   | refine LeO.ite ?_ ?_
   | refine LeO.bind ?_ (fun _ => ?_)
theorem palletlaw19_EventSpoilt.mono : ∀ a0 a1 a2 a3 a4 k, LeO (palletlaw19_EventSpoilt.f k a0 a1 a2 a3 a4) (palletlaw19_EventSpoilt.f (k + 1) a0 a1 a2 a3 a4) := by
 intro a0 a1 a2 a3 a4 k
 obtain ⟨ih0, ih1, ih2, ih3, ih4, ih5, ih6⟩ := palletlaw19_EventSpoilt.mono_l k
 unfold palletlaw19_EventSpoilt.f
 repeat' first
   | (with_reducible exact ih0 _ _ _ _ _ _ _)
   | (with_reducible exact ih1 _ _ _ _ _ _ _ _)
   | (with_reducible exact ih2 _ _ _ _ _)
   | (with_reducible exact ih3 _ _ _ _ _ _)
   | (with_reducible exact ih4 _ _ _ _)
   | (with_reducible exact ih5 _ _ _ _ _ _ _)
   | (with_reducible exact ih6 _ _ _ _ _ _ _ _ _)
   | (with_reducible exact event_Decode.mono _ _)
   | (with_reducible exact event_Encode.mono _ _)
   | (with_reducible exact palletlaw19_live.mono _)
   | (with_reducible exact LeO.refl _)
   | (with_reducible exact LeO.none _)
   | (with_reducible refine LeO.ite ?_ ?_)
   | (with_reducible refine LeO.bind ?_ (fun _ => ?_))
   | exact ih0 _ _ _ _ _ _ _
   | exact ih1 _ _ _ _ _ _ _ _
   | exact ih2 _ _ _ _ _
   | exact ih3 _ _ _ _ _ _
   | exact ih4 _ _ _ _
   | exact ih5 _ _ _ _ _ _ _
   | exact ih6 _ _ _ _ _ _ _ _ _
   | exact event_Decode.mono _ _
   | exact event_Encode.mono _ _
   | exact palletlaw19_live.mono _
   | exact LeO.none _
   | refine LeO.ite ?_ ?_
   | refine LeO.bind ?_ (fun _ => ?_)
set_option maxHeartbeats 8000000 in
set_option maxRecDepth 100000 in
theorem palletlaw19_EventSpoilt.calls (k : Nat) (A0 : Option Addr) (c0 : Nat) (l0 : List (S30)) (a1 : Int) (a2 : Int) (a3 : Int) (A4 : Option Addr) (c4 : Nat) (l4 : List Int) (r : Bool) (w : World) (hr0 : Kd.C k30 w A0 l0.length l0) (hc0 : l0.length ≤ c0) (hr4 : Kd.C (Kd.int .u8) w A4 l4.length l4) (hc4 : l4.length ≤ c4) (hr_ : Aside0 (r = true)) (h : palletlaw19_EventSpoilt.f k l0 a1 a2 a3 l4 = some r) :
  Calls Tryd.prog 7 #[.slice A0 l0.length c0, .int .i64 a1, .int .u32 a2, .int .i64 a3, .slice A4 l4.length c4] w fun e w' => e = .returned (.bool r) ∧ Below w.heap.size w w' := by
 have HR0 := Aside0.mk hr0
 have HC0 := Aside0.mk hc0
 clear hr0 hc0
 have HR4 := Aside0.mk hr4
 have HC4 := Aside0.mk hc4
 clear hr4 hc4
 have HB := Aside0.mk (Below.refl w.heap.size w)
 have H : ((palletlaw19_live.f k).bind fun t573 => (if t573 = true then (if (l0.length : Int) > 300 then (palletlaw19_EventSpoilt.j0 k l0 a1 a2 a3 l4 t573 true) else (palletlaw19_EventSpoilt.j0 k l0 a1 a2 a3 l4 t573 (decide ((l4.length : Int) > 300)))) else (none))) = some r := h
 clear h
 replace H := Option.bind_eq_some_iff.mp H
 obtain ⟨t573, A60, H⟩ := H
 replace H : (if t573 = true then (if (l0.length : Int) > 300 then (palletlaw19_EventSpoilt.j0 k l0 a1 a2 a3 l4 t573 true) else (palletlaw19_EventSpoilt.j0 k l0 a1 a2 a3 l4 t573 (decide ((l4.length : Int) > 300)))) else (none)) = some r := H
 have A6 := Aside0.mk A60
 clear A60
 by_cases c7 : t573 = true
 ·subst c7
  have H1 : (if (l0.length : Int) > 300 then (palletlaw19_EventSpoilt.j0 k l0 a1 a2 a3 l4 true true) else (palletlaw19_EventSpoilt.j0 k l0 a1 a2 a3 l4 true (decide ((l4.length : Int) > 300)))) = some r := by rw [if_pos rfl] at H; exact H
  clear H
  have H := H1
  clear H1
  have HC8 := Aside0.mk H
  clear H
  go_enter Tryd.func7, Tryd.ntmps7
  go_upto_region 4 with (first | ((with_reducible refine gate_callee (f := 10) rfl ?_); refine goesL_ (some 32) rfl rfl Tryd.func10 (by kernel_rfl) rfl #[] rfl (by (try simp only [List.map_toArray, List.map_cons, List.map_nil]); first | done | rfl | (simp only [List.length_drop, List.length_take]; first | rfl | (rw [Nat.min_eq_left (Int.toNat_le.2 (of_decide_eq_true (by assumption)))]; rfl))) ?_; (with_reducible refine (palletlaw19_live.calls k  true _ A6.out).mono ?_); rintro e w9 ⟨rfl, hb⟩; refine ⟨_, rfl, ?_⟩; have n0_ := Aside0.mk (below_step (by repeat (first | (with_reducible first | exact HB.out | apply below_alloc | apply pw_below_drewN | apply below_drew1) | exact HB.out)) hb); clear HB; have HB := n0_; clear n0_; (try clear hb); (try clear hb2); (try clear hk); (try clear hi)))
  (try simp only [Act.put, List.setIfInBounds_toArray, List.set_cons_zero, List.set_cons_succ])
  go_cut [42] (fun v42 wc => ∃ (kq : Nat) (x42_7 : Bool), v42 = .bool x42_7 ∧ Aside0 (palletlaw19_EventSpoilt.j0 kq l0 a1 a2 a3 l4 true x42_7 = some r) ∧ Aside0 (kq ≤ k) ∧ Aside0 (Below w.heap.size w wc))
  case first =>
   have H := HC8.out
   clear HC8
   by_cases c10 : (l0.length : Int) > 300
   ·rw [if_pos c10] at H
    have c10b0 : decide (300 < (l0.length : Int)) = true := decide_eq_true c10
    have c10b1 : decide (300 < l0.length) = true := decide_eq_true (by omega)
    clear c10
    (first | rw [c10b0] | (simp only [i64_w, i32_w]; rw [c10b0]) | skip)
    have H' := Aside0.mk H
    clear H
    go_wp2
    go_meet
    case rel => exact ⟨_, (true), (by first | rfl | (simp; done) | (simp [*]; done)), H', ⟨by first | omega | exact Nat.le_refl _⟩, ⟨by repeat (first | (with_reducible first | exact HB.out | apply below_alloc | apply pw_below_drewN | apply below_drew1) | exact HB.out)⟩⟩
   ·rw [if_neg c10] at H
    have c10b0 : decide (300 < (l0.length : Int)) = false := decide_eq_false c10
    have c10b1 : decide (300 < l0.length) = false := decide_eq_false (by omega)
    clear c10
    (first | rw [c10b0] | (simp only [i64_w, i32_w]; rw [c10b0]) | skip)
    have H' := Aside0.mk H
    clear H
    go_wp2
    go_meet
    case rel => exact ⟨_, (decide ((l4.length : Int) > 300)), (by first | rfl | (simp; done) | (simp [*]; done)), H', ⟨by first | omega | exact Nat.le_refl _⟩, ⟨by repeat (first | (with_reducible first | exact HB.out | apply below_alloc | apply pw_below_drewN | apply below_drew1) | exact HB.out)⟩⟩
  case rest =>
   clear HC8
   try clear c1
   try clear p2
   try clear c4
   try clear c7
   try clear c10
   try clear c10b0
   try clear c10b1
   obtain ⟨kq, x42_7, rfl, HA, HJ7, HB⟩ := hcut
   cases kq with
   | zero => exact absurd HA.out (by simp [palletlaw19_EventSpoilt.j0])
   | succ kj7 =>
    have H := HA.out
    clear HA
    simp only [palletlaw19_EventSpoilt.j0] at H
    by_cases c11 : x42_7 = true
    ·subst c11
     have H1 : (some true) = some r := by rw [if_pos rfl] at H; exact H
     clear H
     have H := H1
     clear H1
     obtain rfl := Option.some.inj H
     go_wp2
     go_ret
     exact ⟨by first | rfl | (simp [errW_none, errW_some] <;> rfl) | (simp [*, errW_none, errW_some] <;> rfl), by repeat (first | (with_reducible first | exact HB.out | apply below_alloc | apply pw_below_drewN | apply below_drew1) | exact HB.out)⟩
    ·replace c11 := Bool.eq_false_iff.mpr c11
     subst c11
     have H1 : ((event_Encode.f kj7 l0).bind fun bt574 => (if bt574.2 = 0 then (palletlaw19_EventSpoilt.j1 kj7 a1 a2 a3 l4 true bt574.1 bt574.2 ((bt574.1.length : Int) == 0)) else (palletlaw19_EventSpoilt.j1 kj7 a1 a2 a3 l4 true bt574.1 bt574.2 true))) = some r := by rw [if_neg (show ¬ (false = true) by decide)] at H; exact H
     clear H
     have H := H1
     clear H1
     replace H := Option.bind_eq_some_iff.mp H
     obtain ⟨⟨t574, t575⟩, A120, H⟩ := H
     replace H : (if t575 = 0 then (palletlaw19_EventSpoilt.j1 kj7 a1 a2 a3 l4 true t574 t575 ((t574.length : Int) == 0)) else (palletlaw19_EventSpoilt.j1 kj7 a1 a2 a3 l4 true t574 t575 true)) = some r := H
     have A12 := Aside0.mk A120
     clear A120
     have HC13 := Aside0.mk H
     clear H
     go_upto_region 7 with (first | ((with_reducible refine gate_callee (f := 12) rfl ?_); refine goesL_ (some 46) rfl rfl Tryd.func12 (by kernel_rfl) rfl #[.slice A0 l0.length c0] rfl (by (try simp only [List.map_toArray, List.map_cons, List.map_nil]); first | done | rfl | (simp only [List.length_drop, List.length_take]; first | rfl | (rw [Nat.min_eq_left (Int.toNat_le.2 (of_decide_eq_true (by assumption)))]; rfl))) ?_; (with_reducible refine (event_Encode.calls kj7 _ _ l0 t574 t575 _ ?side1 ?side2 A12.out).mono ?_); (case side1 => repeat (first | exact (Kd.C_below HR0.out HB.out) | (with_reducible refine Kd.C_alloc ?_ _) | (with_reducible refine Kd.C_drewN ?_ _) | (with_reducible refine Kd.C_drew ?_))); (case side2 => exact HC0.out); rintro e w14 ⟨v576, rfl, ho0, hb⟩; refine ⟨_, rfl, ?_⟩; have n0_ := Aside0.mk (Kd.R_lower ho0 (below_size (by repeat (first | (with_reducible first | exact HB.out | apply below_alloc | apply pw_below_drewN | apply below_drew1) | exact HB.out)))); have n1_ := Aside0.mk (below_step (by repeat (first | (with_reducible first | exact HB.out | apply below_alloc | apply pw_below_drewN | apply below_drew1) | exact HB.out)) hb); clear HB; have HO577 := n0_; have HB := n1_; clear n0_ n1_; (try clear hb); (try clear hb2); (try clear hk); (try clear hi); (try clear ho0)))
     (try simp only [Act.put, List.setIfInBounds_toArray, List.set_cons_zero, List.set_cons_succ])
     go_cut [55] (fun v55 wc => ∃ (kq : Nat) (x55_12 : Bool), v55 = .bool x55_12 ∧ Aside0 (palletlaw19_EventSpoilt.j1 kq a1 a2 a3 l4 true t574 t575 x55_12 = some r) ∧ Aside0 (kq ≤ kj7) ∧ Aside0 (Kd.R (Kd.int .u8) 5 wc w.heap.size (fun _ => True) v576 t574) ∧ Aside0 (Below w.heap.size w wc))
     case first =>
      have H := HC13.out
      clear HC13
      by_cases c15 : t575 = 0
      ·rw [if_pos c15] at H
       have c15b0 : (t575 == 0) = true := beq_iff_eq.mpr c15
       have c15b1 : (t575 != 0) = false := bne_eq_false_iff_eq.mpr c15
       clear c15
       (first | rw [c15b0] | (simp only [i64_w, i32_w]; rw [c15b0]) | skip)
       have H' := Aside0.mk H
       clear H
       obtain ⟨Ao16, co16, eo16⟩ := Kd.R_slice HO577.out
       subst eo16
       go_wp2
       go_meet
       case rel => exact ⟨_, (((t574.length : Int) == 0)), (by first | rfl | (simp; done) | (simp [*]; done)), H', ⟨by have := HJ7.out; first | omega | exact Nat.le_refl _⟩, ⟨by (with_reducible repeat (first | apply Kd.R_alloc | apply Kd.R_drewN | apply Kd.R_drew)); exact HO577.out⟩, ⟨by repeat (first | (with_reducible first | exact HB.out | apply below_alloc | apply pw_below_drewN | apply below_drew1) | exact HB.out)⟩⟩
      ·rw [if_neg c15] at H
       have c15b0 : (t575 == 0) = false := beq_eq_false_iff_ne.mpr c15
       have c15b1 : (t575 != 0) = true := bne_iff_ne.mpr c15
       (first | rw [c15b0] | (simp only [i64_w, i32_w]; rw [c15b0]) | skip)
       have H' := Aside0.mk H
       clear H
       go_wp2
       go_meet
       case rel => exact ⟨_, (true), (by first | rfl | (simp; done) | (simp [*]; done)), H', ⟨by have := HJ7.out; first | omega | exact Nat.le_refl _⟩, ⟨by (with_reducible repeat (first | apply Kd.R_alloc | apply Kd.R_drewN | apply Kd.R_drew)); exact HO577.out⟩, ⟨by repeat (first | (with_reducible first | exact HB.out | apply below_alloc | apply pw_below_drewN | apply below_drew1) | exact HB.out)⟩⟩
     case rest =>
      clear HC13
      try clear c1
      try clear p2
      try clear c4
      try clear c7
      try clear c10
      try clear c10b0
      try clear c10b1
      try clear c11
      try clear c12
      try clear c15
      try clear c15b0
      try clear c15b1
      try clear p2
      obtain ⟨kq, x55_12, rfl, HA, HJ12, HO_12, HB⟩ := hcut
      cases kq with
      | zero => exact absurd HA.out (by simp [palletlaw19_EventSpoilt.j1])
      | succ kj12 =>
       have H := HA.out
       clear HA
       simp only [palletlaw19_EventSpoilt.j1] at H
       by_cases c17 : x55_12 = true
       ·subst c17
        have H1 : (if true = true then (some (t575 != 0)) else (none)) = some r := by rw [if_pos rfl] at H; exact H
        clear H
        have H := H1
        clear H1
        have H1 : (some (t575 != 0)) = some r := by first | (rw [if_pos rfl] at H; exact H) | exact H
        clear H
        have H := H1
        clear H1
        obtain rfl := Option.some.inj H
        go_wp2
        go_ret
        exact ⟨by first | rfl | (simp [errW_none, errW_some] <;> rfl) | (simp [*, errW_none, errW_some] <;> rfl), by repeat (first | (with_reducible first | exact HB.out | apply below_alloc | apply pw_below_drewN | apply below_drew1) | exact HB.out)⟩
       ·replace c17 := Bool.eq_false_iff.mpr c17
        subst c17
        have H1 : (if (t574.length : Int) = 0 then (none) else (if 0 ≤ (Int.tmod (wrap64 ((Int.tmod a3 (t574.length : Int)) + (t574.length : Int))) (t574.length : Int)) then (if (Int.tmod (wrap64 ((Int.tmod a3 (t574.length : Int)) + (t574.length : Int))) (t574.length : Int)) ≤ (t574.length : Int) then ((event_Decode.f kj12 (t574.take ((Int.tmod (wrap64 ((Int.tmod a3 (t574.length : Int)) + (t574.length : Int))) (t574.length : Int)) : Int).toNat)).bind fun bt582 => (if bt582.2.2 = 0 then ((crc_Open32.f (t574.take ((Int.tmod (wrap64 ((Int.tmod a3 (t574.length : Int)) + (t574.length : Int))) (t574.length : Int)) : Int).toNat)).bind fun bt591 => (if bt591.2 = 0 then (palletlaw19_EventSpoilt.j2 kj12 a1 a2 l4 true t574) else (none))) else (palletlaw19_EventSpoilt.j2 kj12 a1 a2 l4 true t574))) else (none)) else (none))) = some r := by rw [if_neg (show ¬ (false = true) by decide)] at H; exact H
        clear H
        have H := H1
        clear H1
        by_cases c18 : (t574.length : Int) = 0
        ·rw [if_pos c18] at H
         exact absurd H (by simp)
        ·rw [if_neg c18] at H
         have c18b0 : ((t574.length : Int) == 0) = false := beq_eq_false_iff_ne.mpr c18
         have c18b1 : ((t574.length : Int) != 0) = true := bne_iff_ne.mpr c18
         have c18b2 : ¬ (t574 = []) := fun h_ => c18 (by rw [h_]; rfl)
         obtain ⟨ji19, hji19⟩ : ∃ j_ : Int, (Int.tmod (wrap64 ((Int.tmod a3 (t574.length : Int)) + (t574.length : Int))) (t574.length : Int)) = j_ := ⟨_, rfl⟩
         replace H : (if 0 ≤ (ji19) then (if (ji19) ≤ (t574.length : Int) then ((event_Decode.f kj12 (t574.take ((ji19) : Int).toNat)).bind fun bt582 => (if bt582.2.2 = 0 then ((crc_Open32.f (t574.take ((ji19) : Int).toNat)).bind fun bt591 => (if bt591.2 = 0 then (palletlaw19_EventSpoilt.j2 kj12 a1 a2 l4 true t574) else (none))) else (palletlaw19_EventSpoilt.j2 kj12 a1 a2 l4 true t574))) else (none)) else (none)) = some r := by first | (rw [hji19] at H; exact H) | (simp only [hji19] at H ⊢; exact H)
         by_cases c20 : 0 ≤ (ji19)
         ·rw [if_pos c20] at H
          have c20b0 := eq_true c20
          have c20b1 : decide (0 ≤ (ji19)) = true := decide_eq_true c20
          clear c20
          by_cases c21 : (ji19) ≤ (t574.length : Int)
          ·rw [if_pos c21] at H
           have c21b0 := eq_true c21
           have c21b1 : decide ((ji19) ≤ (t574.length : Int)) = true := decide_eq_true c21
           clear c21
           obtain ⟨y578, hy578⟩ : ∃ y_ : List Int, y_ = (t574.take ((ji19) : Int).toNat) := ⟨_, rfl⟩
           replace H : ((event_Decode.f kj12 y578).bind fun bt582 => (if bt582.2.2 = 0 then ((crc_Open32.f (t574.take ((ji19) : Int).toNat)).bind fun bt591 => (if bt591.2 = 0 then (palletlaw19_EventSpoilt.j2 kj12 a1 a2 l4 true t574) else (none))) else (palletlaw19_EventSpoilt.j2 kj12 a1 a2 l4 true t574))) = some r := by first | (rw [hy578]; with_reducible exact H) | (have H2_ := (Option.bind_some _ _).symm.trans H; rw [hy578]; with_reducible exact H2_) | (have H2_ := (Option.bind_some _ _).symm.trans H; with_reducible exact H2_) | with_reducible exact H | (rw [hy578]; exact H) | exact H
           have Ny578 := Aside0.mk hy578
           clear hy578
           replace H := Option.bind_eq_some_iff.mp H
           obtain ⟨⟨t582, t583, t584⟩, A220, H⟩ := H
           replace H : (if t584 = 0 then ((crc_Open32.f (t574.take ((ji19) : Int).toNat)).bind fun bt591 => (if bt591.2 = 0 then (palletlaw19_EventSpoilt.j2 kj12 a1 a2 l4 true t574) else (none))) else (palletlaw19_EventSpoilt.j2 kj12 a1 a2 l4 true t574)) = some r := H
           have A22 := Aside0.mk A220
           clear A220
           have HC23 := Aside0.mk H
           clear H
           obtain ⟨Ao24, co24, eo24⟩ := Kd.R_slice HO_12.out
           subst eo24
           have q25 : ((ji19) : Int) ≤ ((t574.length : Int) : Int) := of_decide_eq_true (by first | (with_reducible assumption) | assumption)
           obtain ⟨i025, hi025, _, hsz25, _⟩ := info_parts info5
           have hroom25 : t574.length ≤ co24 := (Kd.R_reads' HO_12.out).2.1
           have hC25 : Kd.C (Kd.int .u8) _ Ao24 t574.length t574 := (Kd.R_reads' HO_12.out).2.2
           have hcut25 := cut_to (P := Tryd.prog) 26 5 .i64 Tryd.underlying26 hi025 Ao24 t574.length co24 (ji19) (of_decide_eq_true (by first | (with_reducible assumption) | assumption)) q25 hroom25
           have hr25 := Kd.C_take (m := ((ji19) : Int).toNat) hC25 (by omega)
           have hy25 : y578.length = ((ji19) : Int).toNat := (by rw [Ny578.out, List.length_take]; omega)
           rw [← Ny578.out] at hr25
           rw [← hy25] at hcut25
           have HR581 := Aside0.mk hr25
           have HC581 := Aside0.mk (show y578.length ≤ co24 from by omega)
           clear hr25 hC25 hroom25 hi025 hsz25
           have KY25 := Aside0.mk hy25
           clear hy25
           have KL25 := Aside0.mk (show ((ji19) : Int).toNat ≤ t574.length from by omega)
           replace q25 := eq_true q25
           go_upto_if 80 with (first | ((with_reducible refine gate_callee (f := 24) rfl ?_); refine goesL_ (some 75) rfl rfl Tryd.func24 (by kernel_rfl) rfl #[.slice Ao24 y578.length co24] rfl (by (try simp only [List.map_toArray, List.map_cons, List.map_nil]); first | done | rfl | (simp only [List.length_drop, List.length_take]; first | rfl | (rw [Nat.min_eq_left (Int.toNat_le.2 (of_decide_eq_true (by assumption)))]; rfl))) ?_; (with_reducible refine (event_Decode.calls kj12 _ _ y578 t582 t583 t584 _ ?side1 ?side2 A22.out).mono ?_); (case side1 => repeat (first | exact (by repeat (first | (with_reducible exact HR581.out) | (with_reducible refine Kd.C_alloc ?_ _) | (with_reducible refine Kd.C_drewN ?_ _) | (with_reducible refine Kd.C_drew ?_) | exact HR581.out)) | (with_reducible refine Kd.C_alloc ?_ _) | (with_reducible refine Kd.C_drewN ?_ _) | (with_reducible refine Kd.C_drew ?_))); (case side2 => exact HC581.out); rintro e w26 ⟨v585, rfl, ho0, hb⟩; refine ⟨_, rfl, ?_⟩; have n0_ := Aside0.mk (Kd.R_below (by (with_reducible repeat (first | apply Kd.R_alloc | apply Kd.R_drewN | apply Kd.R_drew)); exact HO_12.out) hb); have n1_ := Aside0.mk (Kd.R_lower ho0 (below_size (by repeat (first | (with_reducible first | exact HB.out | apply below_alloc | apply pw_below_drewN | apply below_drew1) | exact HB.out)))); have n2_ := Aside0.mk (Kd.C_below (by repeat (first | (with_reducible exact HR581.out) | (with_reducible refine Kd.C_alloc ?_ _) | (with_reducible refine Kd.C_drewN ?_ _) | (with_reducible refine Kd.C_drew ?_) | exact HR581.out)) hb); have n3_ := Aside0.mk (below_step (by repeat (first | (with_reducible first | exact HB.out | apply below_alloc | apply pw_below_drewN | apply below_drew1) | exact HB.out)) hb); clear HO_12; clear HR581; clear HB; have HO_12 := n0_; have HO586 := n1_; have HR581 := n2_; have HB := n3_; clear n0_ n1_ n2_ n3_; (try clear hb); (try clear hb2); (try clear hk); (try clear hi); (try clear ho0)))
           (try simp only [Act.put, List.setIfInBounds_toArray, List.set_cons_zero, List.set_cons_succ])
           go_cut [] (fun wc => ∃ (kq : Nat), Aside0 (palletlaw19_EventSpoilt.j2 kq a1 a2 l4 true t574 = some r) ∧ Aside0 (kq ≤ kj12) ∧ Aside0 (Kd.R (Kd.int .u8) 5 wc w.heap.size (fun _ => True) (.slice Ao24 t574.length co24) t574) ∧ Aside0 (Kd.C (Kd.int .u8) wc Ao24 y578.length y578) ∧ Aside0 (Below w.heap.size w wc))
           case first =>
            have H := HC23.out
            clear HC23
            by_cases c27 : t584 = 0
            ·rw [if_pos c27] at H
             have c27b0 : (t584 == 0) = true := beq_iff_eq.mpr c27
             have c27b1 : (t584 != 0) = false := bne_eq_false_iff_eq.mpr c27
             clear c27
             (first | rw [c27b0] | (simp only [i64_w, i32_w]; rw [c27b0]) | skip)
             have c28b0 := eq_true (of_decide_eq_true (by first | (with_reducible assumption) | assumption) : 0 ≤ (ji19))
             have c29b0 := eq_true (of_decide_eq_true (by first | (with_reducible assumption) | assumption) : (ji19) ≤ (t574.length : Int))
             obtain ⟨y587, hy587⟩ : ∃ y_ : List Int, y_ = (t574.take ((ji19) : Int).toNat) := ⟨_, rfl⟩
             replace H : ((crc_Open32.f y587).bind fun bt591 => (if bt591.2 = 0 then (palletlaw19_EventSpoilt.j2 kj12 a1 a2 l4 true t574) else (none))) = some r := by first | (rw [hy587]; with_reducible exact H) | (have H2_ := (Option.bind_some _ _).symm.trans H; rw [hy587]; with_reducible exact H2_) | (have H2_ := (Option.bind_some _ _).symm.trans H; with_reducible exact H2_) | with_reducible exact H | (rw [hy587]; exact H) | exact H
             have Ny587 := Aside0.mk hy587
             clear hy587
             replace H := Option.bind_eq_some_iff.mp H
             obtain ⟨⟨t591, t592⟩, A300, H⟩ := H
             replace H : (if t592 = 0 then (palletlaw19_EventSpoilt.j2 kj12 a1 a2 l4 true t574) else (none)) = some r := H
             have A30 := Aside0.mk A300
             clear A300
             by_cases c31 : t592 = 0
             ·rw [if_pos c31] at H
              have c31b0 : (t592 == 0) = true := beq_iff_eq.mpr c31
              have c31b1 : (t592 != 0) = false := bne_eq_false_iff_eq.mpr c31
              clear c31
              have H' := Aside0.mk H
              clear H
              have q32 : ((ji19) : Int) ≤ ((t574.length : Int) : Int) := of_decide_eq_true (by first | (with_reducible assumption) | assumption)
              obtain ⟨i032, hi032, _, hsz32, _⟩ := info_parts info5
              have hroom32 : t574.length ≤ co24 := (Kd.R_reads' HO_12.out).2.1
              have hC32 : Kd.C (Kd.int .u8) _ Ao24 t574.length t574 := (Kd.R_reads' HO_12.out).2.2
              (try clear hcut25)
              have hcut32 := cut_to (P := Tryd.prog) 26 5 .i64 Tryd.underlying26 hi032 Ao24 t574.length co24 (ji19) (of_decide_eq_true (by first | (with_reducible assumption) | assumption)) q32 hroom32
              have hr32 := Kd.C_take (m := ((ji19) : Int).toNat) hC32 (by omega)
              have hy32 : y587.length = ((ji19) : Int).toNat := (by rw [Ny587.out, List.length_take]; omega)
              rw [← Ny587.out] at hr32
              rw [← hy32] at hcut32
              have HR590 := Aside0.mk hr32
              have HC590 := Aside0.mk (show y587.length ≤ co24 from by omega)
              clear hr32 hC32 hroom32 hi032 hsz32
              have KY32 := Aside0.mk hy32
              clear hy32
              have KL32 := Aside0.mk (show ((ji19) : Int).toNat ≤ t574.length from by omega)
              replace q32 := eq_true q32
              go_wp2_with (first | ((with_reducible refine gate_callee (f := 26) rfl ?_); refine goesL_ (some 85) rfl rfl Tryd.func26 (by kernel_rfl) rfl #[.slice Ao24 y587.length co24] rfl (by (try simp only [List.map_toArray, List.map_cons, List.map_nil]); first | done | rfl | (simp only [List.length_drop, List.length_take]; first | rfl | (rw [Nat.min_eq_left (Int.toNat_le.2 (of_decide_eq_true (by assumption)))]; rfl))) ?_; (with_reducible refine (crc_Open32.calls _ _ y587 t591 t592 _ ?side1 ?side2 A30.out).mono ?_); (case side1 => repeat (first | exact (by repeat (first | (with_reducible exact HR590.out) | (with_reducible refine Kd.C_alloc ?_ _) | (with_reducible refine Kd.C_drewN ?_ _) | (with_reducible refine Kd.C_drew ?_) | exact HR590.out)) | (with_reducible refine Kd.C_alloc ?_ _) | (with_reducible refine Kd.C_drewN ?_ _) | (with_reducible refine Kd.C_drew ?_))); (case side2 => exact HC590.out); rintro e w33 ⟨v593, rfl, ho0, hb⟩; refine ⟨_, rfl, ?_⟩; have n0_ := Aside0.mk (Kd.R_elder' (by (with_reducible repeat (first | apply Kd.R_alloc | apply Kd.R_drewN | apply Kd.R_drew)); exact HO_12.out) (Kd.R_base ho0) hb); have n1_ := Aside0.mk (Kd.R_below (by (with_reducible repeat (first | apply Kd.R_alloc | apply Kd.R_drewN | apply Kd.R_drew)); first | exact HO586.out | exact Kd.R_mono HO586.out (fun _ _ => trivial)) hb); have n2_ := Aside0.mk (Kd.R_lower (Kd.R_new' ho0 (Kd.R_lt (by (with_reducible repeat (first | apply Kd.R_alloc | apply Kd.R_drewN | apply Kd.R_drew)); exact HO_12.out))) (below_size (by repeat (first | (with_reducible first | exact HB.out | apply below_alloc | apply pw_below_drewN | apply below_drew1) | exact HB.out)))); have n3_ := Aside0.mk (Kd.C_below (by repeat (first | (with_reducible exact HR581.out) | (with_reducible refine Kd.C_alloc ?_ _) | (with_reducible refine Kd.C_drewN ?_ _) | (with_reducible refine Kd.C_drew ?_) | exact HR581.out)) hb); have n4_ := Aside0.mk (Kd.C_below (by repeat (first | (with_reducible exact HR590.out) | (with_reducible refine Kd.C_alloc ?_ _) | (with_reducible refine Kd.C_drewN ?_ _) | (with_reducible refine Kd.C_drew ?_) | exact HR590.out)) hb); have n5_ := Aside0.mk (below_step (by repeat (first | (with_reducible first | exact HB.out | apply below_alloc | apply pw_below_drewN | apply below_drew1) | exact HB.out)) hb); clear HO_12; clear HO586; clear HR581; clear HR590; clear HB; have HO_12 := n0_; have HO586 := n1_; have HO594 := n2_; have HR581 := n3_; have HR590 := n4_; have HB := n5_; clear n0_ n1_ n2_ n3_ n4_ n5_; (try clear hb); (try clear hb2); (try clear hk); (try clear hi); (try clear ho0)))
              go_meet
              case rel => exact ⟨_, H', ⟨by have := HJ7.out; have := HJ12.out; first | omega | exact Nat.le_refl _⟩, ⟨by (with_reducible repeat (first | apply Kd.R_alloc | apply Kd.R_drewN | apply Kd.R_drew)); exact Kd.R_mono HO_12.out (fun _ hk => trivial)⟩, ⟨by repeat (first | (with_reducible exact HR581.out) | (with_reducible refine Kd.C_alloc ?_ _) | (with_reducible refine Kd.C_drewN ?_ _) | (with_reducible refine Kd.C_drew ?_) | exact HR581.out)⟩, ⟨by repeat (first | (with_reducible first | exact HB.out | apply below_alloc | apply pw_below_drewN | apply below_drew1) | exact HB.out)⟩⟩
             ·rw [if_neg c31] at H
              exact absurd H (by simp)
            ·rw [if_neg c27] at H
             have c27b0 : (t584 == 0) = false := beq_eq_false_iff_ne.mpr c27
             have c27b1 : (t584 != 0) = true := bne_iff_ne.mpr c27
             (first | rw [c27b0] | (simp only [i64_w, i32_w]; rw [c27b0]) | skip)
             have H' := Aside0.mk H
             clear H
             go_wp2
             go_meet
             case rel => exact ⟨_, H', ⟨by have := HJ7.out; have := HJ12.out; first | omega | exact Nat.le_refl _⟩, ⟨by (with_reducible repeat (first | apply Kd.R_alloc | apply Kd.R_drewN | apply Kd.R_drew)); exact HO_12.out⟩, ⟨by repeat (first | (with_reducible exact HR581.out) | (with_reducible refine Kd.C_alloc ?_ _) | (with_reducible refine Kd.C_drewN ?_ _) | (with_reducible refine Kd.C_drew ?_) | exact HR581.out)⟩, ⟨by repeat (first | (with_reducible first | exact HB.out | apply below_alloc | apply pw_below_drewN | apply below_drew1) | exact HB.out)⟩⟩
           case rest =>
            clear HC23
            try clear c1
            try clear c2
            try clear p2
            try clear q2
            try clear c3
            try clear q3
            try clear c4
            try clear p6
            try clear c7
            try clear c10
            try clear c10b0
            try clear c10b1
            try clear c11
            try clear c12
            try clear c15
            try clear c15b0
            try clear c15b1
            try clear c17
            try clear c18
            try clear c18b0
            try clear c18b1
            try clear c18b2
            try clear c20
            try clear c20b0
            try clear c20b1
            try clear c21
            try clear c21b0
            try clear c21b1
            try clear c24
            try clear q25
            try clear c26
            try clear c27
            try clear c27b0
            try clear c27b1
            try clear c28
            try clear c28b0
            try clear c29
            try clear c29b0
            try clear c31
            try clear c31b0
            try clear c31b1
            try clear q32
            try clear p2
            try clear q25
            try clear q32
            obtain ⟨kq, HA, HJ22, HO_12, HR581, HB⟩ := hcut
            cases kq with
            | zero => exact absurd HA.out (by simp [palletlaw19_EventSpoilt.j2])
            | succ kj22 =>
             have H := HA.out
             clear HA
             simp only [palletlaw19_EventSpoilt.j2] at H
             by_cases c34 : ([] : List Int).length + t574.length < 140737488355328
             ·rw [if_pos c34] at H
              have LMc34 := Aside0.mk c34
              clear c34
              obtain ⟨y595, hy595⟩ : ∃ y_ : List Int, y_ = (([] : List Int) ++ t574) := ⟨_, rfl⟩
              replace H : (if y595.length + l4.length < 140737488355328 then ((event_Decode.f kj22 (y595 ++ l4)).bind fun bt601 => (if bt601.2.2 = 0 then (palletlaw19_EventSpoilt.j3 kj22 a1 a2 l4 true t574 (decide ((l4.length : Int) > 0))) else (palletlaw19_EventSpoilt.j3 kj22 a1 a2 l4 true t574 false))) else (none)) = some r := by first | (rw [hy595]; with_reducible exact H) | (have H2_ := (Option.bind_some _ _).symm.trans H; rw [hy595]; with_reducible exact H2_) | (have H2_ := (Option.bind_some _ _).symm.trans H; with_reducible exact H2_) | with_reducible exact H | (rw [hy595]; exact H) | exact H
              have Ny595 := Aside0.mk hy595
              clear hy595
              by_cases c35 : y595.length + l4.length < 140737488355328
              ·rw [if_pos c35] at H
               have LMc35 := Aside0.mk c35
               clear c35
               obtain ⟨y598, hy598⟩ : ∃ y_ : List Int, y_ = (y595 ++ l4) := ⟨_, rfl⟩
               replace H : ((event_Decode.f kj22 y598).bind fun bt601 => (if bt601.2.2 = 0 then (palletlaw19_EventSpoilt.j3 kj22 a1 a2 l4 true t574 (decide ((l4.length : Int) > 0))) else (palletlaw19_EventSpoilt.j3 kj22 a1 a2 l4 true t574 false))) = some r := by first | (rw [hy598]; with_reducible exact H) | (have H2_ := (Option.bind_some _ _).symm.trans H; rw [hy598]; with_reducible exact H2_) | (have H2_ := (Option.bind_some _ _).symm.trans H; with_reducible exact H2_) | with_reducible exact H | (rw [hy598]; exact H) | exact H
               have Ny598 := Aside0.mk hy598
               clear hy598
               replace H := Option.bind_eq_some_iff.mp H
               obtain ⟨⟨t601, t602, t603⟩, A360, H⟩ := H
               replace H : (if t603 = 0 then (palletlaw19_EventSpoilt.j3 kj22 a1 a2 l4 true t574 (decide ((l4.length : Int) > 0))) else (palletlaw19_EventSpoilt.j3 kj22 a1 a2 l4 true t574 false)) = some r := H
               have A36 := Aside0.mk A360
               clear A360
               have HC37 := Aside0.mk H
               clear H
               go_upto_region 16 with (first | ((with_reducible refine gate_builtin (b := .append) (xs := #[.const (.slice none 0 0), .tmp 91]) rfl ?_); (try (refine gate_guard (by rfl) ?_; dsimp only)); at_builtin; refine Kd.R_append_rows (Kd.int .u8) (w0 := w) w.heap.size rfl (.const (.slice none 0 0)) (.tmp 91) 26 5 (.int .u8 0) 1 rfl Tryd.underlying26 info5 rfl (by decide) (by omega) (.slice none 0 0) ([] : List Int) t574 _ _ _ (fun k_ => some k_ ≠ (.slice Ao24 t574.length co24 : Value).ownBlock) (fun _ => False) rfl rfl ?aO ?aR (fun _ _ h => h) (fun _ h => h.elim) ?aF ?aB ?aS ?aL ?_; (case aR => repeat (first | exact (Kd.R_reads' HO_12.out).2.2 | (with_reducible refine Kd.C_alloc ?_ _) | (with_reducible refine Kd.C_drewN ?_ _) | (with_reducible refine Kd.C_drew ?_))); (case aB => exact (by repeat (first | (with_reducible first | exact HB.out | apply below_alloc | apply pw_below_drewN | apply below_drew1) | exact HB.out))); (case aF => exact (fun k_ hk => Kd.fresh' (Kd.R_lt (by (with_reducible repeat (first | apply Kd.R_alloc | apply Kd.R_drewN | apply Kd.R_drew)); exact HO_12.out)) k_ hk)); (case aO => exact ((Kd.R_nil _ _ _ _ (fun k_ => some k_ ≠ (.slice Ao24 t574.length co24 : Value).ownBlock)))); (case aS => exact (below_size (by repeat (first | (with_reducible first | exact HB.out | apply below_alloc | apply pw_below_drewN | apply below_drew1) | exact HB.out)))); (case aL => have := LMc34.out; omega); intro v596 w38 ho hb hg hat; rw [← Ny595.out] at ho; have n0_ := Aside0.mk (Kd.R_after (Kd.R_apart_nil (by (with_reducible repeat (first | apply Kd.R_alloc | apply Kd.R_drewN | apply Kd.R_drew)); exact HO_12.out)) hg hat); have n1_ := Aside0.mk (hb); have n2_ := Aside0.mk ((show Kd.C (Kd.int .u8) w38 Ao24 y578.length y578 from by rw [Ny578.out]; exact Kd.C_take (m := ((ji19) : Int).toNat) ((Kd.R_reads' (Kd.R_after (Kd.R_apart_nil (by (with_reducible repeat (first | apply Kd.R_alloc | apply Kd.R_drewN | apply Kd.R_drew)); exact HO_12.out)) hg hat)).2.2) KL25.out)); have n3_ := Aside0.mk (ho); clear HO_12; clear HB; clear HR581; have HO_12 := n0_; have HB := n1_; have HR581 := n2_; have HO597 := n3_; clear n0_ n1_ n2_ n3_; clear ho hb hg hat) | ((with_reducible refine gate_builtin (b := .append) (xs := #[.tmp 92, .tmp 93]) rfl ?_); (try (refine gate_guard (by rfl) ?_; dsimp only)); at_builtin; refine Kd.R_append_rows (Kd.int .u8) (w0 := w) w.heap.size rfl (.tmp 92) (.tmp 93) 26 5 (.int .u8 0) 1 rfl Tryd.underlying26 info5 rfl (by decide) (by omega) v596 y595 l4 _ _ _ (fun k_ => some k_ ≠ (.slice Ao24 t574.length co24 : Value).ownBlock) (fun _ => False) rfl rfl ?aO ?aR (fun _ _ h => h) (fun _ h => h.elim) ?aF ?aB ?aS ?aL ?_; (case aR => repeat (first | exact (Kd.C_below HR4.out HB.out) | (with_reducible refine Kd.C_alloc ?_ _) | (with_reducible refine Kd.C_drewN ?_ _) | (with_reducible refine Kd.C_drew ?_))); (case aB => exact (by repeat (first | (with_reducible first | exact HB.out | apply below_alloc | apply pw_below_drewN | apply below_drew1) | exact HB.out))); (case aF => exact (fun k_ hk => Kd.fresh' (Kd.R_lt (by (with_reducible repeat (first | apply Kd.R_alloc | apply Kd.R_drewN | apply Kd.R_drew)); exact HO_12.out)) k_ hk)); (case aO => exact (by (with_reducible repeat (first | apply Kd.R_alloc | apply Kd.R_drewN | apply Kd.R_drew)); first | exact HO597.out | exact Kd.R_mono HO597.out (fun _ _ => trivial))); (case aS => exact (below_size (by repeat (first | (with_reducible first | exact HB.out | apply below_alloc | apply pw_below_drewN | apply below_drew1) | exact HB.out)))); (case aL => have := LMc35.out; omega); intro v599 w39 ho hb hg hat; rw [← Ny598.out] at ho; have n0_ := Aside0.mk (Kd.R_after (ok := (fun _ => True)) (by (with_reducible repeat (first | apply Kd.R_alloc | apply Kd.R_drewN | apply Kd.R_drew)); exact HO_12.out) hg hat); have n1_ := Aside0.mk (hb); have n2_ := Aside0.mk ((show Kd.C (Kd.int .u8) w39 Ao24 y578.length y578 from by rw [Ny578.out]; exact Kd.C_take (m := ((ji19) : Int).toNat) ((Kd.R_reads' (Kd.R_after (ok := (fun _ => True)) (by (with_reducible repeat (first | apply Kd.R_alloc | apply Kd.R_drewN | apply Kd.R_drew)); exact HO_12.out) hg hat)).2.2) KL25.out)); have n3_ := Aside0.mk (ho); clear HO_12; clear HB; clear HR581; clear HO597; have HO_12 := n0_; have HB := n1_; have HR581 := n2_; have HO600 := n3_; clear n0_ n1_ n2_ n3_; clear ho hb hg hat; obtain ⟨Ao40, co40, eo40⟩ := Kd.R_slice HO600.out; subst eo40) | ((with_reducible refine gate_callee (f := 24) rfl ?_); refine goesL_ (some 95) rfl rfl Tryd.func24 (by kernel_rfl) rfl #[.slice Ao40 y598.length co40] rfl (by (try simp only [List.map_toArray, List.map_cons, List.map_nil]); first | done | rfl | (simp only [List.length_drop, List.length_take]; first | rfl | (rw [Nat.min_eq_left (Int.toNat_le.2 (of_decide_eq_true (by assumption)))]; rfl))) ?_; (with_reducible refine (event_Decode.calls kj22 _ _ y598 t601 t602 t603 _ ?side1 ?side2 A36.out).mono ?_); (case side1 => repeat (first | exact (Kd.R_reads' HO600.out).2.2 | (with_reducible refine Kd.C_alloc ?_ _) | (with_reducible refine Kd.C_drewN ?_ _) | (with_reducible refine Kd.C_drew ?_))); (case side2 => exact (Kd.R_reads' HO600.out).2.1); rintro e w41 ⟨v604, rfl, ho0, hb⟩; refine ⟨_, rfl, ?_⟩; have n0_ := Aside0.mk (Kd.R_below (by (with_reducible repeat (first | apply Kd.R_alloc | apply Kd.R_drewN | apply Kd.R_drew)); exact HO_12.out) hb); have n1_ := Aside0.mk (Kd.R_below (by (with_reducible repeat (first | apply Kd.R_alloc | apply Kd.R_drewN | apply Kd.R_drew)); first | exact HO600.out | exact Kd.R_mono HO600.out (fun _ _ => trivial)) hb); have n2_ := Aside0.mk (Kd.R_lower ho0 (below_size (by repeat (first | (with_reducible first | exact HB.out | apply below_alloc | apply pw_below_drewN | apply below_drew1) | exact HB.out)))); have n3_ := Aside0.mk (Kd.C_below (by repeat (first | (with_reducible exact HR581.out) | (with_reducible refine Kd.C_alloc ?_ _) | (with_reducible refine Kd.C_drewN ?_ _) | (with_reducible refine Kd.C_drew ?_) | exact HR581.out)) hb); have n4_ := Aside0.mk (below_step (by repeat (first | (with_reducible first | exact HB.out | apply below_alloc | apply pw_below_drewN | apply below_drew1) | exact HB.out)) hb); clear HO_12; clear HO600; clear HR581; clear HB; have HO_12 := n0_; have HO600 := n1_; have HO605 := n2_; have HR581 := n3_; have HB := n4_; clear n0_ n1_ n2_ n3_ n4_; (try clear hb); (try clear hb2); (try clear hk); (try clear hi); (try clear ho0)))
               (try simp only [Act.put, List.setIfInBounds_toArray, List.set_cons_zero, List.set_cons_succ])
               go_cut [105] (fun v105 wc => ∃ (kq : Nat) (x105_36 : Bool), v105 = .bool x105_36 ∧ Aside0 (palletlaw19_EventSpoilt.j3 kq a1 a2 l4 true t574 x105_36 = some r) ∧ Aside0 (kq ≤ kj22) ∧ Aside0 (Kd.R (Kd.int .u8) 5 wc w.heap.size (fun _ => True) (.slice Ao24 t574.length co24) t574) ∧ Aside0 (Kd.C (Kd.int .u8) wc Ao24 y578.length y578) ∧ Aside0 (Below w.heap.size w wc))
               case first =>
                have H := HC37.out
                clear HC37
                by_cases c42 : t603 = 0
                ·rw [if_pos c42] at H
                 have c42b0 : (t603 == 0) = true := beq_iff_eq.mpr c42
                 have c42b1 : (t603 != 0) = false := bne_eq_false_iff_eq.mpr c42
                 clear c42
                 (first | rw [c42b0] | (simp only [i64_w, i32_w]; rw [c42b0]) | skip)
                 have H' := Aside0.mk H
                 clear H
                 go_wp2
                 go_meet
                 case rel => exact ⟨_, (decide ((l4.length : Int) > 0)), (by first | rfl | (simp; done) | (simp [*]; done)), H', ⟨by have := HJ7.out; have := HJ12.out; have := HJ22.out; first | omega | exact Nat.le_refl _⟩, ⟨by (with_reducible repeat (first | apply Kd.R_alloc | apply Kd.R_drewN | apply Kd.R_drew)); exact Kd.R_mono HO_12.out (fun _ hk => trivial)⟩, ⟨by repeat (first | (with_reducible exact HR581.out) | (with_reducible refine Kd.C_alloc ?_ _) | (with_reducible refine Kd.C_drewN ?_ _) | (with_reducible refine Kd.C_drew ?_) | exact HR581.out)⟩, ⟨by repeat (first | (with_reducible first | exact HB.out | apply below_alloc | apply pw_below_drewN | apply below_drew1) | exact HB.out)⟩⟩
                ·rw [if_neg c42] at H
                 have c42b0 : (t603 == 0) = false := beq_eq_false_iff_ne.mpr c42
                 have c42b1 : (t603 != 0) = true := bne_iff_ne.mpr c42
                 (first | rw [c42b0] | (simp only [i64_w, i32_w]; rw [c42b0]) | skip)
                 have H' := Aside0.mk H
                 clear H
                 go_wp2
                 go_meet
                 case rel => exact ⟨_, (false), (by first | rfl | (simp; done) | (simp [*]; done)), H', ⟨by have := HJ7.out; have := HJ12.out; have := HJ22.out; first | omega | exact Nat.le_refl _⟩, ⟨by (with_reducible repeat (first | apply Kd.R_alloc | apply Kd.R_drewN | apply Kd.R_drew)); exact Kd.R_mono HO_12.out (fun _ hk => trivial)⟩, ⟨by repeat (first | (with_reducible exact HR581.out) | (with_reducible refine Kd.C_alloc ?_ _) | (with_reducible refine Kd.C_drewN ?_ _) | (with_reducible refine Kd.C_drew ?_) | exact HR581.out)⟩, ⟨by repeat (first | (with_reducible first | exact HB.out | apply below_alloc | apply pw_below_drewN | apply below_drew1) | exact HB.out)⟩⟩
               case rest =>
                clear HC37
                try clear c1
                try clear c2
                try clear p2
                try clear q2
                try clear c3
                try clear q3
                try clear c4
                try clear p6
                try clear c7
                try clear c10
                try clear c10b0
                try clear c10b1
                try clear c11
                try clear c12
                try clear c15
                try clear c15b0
                try clear c15b1
                try clear c17
                try clear c18
                try clear c18b0
                try clear c18b1
                try clear c18b2
                try clear c20
                try clear c20b0
                try clear c20b1
                try clear c21
                try clear c21b0
                try clear c21b1
                try clear c24
                try clear q25
                try clear c26
                try clear c27
                try clear c27b0
                try clear c27b1
                try clear c28
                try clear c28b0
                try clear c29
                try clear c29b0
                try clear c31
                try clear c31b0
                try clear c31b1
                try clear q32
                try clear c34
                try clear c35
                try clear c42
                try clear c42b0
                try clear c42b1
                try clear p2
                try clear p6
                try clear q2
                try clear q25
                try clear q3
                try clear q32
                obtain ⟨kq, x105_36, rfl, HA, HJ36, HO_12, HR581, HB⟩ := hcut
                cases kq with
                | zero => exact absurd HA.out (by simp [palletlaw19_EventSpoilt.j3])
                | succ kj36 =>
                 have H := HA.out
                 clear HA
                 simp only [palletlaw19_EventSpoilt.j3] at H
                 have HC43 := Aside0.mk H
                 clear H
                 go_upto_if 105 with (fail)
                 go_cut [] (fun wc => ∃ (kq : Nat), Aside0 (palletlaw19_EventSpoilt.j4 kq a1 a2 true t574 = some r) ∧ Aside0 (kq ≤ kj36) ∧ Aside0 (Kd.R (Kd.int .u8) 5 wc w.heap.size (fun _ => True) (.slice Ao24 t574.length co24) t574) ∧ Aside0 (Kd.C (Kd.int .u8) wc Ao24 y578.length y578) ∧ Aside0 (Below w.heap.size w wc))
                 case first =>
                  have H := HC43.out
                  clear HC43
                  by_cases c44 : x105_36 = true
                  ·subst c44
                   have H1 : (if ([] : List Int).length + t574.length < 140737488355328 then ((some (([] : List Int) ++ t574 : List Int)).bind fun y606 => (if y606.length + l4.length < 140737488355328 then ((crc_Open32.f (y606 ++ l4)).bind fun bt612 => (if bt612.2 = 0 then (palletlaw19_EventSpoilt.j4 kj36 a1 a2 true t574) else (none))) else (none))) else (none)) = some r := by rw [if_pos rfl] at H; exact H
                   clear H
                   have H := H1
                   clear H1
                   by_cases c45 : ([] : List Int).length + t574.length < 140737488355328
                   ·rw [if_pos c45] at H
                    have LMc45 := Aside0.mk c45
                    clear c45
                    obtain ⟨y606, hy606⟩ : ∃ y_ : List Int, y_ = (([] : List Int) ++ t574) := ⟨_, rfl⟩
                    replace H : (if y606.length + l4.length < 140737488355328 then ((crc_Open32.f (y606 ++ l4)).bind fun bt612 => (if bt612.2 = 0 then (palletlaw19_EventSpoilt.j4 kj36 a1 a2 true t574) else (none))) else (none)) = some r := by first | (rw [hy606]; with_reducible exact H) | (have H2_ := (Option.bind_some _ _).symm.trans H; rw [hy606]; with_reducible exact H2_) | (have H2_ := (Option.bind_some _ _).symm.trans H; with_reducible exact H2_) | with_reducible exact H | (rw [hy606]; exact H) | exact H
                    have Ny606 := Aside0.mk hy606
                    clear hy606
                    by_cases c46 : y606.length + l4.length < 140737488355328
                    ·rw [if_pos c46] at H
                     have LMc46 := Aside0.mk c46
                     clear c46
                     obtain ⟨y609, hy609⟩ : ∃ y_ : List Int, y_ = (y606 ++ l4) := ⟨_, rfl⟩
                     replace H : ((crc_Open32.f y609).bind fun bt612 => (if bt612.2 = 0 then (palletlaw19_EventSpoilt.j4 kj36 a1 a2 true t574) else (none))) = some r := by first | (rw [hy609]; with_reducible exact H) | (have H2_ := (Option.bind_some _ _).symm.trans H; rw [hy609]; with_reducible exact H2_) | (have H2_ := (Option.bind_some _ _).symm.trans H; with_reducible exact H2_) | with_reducible exact H | (rw [hy609]; exact H) | exact H
                     have Ny609 := Aside0.mk hy609
                     clear hy609
                     replace H := Option.bind_eq_some_iff.mp H
                     obtain ⟨⟨t612, t613⟩, A470, H⟩ := H
                     replace H : (if t613 = 0 then (palletlaw19_EventSpoilt.j4 kj36 a1 a2 true t574) else (none)) = some r := H
                     have A47 := Aside0.mk A470
                     clear A470
                     by_cases c48 : t613 = 0
                     ·rw [if_pos c48] at H
                      have c48b0 : (t613 == 0) = true := beq_iff_eq.mpr c48
                      have c48b1 : (t613 != 0) = false := bne_eq_false_iff_eq.mpr c48
                      clear c48
                      (first | rw [c48b0] | (simp only [i64_w, i32_w]; rw [c48b0]) | skip)
                      have H' := Aside0.mk H
                      clear H
                      go_wp2_with (first | ((with_reducible refine gate_builtin (b := .append) (xs := #[.const (.slice none 0 0), .tmp 107]) rfl ?_); (try (refine gate_guard (by rfl) ?_; dsimp only)); at_builtin; refine Kd.R_append_rows (Kd.int .u8) (w0 := w) w.heap.size rfl (.const (.slice none 0 0)) (.tmp 107) 26 5 (.int .u8 0) 1 rfl Tryd.underlying26 info5 rfl (by decide) (by omega) (.slice none 0 0) ([] : List Int) t574 _ _ _ (fun k_ => some k_ ≠ (.slice Ao24 t574.length co24 : Value).ownBlock) (fun _ => False) rfl rfl ?aO ?aR (fun _ _ h => h) (fun _ h => h.elim) ?aF ?aB ?aS ?aL ?_; (case aR => repeat (first | exact (Kd.R_reads' HO_12.out).2.2 | (with_reducible refine Kd.C_alloc ?_ _) | (with_reducible refine Kd.C_drewN ?_ _) | (with_reducible refine Kd.C_drew ?_))); (case aB => exact (by repeat (first | (with_reducible first | exact HB.out | apply below_alloc | apply pw_below_drewN | apply below_drew1) | exact HB.out))); (case aF => exact (fun k_ hk => Kd.fresh' (Kd.R_lt (by (with_reducible repeat (first | apply Kd.R_alloc | apply Kd.R_drewN | apply Kd.R_drew)); exact HO_12.out)) k_ hk)); (case aO => exact ((Kd.R_nil _ _ _ _ (fun k_ => some k_ ≠ (.slice Ao24 t574.length co24 : Value).ownBlock)))); (case aS => exact (below_size (by repeat (first | (with_reducible first | exact HB.out | apply below_alloc | apply pw_below_drewN | apply below_drew1) | exact HB.out)))); (case aL => have := LMc45.out; omega); intro v607 w49 ho hb hg hat; rw [← Ny606.out] at ho; have n0_ := Aside0.mk (Kd.R_after (Kd.R_apart_nil (by (with_reducible repeat (first | apply Kd.R_alloc | apply Kd.R_drewN | apply Kd.R_drew)); exact HO_12.out)) hg hat); have n1_ := Aside0.mk (hb); have n2_ := Aside0.mk ((show Kd.C (Kd.int .u8) w49 Ao24 y578.length y578 from by rw [Ny578.out]; exact Kd.C_take (m := ((ji19) : Int).toNat) ((Kd.R_reads' (Kd.R_after (Kd.R_apart_nil (by (with_reducible repeat (first | apply Kd.R_alloc | apply Kd.R_drewN | apply Kd.R_drew)); exact HO_12.out)) hg hat)).2.2) KL25.out)); have n3_ := Aside0.mk (ho); clear HO_12; clear HB; clear HR581; have HO_12 := n0_; have HB := n1_; have HR581 := n2_; have HO608 := n3_; clear n0_ n1_ n2_ n3_; clear ho hb hg hat) | ((with_reducible refine gate_builtin (b := .append) (xs := #[.tmp 108, .tmp 109]) rfl ?_); (try (refine gate_guard (by rfl) ?_; dsimp only)); at_builtin; refine Kd.R_append_rows (Kd.int .u8) (w0 := w) w.heap.size rfl (.tmp 108) (.tmp 109) 26 5 (.int .u8 0) 1 rfl Tryd.underlying26 info5 rfl (by decide) (by omega) v607 y606 l4 _ _ _ (fun k_ => some k_ ≠ (.slice Ao24 t574.length co24 : Value).ownBlock) (fun _ => False) rfl rfl ?aO ?aR (fun _ _ h => h) (fun _ h => h.elim) ?aF ?aB ?aS ?aL ?_; (case aR => repeat (first | exact (Kd.C_below HR4.out HB.out) | (with_reducible refine Kd.C_alloc ?_ _) | (with_reducible refine Kd.C_drewN ?_ _) | (with_reducible refine Kd.C_drew ?_))); (case aB => exact (by repeat (first | (with_reducible first | exact HB.out | apply below_alloc | apply pw_below_drewN | apply below_drew1) | exact HB.out))); (case aF => exact (fun k_ hk => Kd.fresh' (Kd.R_lt (by (with_reducible repeat (first | apply Kd.R_alloc | apply Kd.R_drewN | apply Kd.R_drew)); exact HO_12.out)) k_ hk)); (case aO => exact (by (with_reducible repeat (first | apply Kd.R_alloc | apply Kd.R_drewN | apply Kd.R_drew)); first | exact HO608.out | exact Kd.R_mono HO608.out (fun _ _ => trivial))); (case aS => exact (below_size (by repeat (first | (with_reducible first | exact HB.out | apply below_alloc | apply pw_below_drewN | apply below_drew1) | exact HB.out)))); (case aL => have := LMc46.out; omega); intro v610 w50 ho hb hg hat; rw [← Ny609.out] at ho; have n0_ := Aside0.mk (Kd.R_after (ok := (fun _ => True)) (by (with_reducible repeat (first | apply Kd.R_alloc | apply Kd.R_drewN | apply Kd.R_drew)); exact HO_12.out) hg hat); have n1_ := Aside0.mk (hb); have n2_ := Aside0.mk ((show Kd.C (Kd.int .u8) w50 Ao24 y578.length y578 from by rw [Ny578.out]; exact Kd.C_take (m := ((ji19) : Int).toNat) ((Kd.R_reads' (Kd.R_after (ok := (fun _ => True)) (by (with_reducible repeat (first | apply Kd.R_alloc | apply Kd.R_drewN | apply Kd.R_drew)); exact HO_12.out) hg hat)).2.2) KL25.out)); have n3_ := Aside0.mk (ho); clear HO_12; clear HB; clear HR581; clear HO608; have HO_12 := n0_; have HB := n1_; have HR581 := n2_; have HO611 := n3_; clear n0_ n1_ n2_ n3_; clear ho hb hg hat; obtain ⟨Ao51, co51, eo51⟩ := Kd.R_slice HO611.out; subst eo51) | ((with_reducible refine gate_callee (f := 26) rfl ?_); refine goesL_ (some 111) rfl rfl Tryd.func26 (by kernel_rfl) rfl #[.slice Ao51 y609.length co51] rfl (by (try simp only [List.map_toArray, List.map_cons, List.map_nil]); first | done | rfl | (simp only [List.length_drop, List.length_take]; first | rfl | (rw [Nat.min_eq_left (Int.toNat_le.2 (of_decide_eq_true (by assumption)))]; rfl))) ?_; (with_reducible refine (crc_Open32.calls _ _ y609 t612 t613 _ ?side1 ?side2 A47.out).mono ?_); (case side1 => repeat (first | exact (Kd.R_reads' HO611.out).2.2 | (with_reducible refine Kd.C_alloc ?_ _) | (with_reducible refine Kd.C_drewN ?_ _) | (with_reducible refine Kd.C_drew ?_))); (case side2 => exact (Kd.R_reads' HO611.out).2.1); rintro e w52 ⟨v614, rfl, ho0, hb⟩; refine ⟨_, rfl, ?_⟩; have n0_ := Aside0.mk (Kd.R_elder' (by (with_reducible repeat (first | apply Kd.R_alloc | apply Kd.R_drewN | apply Kd.R_drew)); exact HO_12.out) (Kd.R_base ho0) hb); have n1_ := Aside0.mk (Kd.R_elder' (by (with_reducible repeat (first | apply Kd.R_alloc | apply Kd.R_drewN | apply Kd.R_drew)); first | exact HO611.out | exact Kd.R_mono HO611.out (fun _ _ => trivial)) (Kd.R_base ho0) hb); have n2_ := Aside0.mk (Kd.R_lower (Kd.R_new' (Kd.R_new' ho0 (Kd.R_lt (by (with_reducible repeat (first | apply Kd.R_alloc | apply Kd.R_drewN | apply Kd.R_drew)); exact HO_12.out))) (Kd.R_lt (by (with_reducible repeat (first | apply Kd.R_alloc | apply Kd.R_drewN | apply Kd.R_drew)); first | exact HO611.out | exact Kd.R_mono HO611.out (fun _ _ => trivial)))) (below_size (by repeat (first | (with_reducible first | exact HB.out | apply below_alloc | apply pw_below_drewN | apply below_drew1) | exact HB.out)))); have n3_ := Aside0.mk (Kd.C_below (by repeat (first | (with_reducible exact HR581.out) | (with_reducible refine Kd.C_alloc ?_ _) | (with_reducible refine Kd.C_drewN ?_ _) | (with_reducible refine Kd.C_drew ?_) | exact HR581.out)) hb); have n4_ := Aside0.mk (below_step (by repeat (first | (with_reducible first | exact HB.out | apply below_alloc | apply pw_below_drewN | apply below_drew1) | exact HB.out)) hb); clear HO_12; clear HO611; clear HR581; clear HB; have HO_12 := n0_; have HO611 := n1_; have HO615 := n2_; have HR581 := n3_; have HB := n4_; clear n0_ n1_ n2_ n3_ n4_; (try clear hb); (try clear hb2); (try clear hk); (try clear hi); (try clear ho0)))
                      go_meet
                      case rel => exact ⟨_, H', ⟨by have := HJ7.out; have := HJ12.out; have := HJ22.out; have := HJ36.out; first | omega | exact Nat.le_refl _⟩, ⟨by (with_reducible repeat (first | apply Kd.R_alloc | apply Kd.R_drewN | apply Kd.R_drew)); exact Kd.R_mono HO_12.out (fun _ hk => trivial)⟩, ⟨by repeat (first | (with_reducible exact HR581.out) | (with_reducible refine Kd.C_alloc ?_ _) | (with_reducible refine Kd.C_drewN ?_ _) | (with_reducible refine Kd.C_drew ?_) | exact HR581.out)⟩, ⟨by repeat (first | (with_reducible first | exact HB.out | apply below_alloc | apply pw_below_drewN | apply below_drew1) | exact HB.out)⟩⟩
                     ·rw [if_neg c48] at H
                      exact absurd H (by simp)
                    ·rw [if_neg c46] at H
                     exact absurd H (by simp)
                   ·rw [if_neg c45] at H
                    exact absurd H (by simp)
                  ·replace c44 := Bool.eq_false_iff.mpr c44
                   subst c44
                   have H1 : (palletlaw19_EventSpoilt.j4 kj36 a1 a2 true t574) = some r := by rw [if_neg (show ¬ (false = true) by decide)] at H; exact H
                   clear H
                   have H := H1
                   clear H1
                   have H' := Aside0.mk H
                   clear H
                   go_wp2
                   go_meet
                   case rel => exact ⟨_, H', ⟨by have := HJ7.out; have := HJ12.out; have := HJ22.out; have := HJ36.out; first | omega | exact Nat.le_refl _⟩, ⟨by (with_reducible repeat (first | apply Kd.R_alloc | apply Kd.R_drewN | apply Kd.R_drew)); exact HO_12.out⟩, ⟨by repeat (first | (with_reducible exact HR581.out) | (with_reducible refine Kd.C_alloc ?_ _) | (with_reducible refine Kd.C_drewN ?_ _) | (with_reducible refine Kd.C_drew ?_) | exact HR581.out)⟩, ⟨by repeat (first | (with_reducible first | exact HB.out | apply below_alloc | apply pw_below_drewN | apply below_drew1) | exact HB.out)⟩⟩
                 case rest =>
                  clear HC43
                  try clear c1
                  try clear c2
                  try clear p2
                  try clear q2
                  try clear c3
                  try clear q3
                  try clear c4
                  try clear p6
                  try clear c7
                  try clear c10
                  try clear c10b0
                  try clear c10b1
                  try clear c11
                  try clear c12
                  try clear c15
                  try clear c15b0
                  try clear c15b1
                  try clear c17
                  try clear c18
                  try clear c18b0
                  try clear c18b1
                  try clear c18b2
                  try clear c20
                  try clear c20b0
                  try clear c20b1
                  try clear c21
                  try clear c21b0
                  try clear c21b1
                  try clear c24
                  try clear q25
                  try clear c26
                  try clear c27
                  try clear c27b0
                  try clear c27b1
                  try clear c28
                  try clear c28b0
                  try clear c29
                  try clear c29b0
                  try clear c31
                  try clear c31b0
                  try clear c31b1
                  try clear q32
                  try clear c34
                  try clear c35
                  try clear c42
                  try clear c42b0
                  try clear c42b1
                  try clear c44
                  try clear c45
                  try clear c46
                  try clear c48
                  try clear c48b0
                  try clear c48b1
                  try clear p2
                  try clear p6
                  try clear q2
                  try clear q25
                  try clear q3
                  try clear q32
                  obtain ⟨kq, HA, HJ42, HO_12, HR581, HB⟩ := hcut
                  cases kq with
                  | zero => exact absurd HA.out (by simp [palletlaw19_EventSpoilt.j4])
                  | succ kj42 =>
                   have H := HA.out
                   clear HA
                   simp only [palletlaw19_EventSpoilt.j4] at H
                   by_cases c53 : (wrap64 (8 * (t574.length : Int))) = 0
                   ·rw [if_pos c53] at H
                    exact absurd H (by simp)
                   ·rw [if_neg c53] at H
                    have c53b0 : ((wrap64 (8 * (t574.length : Int))) == 0) = false := beq_eq_false_iff_ne.mpr c53
                    have c53b1 : ((wrap64 (8 * (t574.length : Int))) != 0) = true := bne_iff_ne.mpr c53
                    have H' := Aside0.mk H
                    clear H
                    go_wp2
                    go_loopg [12, 25, 126] kj42 (fun kq v12 v25 v126 w' => ∃ (x12_6 : List Int) (x25_6 : Bool) (x126_6 : Int), v25 = .bool x25_6 ∧ v126 = .int .i64 x126_6 ∧ Aside0 (palletlaw19_EventSpoilt.l0 kq (Int.tmod (wrap64 ((Int.tmod a1 (wrap64 (8 * (t574.length : Int)))) + (wrap64 (8 * (t574.length : Int))))) (wrap64 (8 * (t574.length : Int)))) a2 true x12_6 (wrap64 (8 * (t574.length : Int))) x25_6 x126_6 = some r) ∧ Aside0 (kq ≤ kj42) ∧ Aside0 (Kd.R (Kd.int .u8) 5 w' w.heap.size (fun _ => True) v12 x12_6) ∧ Aside0 (Kd.C (Kd.int .u8) w' Ao24 y578.length y578) ∧ Aside0 (Below w.heap.size w w'))
                    case atStart => exact ⟨(t574), (false), (0), (by first | rfl | (simp; done) | (simp [*]; done)), (by first | rfl | (simp; done) | (simp [*]; done)), H', ⟨Nat.le_refl _⟩, ⟨by (with_reducible repeat (first | apply Kd.R_alloc | apply Kd.R_drewN | apply Kd.R_drew)); exact HO_12.out⟩, ⟨by repeat (first | (with_reducible exact HR581.out) | (with_reducible refine Kd.C_alloc ?_ _) | (with_reducible refine Kd.C_drewN ?_ _) | (with_reducible refine Kd.C_drew ?_) | exact HR581.out)⟩, ⟨by repeat (first | (with_reducible first | exact HB.out | apply below_alloc | apply pw_below_drewN | apply below_drew1) | exact HB.out)⟩⟩
                    case round =>
                     clear H'
                     try clear c1
                     try clear c2
                     try clear p2
                     try clear q2
                     try clear c3
                     try clear q3
                     try clear c4
                     try clear c5
                     try clear p6
                     try clear c7
                     try clear c10
                     try clear c10b0
                     try clear c10b1
                     try clear c11
                     try clear c12
                     try clear c15
                     try clear c15b0
                     try clear c15b1
                     try clear c17
                     try clear c18
                     try clear c18b0
                     try clear c18b1
                     try clear c18b2
                     try clear c20
                     try clear c20b0
                     try clear c20b1
                     try clear c21
                     try clear c21b0
                     try clear c21b1
                     try clear c24
                     try clear q25
                     try clear c26
                     try clear c27
                     try clear c27b0
                     try clear c27b1
                     try clear c28
                     try clear c28b0
                     try clear c29
                     try clear c29b0
                     try clear c31
                     try clear c31b0
                     try clear c31b1
                     try clear q32
                     try clear c34
                     try clear c35
                     try clear c42
                     try clear c42b0
                     try clear c42b1
                     try clear c44
                     try clear c45
                     try clear c46
                     try clear c48
                     try clear c48b0
                     try clear c48b1
                     try clear c53
                     try clear c53b0
                     try clear c53b1
                     try clear p2
                     try clear p6
                     try clear q2
                     try clear q25
                     try clear q3
                     try clear q32
                     obtain ⟨x12_6, x25_6, x126_6, rfl, rfl, HA, HK6, HO_12, HR581, HB⟩ := hrel
                     cases gk with
                     | zero => exact absurd HA.out (by simp [palletlaw19_EventSpoilt.l0])
                     | succ k6 =>
                      have H := HA.out
                      clear HA
                      simp only [palletlaw19_EventSpoilt.l0] at H
                      by_cases c54 : x126_6 < 25
                      ·rw [if_pos c54] at H
                       have c54b0 : decide (x126_6 < 25) = true := decide_eq_true c54
                       clear c54
                       have HC55 := Aside0.mk H
                       clear H
                       go_upto_region 26 with (fail)
                       go_cut [140] (fun v140 wc => ∃ (kq : Nat) (x140_54 : Bool), v140 = .bool x140_54 ∧ Aside0 (palletlaw19_EventSpoilt.j6 kq (Int.tmod (wrap64 ((Int.tmod a1 (wrap64 (8 * (t574.length : Int)))) + (wrap64 (8 * (t574.length : Int))))) (wrap64 (8 * (t574.length : Int)))) a2 true x12_6 (wrap64 (8 * (t574.length : Int))) x25_6 x126_6 x126_6 x140_54 = some r) ∧ Aside0 (kq ≤ k6) ∧ Aside0 (Kd.R (Kd.int .u8) 5 wc w.heap.size (fun _ => True) u12 x12_6) ∧ Aside0 (Kd.C (Kd.int .u8) wc Ao24 y578.length y578) ∧ Aside0 (Below w.heap.size w wc))
                       case first =>
                        have H := HC55.out
                        clear HC55
                        by_cases c56 : 0 ≤ x126_6
                        ·rw [if_pos c56] at H
                         have c56b0 := eq_true c56
                         have c56b1 : decide (0 ≤ x126_6) = true := decide_eq_true c56
                         clear c56
                         obtain ⟨ji57, hji57⟩ : ∃ j_ : Int, (shr .u32 a2 x126_6) = j_ := ⟨_, rfl⟩
                         replace H : (if (Go.bits .and .u32 (ji57) 1) = 1 then (palletlaw19_EventSpoilt.j6 k6 (Int.tmod (wrap64 ((Int.tmod a1 (wrap64 (8 * (t574.length : Int)))) + (wrap64 (8 * (t574.length : Int))))) (wrap64 (8 * (t574.length : Int)))) a2 true x12_6 (wrap64 (8 * (t574.length : Int))) x25_6 x126_6 x126_6 (decide ((wrap64 ((Int.tmod (wrap64 ((Int.tmod a1 (wrap64 (8 * (t574.length : Int)))) + (wrap64 (8 * (t574.length : Int))))) (wrap64 (8 * (t574.length : Int)))) + x126_6)) < (wrap64 (8 * (t574.length : Int)))))) else (palletlaw19_EventSpoilt.j6 k6 (Int.tmod (wrap64 ((Int.tmod a1 (wrap64 (8 * (t574.length : Int)))) + (wrap64 (8 * (t574.length : Int))))) (wrap64 (8 * (t574.length : Int)))) a2 true x12_6 (wrap64 (8 * (t574.length : Int))) x25_6 x126_6 x126_6 false)) = some r := by first | (rw [hji57] at H; exact H) | (simp only [hji57] at H ⊢; exact H)
                         have hji57_ : (a2 / 2 ^ min x126_6.toNat 32) = ji57 := hji57
                         have hji57z : x126_6 ≤ 32 → (a2 / 2 ^ x126_6.toNat) = ji57 := shr_small hji57
                         by_cases c58 : (Go.bits .and .u32 (ji57) 1) = 1
                         ·rw [if_pos c58] at H
                          have c58b0 : ((Go.bits .and .u32 (ji57) 1) == 1) = true := beq_iff_eq.mpr c58
                          have c58b1 : ((Go.bits .and .u32 (ji57) 1) != 1) = false := bne_eq_false_iff_eq.mpr c58
                          clear c58
                          (first | rw [c58b0] | (simp only [i64_w, i32_w]; rw [c58b0]) | skip)
                          have H' := Aside0.mk H
                          clear H
                          go_wp2
                          go_meet
                          case rel => exact ⟨_, (decide ((wrap64 ((Int.tmod (wrap64 ((Int.tmod a1 (wrap64 (8 * (t574.length : Int)))) + (wrap64 (8 * (t574.length : Int))))) (wrap64 (8 * (t574.length : Int)))) + x126_6)) < (wrap64 (8 * (t574.length : Int))))), (by first | rfl | (simp; done) | (simp [*]; done)), H', ⟨by have := HJ7.out; have := HJ12.out; have := HJ22.out; have := HJ36.out; have := HJ42.out; have := HK6.out; first | omega | exact Nat.le_refl _⟩, ⟨by (with_reducible repeat (first | apply Kd.R_alloc | apply Kd.R_drewN | apply Kd.R_drew)); exact HO_12.out⟩, ⟨by repeat (first | (with_reducible exact HR581.out) | (with_reducible refine Kd.C_alloc ?_ _) | (with_reducible refine Kd.C_drewN ?_ _) | (with_reducible refine Kd.C_drew ?_) | exact HR581.out)⟩, ⟨by repeat (first | (with_reducible first | exact HB.out | apply below_alloc | apply pw_below_drewN | apply below_drew1) | exact HB.out)⟩⟩
                         ·rw [if_neg c58] at H
                          have c58b0 : ((Go.bits .and .u32 (ji57) 1) == 1) = false := beq_eq_false_iff_ne.mpr c58
                          have c58b1 : ((Go.bits .and .u32 (ji57) 1) != 1) = true := bne_iff_ne.mpr c58
                          (first | rw [c58b0] | (simp only [i64_w, i32_w]; rw [c58b0]) | skip)
                          have H' := Aside0.mk H
                          clear H
                          go_wp2
                          go_meet
                          case rel => exact ⟨_, (false), (by first | rfl | (simp; done) | (simp [*]; done)), H', ⟨by have := HJ7.out; have := HJ12.out; have := HJ22.out; have := HJ36.out; have := HJ42.out; have := HK6.out; first | omega | exact Nat.le_refl _⟩, ⟨by (with_reducible repeat (first | apply Kd.R_alloc | apply Kd.R_drewN | apply Kd.R_drew)); exact HO_12.out⟩, ⟨by repeat (first | (with_reducible exact HR581.out) | (with_reducible refine Kd.C_alloc ?_ _) | (with_reducible refine Kd.C_drewN ?_ _) | (with_reducible refine Kd.C_drew ?_) | exact HR581.out)⟩, ⟨by repeat (first | (with_reducible first | exact HB.out | apply below_alloc | apply pw_below_drewN | apply below_drew1) | exact HB.out)⟩⟩
                        ·rw [if_neg c56] at H
                         exact absurd H (by simp)
                       case rest =>
                        clear HC55
                        try clear c1
                        try clear c2
                        try clear p2
                        try clear q2
                        try clear c3
                        try clear q3
                        try clear c4
                        try clear c5
                        try clear p6
                        try clear c7
                        try clear c10
                        try clear c10b0
                        try clear c10b1
                        try clear c11
                        try clear c12
                        try clear c15
                        try clear c15b0
                        try clear c15b1
                        try clear c17
                        try clear c18
                        try clear c18b0
                        try clear c18b1
                        try clear c18b2
                        try clear c20
                        try clear c20b0
                        try clear c20b1
                        try clear c21
                        try clear c21b0
                        try clear c21b1
                        try clear c24
                        try clear q25
                        try clear c26
                        try clear c27
                        try clear c27b0
                        try clear c27b1
                        try clear c28
                        try clear c28b0
                        try clear c29
                        try clear c29b0
                        try clear c31
                        try clear c31b0
                        try clear c31b1
                        try clear q32
                        try clear c34
                        try clear c35
                        try clear c42
                        try clear c42b0
                        try clear c42b1
                        try clear c44
                        try clear c45
                        try clear c46
                        try clear c48
                        try clear c48b0
                        try clear c48b1
                        try clear c53
                        try clear c53b0
                        try clear c53b1
                        try clear c54
                        try clear c54b0
                        try clear c56
                        try clear c56b0
                        try clear c56b1
                        try clear c58
                        try clear c58b0
                        try clear c58b1
                        try clear p2
                        try clear p6
                        try clear q2
                        try clear q25
                        try clear q3
                        try clear q32
                        obtain ⟨kq, x140_54, rfl, HA, HJ54, HO_12, HR581, HB⟩ := hcut
                        cases kq with
                        | zero => exact absurd HA.out (by simp [palletlaw19_EventSpoilt.j6])
                        | succ kj54 =>
                         have H := HA.out
                         clear HA
                         simp only [palletlaw19_EventSpoilt.j6] at H
                         by_cases c59 : x140_54 = true
                         ·subst c59
                          have H1 : ((crc_Turn.f x12_6 (wrap64 ((Int.tmod (wrap64 ((Int.tmod a1 (wrap64 (8 * (t574.length : Int)))) + (wrap64 (8 * (t574.length : Int))))) (wrap64 (8 * (t574.length : Int)))) + x126_6))).bind fun bt621 => (if bt621.2 = 0 then (palletlaw19_EventSpoilt.l0 kj54 (Int.tmod (wrap64 ((Int.tmod a1 (wrap64 (8 * (t574.length : Int)))) + (wrap64 (8 * (t574.length : Int))))) (wrap64 (8 * (t574.length : Int)))) a2 true bt621.1 (wrap64 (8 * (t574.length : Int))) true (wrap64 (x126_6 + 1))) else (none))) = some r := by rw [if_pos rfl] at H; exact H
                          clear H
                          have H := H1
                          clear H1
                          replace H := Option.bind_eq_some_iff.mp H
                          obtain ⟨⟨t621, t622⟩, A600, H⟩ := H
                          replace H : (if t622 = 0 then (palletlaw19_EventSpoilt.l0 kj54 (Int.tmod (wrap64 ((Int.tmod a1 (wrap64 (8 * (t574.length : Int)))) + (wrap64 (8 * (t574.length : Int))))) (wrap64 (8 * (t574.length : Int)))) a2 true t621 (wrap64 (8 * (t574.length : Int))) true (wrap64 (x126_6 + 1))) else (none)) = some r := H
                          have A60 := Aside0.mk A600
                          clear A600
                          by_cases c61 : t622 = 0
                          ·rw [if_pos c61] at H
                           have c61b0 : (t622 == 0) = true := beq_iff_eq.mpr c61
                           have c61b1 : (t622 != 0) = false := bne_eq_false_iff_eq.mpr c61
                           clear c61
                           have H' := Aside0.mk H
                           clear H
                           obtain ⟨Ao62, co62, eo62⟩ := Kd.R_slice HO_12.out
                           subst eo62
                           go_wp2_with (first | ((with_reducible refine gate_callee (f := 27) rfl ?_); refine goesL_ (some 146) rfl rfl Tryd.func27 (by kernel_rfl) rfl #[.slice Ao62 x12_6.length co62, .int .i64 (wrap64 ((Int.tmod (wrap64 ((Int.tmod a1 (wrap64 (8 * (t574.length : Int)))) + (wrap64 (8 * (t574.length : Int))))) (wrap64 (8 * (t574.length : Int)))) + x126_6))] rfl (by (try simp only [List.map_toArray, List.map_cons, List.map_nil]); first | done | rfl | (simp only [List.length_drop, List.length_take]; first | rfl | (rw [Nat.min_eq_left (Int.toNat_le.2 (of_decide_eq_true (by assumption)))]; rfl))) ?_; (with_reducible refine (crc_Turn.calls _ _ x12_6 (wrap64 ((Int.tmod (wrap64 ((Int.tmod a1 (wrap64 (8 * (t574.length : Int)))) + (wrap64 (8 * (t574.length : Int))))) (wrap64 (8 * (t574.length : Int)))) + x126_6)) t621 t622 _ ?side1 ?side2 A60.out).mono ?_); (case side1 => repeat (first | exact (Kd.R_reads' HO_12.out).2.2 | (with_reducible refine Kd.C_alloc ?_ _) | (with_reducible refine Kd.C_drewN ?_ _) | (with_reducible refine Kd.C_drew ?_))); (case side2 => exact (Kd.R_reads' HO_12.out).2.1); rintro e w63 ⟨v623, rfl, ho0, hb⟩; refine ⟨_, rfl, ?_⟩; have n0_ := Aside0.mk (Kd.R_elder' (by (with_reducible repeat (first | apply Kd.R_alloc | apply Kd.R_drewN | apply Kd.R_drew)); exact HO_12.out) (Kd.R_base ho0) hb); have n1_ := Aside0.mk (Kd.R_lower (Kd.R_new' ho0 (Kd.R_lt (by (with_reducible repeat (first | apply Kd.R_alloc | apply Kd.R_drewN | apply Kd.R_drew)); exact HO_12.out))) (below_size (by repeat (first | (with_reducible first | exact HB.out | apply below_alloc | apply pw_below_drewN | apply below_drew1) | exact HB.out)))); have n2_ := Aside0.mk (Kd.C_below (by repeat (first | (with_reducible exact HR581.out) | (with_reducible refine Kd.C_alloc ?_ _) | (with_reducible refine Kd.C_drewN ?_ _) | (with_reducible refine Kd.C_drew ?_) | exact HR581.out)) hb); have n3_ := Aside0.mk (below_step (by repeat (first | (with_reducible first | exact HB.out | apply below_alloc | apply pw_below_drewN | apply below_drew1) | exact HB.out)) hb); clear HO_12; clear HR581; clear HB; have HO_12 := n0_; have HO624 := n1_; have HR581 := n2_; have HB := n3_; clear n0_ n1_ n2_ n3_; (try clear hb); (try clear hb2); (try clear hk); (try clear hi); (try clear ho0)))
                           go_roundg kj54
                           case measure => have := HJ7.out; have := HJ12.out; have := HJ22.out; have := HJ36.out; have := HJ42.out; have := HK6.out; have := HJ54.out; omega
                           case rel => exact ⟨(t621), (true), (wrap64 (x126_6 + 1)), (by first | rfl | (simp; done) | (simp [*]; done)), (by first | rfl | (simp; done) | (simp [*]; done)), H', ⟨by have := HJ7.out; have := HJ12.out; have := HJ22.out; have := HJ36.out; have := HJ42.out; have := HK6.out; have := HJ54.out; omega⟩, ⟨by (with_reducible repeat (first | apply Kd.R_alloc | apply Kd.R_drewN | apply Kd.R_drew)); exact Kd.R_mono HO624.out (fun _ hk => trivial)⟩, ⟨by repeat (first | (with_reducible exact HR581.out) | (with_reducible refine Kd.C_alloc ?_ _) | (with_reducible refine Kd.C_drewN ?_ _) | (with_reducible refine Kd.C_drew ?_) | exact HR581.out)⟩, ⟨by repeat (first | (with_reducible first | exact HB.out | apply below_alloc | apply pw_below_drewN | apply below_drew1) | exact HB.out)⟩⟩
                          ·rw [if_neg c61] at H
                           exact absurd H (by simp)
                         ·replace c59 := Bool.eq_false_iff.mpr c59
                          subst c59
                          have H1 : (palletlaw19_EventSpoilt.l0 kj54 (Int.tmod (wrap64 ((Int.tmod a1 (wrap64 (8 * (t574.length : Int)))) + (wrap64 (8 * (t574.length : Int))))) (wrap64 (8 * (t574.length : Int)))) a2 true x12_6 (wrap64 (8 * (t574.length : Int))) x25_6 (wrap64 (x126_6 + 1))) = some r := by rw [if_neg (show ¬ (false = true) by decide)] at H; exact H
                          clear H
                          have H := H1
                          clear H1
                          have H' := Aside0.mk H
                          clear H
                          go_wp2
                          go_roundg kj54
                          case measure => have := HJ7.out; have := HJ12.out; have := HJ22.out; have := HJ36.out; have := HJ42.out; have := HK6.out; have := HJ54.out; omega
                          case rel => exact ⟨(x12_6), (x25_6), (wrap64 (x126_6 + 1)), (by first | rfl | (simp; done) | (simp [*]; done)), (by first | rfl | (simp; done) | (simp [*]; done)), H', ⟨by have := HJ7.out; have := HJ12.out; have := HJ22.out; have := HJ36.out; have := HJ42.out; have := HK6.out; have := HJ54.out; omega⟩, ⟨by (with_reducible repeat (first | apply Kd.R_alloc | apply Kd.R_drewN | apply Kd.R_drew)); exact HO_12.out⟩, ⟨by repeat (first | (with_reducible exact HR581.out) | (with_reducible refine Kd.C_alloc ?_ _) | (with_reducible refine Kd.C_drewN ?_ _) | (with_reducible refine Kd.C_drew ?_) | exact HR581.out)⟩, ⟨by repeat (first | (with_reducible first | exact HB.out | apply below_alloc | apply pw_below_drewN | apply below_drew1) | exact HB.out)⟩⟩
                      ·rw [if_neg c54] at H
                       have c54b0 : decide (x126_6 < 25) = false := decide_eq_false c54
                       clear c54
                       replace H := Option.bind_eq_some_iff.mp H
                       obtain ⟨⟨t616, t617, t618⟩, A640, H⟩ := H
                       replace H : (if true = true then (if ((t618 == 5) == x25_6) = true then (if x25_6 = true then (some true) else (some (t618 == 0))) else (none)) else (none)) = some r := H
                       have A64 := Aside0.mk A640
                       clear A640
                       have H1 : (if ((t618 == 5) == x25_6) = true then (if x25_6 = true then (some true) else (some (t618 == 0))) else (none)) = some r := by first | (rw [if_pos rfl] at H; exact H) | exact H
                       clear H
                       have H := H1
                       clear H1
                       by_cases c65 : ((t618 == 5) == x25_6) = true
                       ·rw [if_pos c65] at H
                        have c65b0 : ((t618 == 5) == x25_6) = true := c65
                        (try (have c65b1 : decide ((t618 == 5) = x25_6) = true := by simpa using c65))
                        (try (have c65b2 : ((t618 == 5) == x25_6) = true := by simpa using c65))
                        clear c65
                        by_cases c66 : x25_6 = true
                        ·subst c66
                         have H1 : (some true) = some r := by rw [if_pos rfl] at H; exact H
                         clear H
                         have H := H1
                         clear H1
                         obtain rfl := Option.some.inj H
                         obtain ⟨Ao67, co67, eo67⟩ := Kd.R_slice HO_12.out
                         subst eo67
                         go_wp2_with (first | ((with_reducible refine gate_callee (f := 24) rfl ?_); refine goesL_ (some 155) rfl rfl Tryd.func24 (by kernel_rfl) rfl #[.slice Ao67 x12_6.length co67] rfl (by (try simp only [List.map_toArray, List.map_cons, List.map_nil]); first | done | rfl | (simp only [List.length_drop, List.length_take]; first | rfl | (rw [Nat.min_eq_left (Int.toNat_le.2 (of_decide_eq_true (by assumption)))]; rfl))) ?_; (with_reducible refine (event_Decode.calls k6 _ _ x12_6 t616 t617 t618 _ ?side1 ?side2 A64.out).mono ?_); (case side1 => repeat (first | exact (Kd.R_reads' HO_12.out).2.2 | (with_reducible refine Kd.C_alloc ?_ _) | (with_reducible refine Kd.C_drewN ?_ _) | (with_reducible refine Kd.C_drew ?_))); (case side2 => exact (Kd.R_reads' HO_12.out).2.1); rintro e w68 ⟨v619, rfl, ho0, hb⟩; refine ⟨_, rfl, ?_⟩; have n0_ := Aside0.mk (Kd.R_below (by (with_reducible repeat (first | apply Kd.R_alloc | apply Kd.R_drewN | apply Kd.R_drew)); exact HO_12.out) hb); have n1_ := Aside0.mk (Kd.R_lower ho0 (below_size (by repeat (first | (with_reducible first | exact HB.out | apply below_alloc | apply pw_below_drewN | apply below_drew1) | exact HB.out)))); have n2_ := Aside0.mk (Kd.C_below (by repeat (first | (with_reducible exact HR581.out) | (with_reducible refine Kd.C_alloc ?_ _) | (with_reducible refine Kd.C_drewN ?_ _) | (with_reducible refine Kd.C_drew ?_) | exact HR581.out)) hb); have n3_ := Aside0.mk (below_step (by repeat (first | (with_reducible first | exact HB.out | apply below_alloc | apply pw_below_drewN | apply below_drew1) | exact HB.out)) hb); clear HO_12; clear HR581; clear HB; have HO_12 := n0_; have HO620 := n1_; have HR581 := n2_; have HB := n3_; clear n0_ n1_ n2_ n3_; (try clear hb); (try clear hb2); (try clear hk); (try clear hi); (try clear ho0)))
                         go_ret
                         exact ⟨by first | rfl | (simp [errW_none, errW_some] <;> rfl) | (simp only [← hji19]; first | rfl | (simp [errW_none, errW_some] <;> rfl)) | (simp [*, errW_none, errW_some] <;> rfl), by repeat (first | (with_reducible first | exact HB.out | apply below_alloc | apply pw_below_drewN | apply below_drew1) | exact HB.out)⟩
                        ·replace c66 := Bool.eq_false_iff.mpr c66
                         subst c66
                         have H1 : (some (t618 == 0)) = some r := by rw [if_neg (show ¬ (false = true) by decide)] at H; exact H
                         clear H
                         have H := H1
                         clear H1
                         obtain rfl := Option.some.inj H
                         obtain ⟨Ao69, co69, eo69⟩ := Kd.R_slice HO_12.out
                         subst eo69
                         go_wp2_with (first | ((with_reducible refine gate_callee (f := 24) rfl ?_); refine goesL_ (some 155) rfl rfl Tryd.func24 (by kernel_rfl) rfl #[.slice Ao69 x12_6.length co69] rfl (by (try simp only [List.map_toArray, List.map_cons, List.map_nil]); first | done | rfl | (simp only [List.length_drop, List.length_take]; first | rfl | (rw [Nat.min_eq_left (Int.toNat_le.2 (of_decide_eq_true (by assumption)))]; rfl))) ?_; (with_reducible refine (event_Decode.calls k6 _ _ x12_6 t616 t617 t618 _ ?side1 ?side2 A64.out).mono ?_); (case side1 => repeat (first | exact (Kd.R_reads' HO_12.out).2.2 | (with_reducible refine Kd.C_alloc ?_ _) | (with_reducible refine Kd.C_drewN ?_ _) | (with_reducible refine Kd.C_drew ?_))); (case side2 => exact (Kd.R_reads' HO_12.out).2.1); rintro e w70 ⟨v619, rfl, ho0, hb⟩; refine ⟨_, rfl, ?_⟩; have n0_ := Aside0.mk (Kd.R_below (by (with_reducible repeat (first | apply Kd.R_alloc | apply Kd.R_drewN | apply Kd.R_drew)); exact HO_12.out) hb); have n1_ := Aside0.mk (Kd.R_lower ho0 (below_size (by repeat (first | (with_reducible first | exact HB.out | apply below_alloc | apply pw_below_drewN | apply below_drew1) | exact HB.out)))); have n2_ := Aside0.mk (Kd.C_below (by repeat (first | (with_reducible exact HR581.out) | (with_reducible refine Kd.C_alloc ?_ _) | (with_reducible refine Kd.C_drewN ?_ _) | (with_reducible refine Kd.C_drew ?_) | exact HR581.out)) hb); have n3_ := Aside0.mk (below_step (by repeat (first | (with_reducible first | exact HB.out | apply below_alloc | apply pw_below_drewN | apply below_drew1) | exact HB.out)) hb); clear HO_12; clear HR581; clear HB; have HO_12 := n0_; have HO620 := n1_; have HR581 := n2_; have HB := n3_; clear n0_ n1_ n2_ n3_; (try clear hb); (try clear hb2); (try clear hk); (try clear hi); (try clear ho0)))
                         go_ret
                         exact ⟨by first | rfl | (simp [errW_none, errW_some] <;> rfl) | (simp only [← hji19]; first | rfl | (simp [errW_none, errW_some] <;> rfl)) | (simp [*, errW_none, errW_some] <;> rfl), by repeat (first | (with_reducible first | exact HB.out | apply below_alloc | apply pw_below_drewN | apply below_drew1) | exact HB.out)⟩
                       ·rw [if_neg c65] at H
                        exact absurd H (by simp)
              ·rw [if_neg c35] at H
               exact absurd H (by simp)
             ·rw [if_neg c34] at H
              exact absurd H (by simp)
          ·rw [if_neg c21] at H
           exact absurd H (by simp)
         ·rw [if_neg c20] at H
          exact absurd H (by simp)
 ·replace c7 := Bool.eq_false_iff.mpr c7
  subst c7
  have H1 : (none) = some r := by rw [if_neg (show ¬ (false = true) by decide)] at H; exact H
  clear H
  have H := H1
  clear H1
  exact absurd H (by simp)

end Go.Proofs.YtcbjbgleflbpmaaDoor.Print
