-- PRINTED by print.py (a twelfth state) out of the translation. Not trusted: Lean checks it.
import Derived.Test.YtcbjbgleflbpmaaDoorPrint0
import Derived.Test.YtcbjbgleflbpmaaDoorPrint1
import Derived.Test.YtcbjbgleflbpmaaDoorPrint11
import Derived.Test.YtcbjbgleflbpmaaDoorPrint14
import Derived.Test.YtcbjbgleflbpmaaDoorPrint21
namespace Go.Proofs.YtcbjbgleflbpmaaDoor.Print
open Go.RowKit Go.Proofs.YtcbjbgleflbpmaaDoorW.PrintWords Go.Proofs.YtcbjbgleflbpmaaDoorW.PrintLast Go.Proofs.YtcbjbgleflbpmaaDoorW.PrintMore Go.Proofs.YtcbjbgleflbpmaaDoorX
attribute [local go_sem] str_lss str_geq max2_int min2_int max_two min_two max_three min_three max_four min_four   -- for this text's walks alone
set_option linter.unusedVariables false
set_option linter.unusedSimpArgs false

attribute [local go_sem high] eqA30
/-! ### palletlaw23_DiffEqual: function 9 -/
mutual
def palletlaw23_DiffEqual.j0 : Nat → List (S30) → List (S30) → Bool → Bool → Option (Bool)
 | 0, _, _, _, _ => none
 | k + 1, x0, x1, x5, x24 => if x24 = true then (some x5) else ((event_Encode.f k x0).bind fun bt319 => ((event_Encode.f k x1).bind fun bt323 => (if bt319.2 = 0 then (palletlaw23_DiffEqual.j1 k x0 x1 x5 bt319.1 bt323.1 (bt323.2 != 0)) else (palletlaw23_DiffEqual.j1 k x0 x1 x5 bt319.1 bt323.1 true))))
def palletlaw23_DiffEqual.j1 : Nat → List (S30) → List (S30) → Bool → List Int → List Int → Bool → Option (Bool)
 | 0, _, _, _, _, _, _ => none
 | k + 1, x0, x1, x5, x6, x8, x41 => if x41 = true then (some x5) else ((diff_Logs.f k x6 x8).bind fun bt327 => (if bt327.2.2.2.2.2.2.2.2.2.2.2.2.2.2 = 0 then (if bt327.2.2.2.2.2.2.2.2.2.2.2.2.1 = 0 then (if bt327.2.2.2.2.2.2.2.2.2.2.2.2.2.1 = 0 then ((palletref02_Same.f x6 x8).bind fun t343 => (if ((bt327.2.1 == 0) != t343) = true then (none) else (if bt327.1 < 0 then (none) else (if bt327.1 > (x0.length : Int) then (none) else (if bt327.1 > (x1.length : Int) then (none) else (if 0 ≤ bt327.1 then (if bt327.1 ≤ (x0.length : Int) then (if bt327.1 ≤ (x1.length : Int) then ((palletref19_Same.f k (x0.take (bt327.1 : Int).toNat) (x1.take (bt327.1 : Int).toNat)).bind fun t352 => (palletlaw23_DiffEqual.j2 k x0 x1 x5 (!t352) bt327.1 bt327.2.1 bt327.2.2.1 bt327.2.2.2.1 bt327.2.2.2.2.1 bt327.2.2.2.2.2.1 bt327.2.2.2.2.2.2.1 bt327.2.2.2.2.2.2.2.1 bt327.2.2.2.2.2.2.2.2.1 bt327.2.2.2.2.2.2.2.2.2.1 bt327.2.2.2.2.2.2.2.2.2.2.1 bt327.2.2.2.2.2.2.2.2.2.2.2.1)) else (none)) else (none)) else (none))))))) else (none)) else (none)) else (none)))
def palletlaw23_DiffEqual.j2 : Nat → List (S30) → List (S30) → Bool → Bool → Int → Int → Int → Int → Int → Int → Int → Int → Int → Int → Int → Int → Option (Bool)
 | 0, _, _, _, _, _, _, _, _, _, _, _, _, _, _, _, _ => none
 | k + 1, x0, x1, x5, x100, x343000, x343001, x343002, x343003, x343004, x343005, x343006, x343007, x343008, x343009, x343010, x343011 => if x100 = true then (none) else (if x343001 = 0 then (if x5 = true then (if (x0.length : Int) = (x1.length : Int) then (some (x343000 == (x0.length : Int))) else (none)) else (none)) else (if x343001 = 1 then (if x5 = true then (if x343000 < (x0.length : Int) then (if x343000 < (x1.length : Int) then (if 0 ≤ x343000 then (if (x343002 == ((rd_T30 x0 x343000).f0) && (x343003 == ((rd_T30 x0 x343000).f1) && (x343004 == ((rd_T30 x0 x343000).f2) && (x343005 == ((rd_T30 x0 x343000).f3) && (x343006 == ((rd_T30 x0 x343000).f4)))))) = true then (if (x343007 == ((rd_T30 x1 x343000).f0) && (x343008 == ((rd_T30 x1 x343000).f1) && (x343009 == ((rd_T30 x1 x343000).f2) && (x343010 == ((rd_T30 x1 x343000).f3) && (x343011 == ((rd_T30 x1 x343000).f4)))))) = true then (some (!(x343002 == x343007) || (!(x343003 == x343008) || (!(x343004 == x343009) || (!(x343005 == x343010) || (!(x343006 == x343011))))))) else (none)) else (none)) else (none)) else (none)) else (none)) else (none)) else (if x343001 = 2 then (if x5 = true then (if x343000 = (x0.length : Int) then (if x343000 < (x1.length : Int) then (if 0 ≤ x343000 then (some (x343007 == ((rd_T30 x1 x343000).f0) && (x343008 == ((rd_T30 x1 x343000).f1) && (x343009 == ((rd_T30 x1 x343000).f2) && (x343010 == ((rd_T30 x1 x343000).f3) && (x343011 == ((rd_T30 x1 x343000).f4))))))) else (none)) else (none)) else (none)) else (none)) else (if x343001 = 3 then (if x5 = true then (if x343000 = (x1.length : Int) then (if x343000 < (x0.length : Int) then (if 0 ≤ x343000 then (some (x343002 == ((rd_T30 x0 x343000).f0) && (x343003 == ((rd_T30 x0 x343000).f1) && (x343004 == ((rd_T30 x0 x343000).f2) && (x343005 == ((rd_T30 x0 x343000).f3) && (x343006 == ((rd_T30 x0 x343000).f4))))))) else (none)) else (none)) else (none)) else (none)) else (none)))))
end
def palletlaw23_DiffEqual.f (k : Nat) (l0 : List (S30)) (l1 : List (S30)) : Option (Bool) := (palletlaw23_live.f k).bind fun t318 => (if t318 = true then (if (l0.length : Int) > 300 then (palletlaw23_DiffEqual.j0 k l0 l1 t318 true) else (palletlaw23_DiffEqual.j0 k l0 l1 t318 (decide ((l1.length : Int) > 300)))) else (none))
theorem palletlaw23_DiffEqual.mono_l : ∀ k, (∀ y0 y1 y2 y3, LeO (palletlaw23_DiffEqual.j0 k y0 y1 y2 y3) (palletlaw23_DiffEqual.j0 (k + 1) y0 y1 y2 y3)) ∧ (∀ y0 y1 y2 y3 y4 y5, LeO (palletlaw23_DiffEqual.j1 k y0 y1 y2 y3 y4 y5) (palletlaw23_DiffEqual.j1 (k + 1) y0 y1 y2 y3 y4 y5)) ∧ (∀ y0 y1 y2 y3 y4 y5 y6 y7 y8 y9 y10 y11 y12 y13 y14 y15, LeO (palletlaw23_DiffEqual.j2 k y0 y1 y2 y3 y4 y5 y6 y7 y8 y9 y10 y11 y12 y13 y14 y15) (palletlaw23_DiffEqual.j2 (k + 1) y0 y1 y2 y3 y4 y5 y6 y7 y8 y9 y10 y11 y12 y13 y14 y15))
 | 0 => ⟨fun _ _ _ _ r h => by simp [palletlaw23_DiffEqual.j0] at h, fun _ _ _ _ _ _ r h => by simp [palletlaw23_DiffEqual.j1] at h, fun _ _ _ _ _ _ _ _ _ _ _ _ _ _ _ _ r h => by simp [palletlaw23_DiffEqual.j2] at h⟩
 | k + 1 => by
  obtain ⟨ih0, ih1, ih2⟩ := palletlaw23_DiffEqual.mono_l k
  refine ⟨?_, ?_, ?_⟩
  ·intro y0 y1 y2 y3
   unfold palletlaw23_DiffEqual.j0
   repeat' first
   | (with_reducible exact ih0 _ _ _ _)
   | (with_reducible exact ih1 _ _ _ _ _ _)
   | (with_reducible exact ih2 _ _ _ _ _ _ _ _ _ _ _ _ _ _ _ _)
   | (with_reducible exact diff_Logs.mono _ _ _)
   | (with_reducible exact event_Encode.mono _ _)
   | (with_reducible exact palletlaw23_live.mono _)
   | (with_reducible exact palletref19_Same.mono _ _ _)
   | (with_reducible exact LeO.refl _)
   | (with_reducible exact LeO.none _)
   | (with_reducible refine LeO.ite ?_ ?_)
   | (with_reducible refine LeO.bind ?_ (fun _ => ?_))
   | exact ih0 _ _ _ _
   | exact ih1 _ _ _ _ _ _
   | exact ih2 _ _ _ _ _ _ _ _ _ _ _ _ _ _ _ _
   | exact diff_Logs.mono _ _ _
   | exact event_Encode.mono _ _
   | exact palletlaw23_live.mono _
   | exact palletref19_Same.mono _ _ _
   | exact LeO.none _
   | refine LeO.ite ?_ ?_
   | refine LeO.bind ?_ (fun _ => ?_)
  ·intro y0 y1 y2 y3 y4 y5
   unfold palletlaw23_DiffEqual.j1
   repeat' first
   | (with_reducible exact ih0 _ _ _ _)
   | (with_reducible exact ih1 _ _ _ _ _ _)
   | (with_reducible exact ih2 _ _ _ _ _ _ _ _ _ _ _ _ _ _ _ _)
   | (with_reducible exact diff_Logs.mono _ _ _)
   | (with_reducible exact event_Encode.mono _ _)
   | (with_reducible exact palletlaw23_live.mono _)
   | (with_reducible exact palletref19_Same.mono _ _ _)
   | (with_reducible exact LeO.refl _)
   | (with_reducible exact LeO.none _)
   | (with_reducible refine LeO.ite ?_ ?_)
   | (with_reducible refine LeO.bind ?_ (fun _ => ?_))
   | exact ih0 _ _ _ _
   | exact ih1 _ _ _ _ _ _
   | exact ih2 _ _ _ _ _ _ _ _ _ _ _ _ _ _ _ _
   | exact diff_Logs.mono _ _ _
   | exact event_Encode.mono _ _
   | exact palletlaw23_live.mono _
   | exact palletref19_Same.mono _ _ _
   | exact LeO.none _
   | refine LeO.ite ?_ ?_
   | refine LeO.bind ?_ (fun _ => ?_)
  ·intro y0 y1 y2 y3 y4 y5 y6 y7 y8 y9 y10 y11 y12 y13 y14 y15
   unfold palletlaw23_DiffEqual.j2
   repeat' first
   | (with_reducible exact ih0 _ _ _ _)
   | (with_reducible exact ih1 _ _ _ _ _ _)
   | (with_reducible exact ih2 _ _ _ _ _ _ _ _ _ _ _ _ _ _ _ _)
   | (with_reducible exact diff_Logs.mono _ _ _)
   | (with_reducible exact event_Encode.mono _ _)
   | (with_reducible exact palletlaw23_live.mono _)
   | (with_reducible exact palletref19_Same.mono _ _ _)
   | (with_reducible exact LeO.refl _)
   | (with_reducible exact LeO.none _)
   | (with_reducible refine LeO.ite ?_ ?_)
   | (with_reducible refine LeO.bind ?_ (fun _ => ?_))
   | exact ih0 _ _ _ _
   | exact ih1 _ _ _ _ _ _
   | exact ih2 _ _ _ _ _ _ _ _ _ _ _ _ _ _ _ _
   | exact diff_Logs.mono _ _ _
   | exact event_Encode.mono _ _
   | exact palletlaw23_live.mono _
   | exact palletref19_Same.mono _ _ _
   | exact LeO.none _
   | refine LeO.ite ?_ ?_
   | refine LeO.bind ?_ (fun _ => ?_)
theorem palletlaw23_DiffEqual.mono : ∀ a0 a1 k, LeO (palletlaw23_DiffEqual.f k a0 a1) (palletlaw23_DiffEqual.f (k + 1) a0 a1) := by
 intro a0 a1 k
 obtain ⟨ih0, ih1, ih2⟩ := palletlaw23_DiffEqual.mono_l k
 unfold palletlaw23_DiffEqual.f
 repeat' first
   | (with_reducible exact ih0 _ _ _ _)
   | (with_reducible exact ih1 _ _ _ _ _ _)
   | (with_reducible exact ih2 _ _ _ _ _ _ _ _ _ _ _ _ _ _ _ _)
   | (with_reducible exact diff_Logs.mono _ _ _)
   | (with_reducible exact event_Encode.mono _ _)
   | (with_reducible exact palletlaw23_live.mono _)
   | (with_reducible exact palletref19_Same.mono _ _ _)
   | (with_reducible exact LeO.refl _)
   | (with_reducible exact LeO.none _)
   | (with_reducible refine LeO.ite ?_ ?_)
   | (with_reducible refine LeO.bind ?_ (fun _ => ?_))
   | exact ih0 _ _ _ _
   | exact ih1 _ _ _ _ _ _
   | exact ih2 _ _ _ _ _ _ _ _ _ _ _ _ _ _ _ _
   | exact diff_Logs.mono _ _ _
   | exact event_Encode.mono _ _
   | exact palletlaw23_live.mono _
   | exact palletref19_Same.mono _ _ _
   | exact LeO.none _
   | refine LeO.ite ?_ ?_
   | refine LeO.bind ?_ (fun _ => ?_)
def palletlaw23_DiffEqual.T11 : Bool × List (List Nat × List Nat) := (true, [([], []), ([0], [0]), ([1], [1]), ([2], [2]), ([3, 2], [2, 3]), ([2, 4], [2, 4]), ([5, 2], [5]), ([6], [6]), ([7, 6], [6, 7]), ([6, 8], [6, 8]), ([9, 6], [9]), ([10], [10]), ([11, 10], [10, 11]), ([12, 10], [10, 12]), ([10], [10]), ([10], [10]), ([14, 15, 10, 10], [10, 14, 15]), ([13, 16, 10], [10, 13, 16]), ([10, 17], [10, 17]), ([18, 16], [18]), ([19], [19]), ([20, 19], [19, 20]), ([21, 19], [19, 21]), ([19, 22], [19, 22]), ([23, 19], [23]), ([24], [24]), ([25, 24], [24, 25]), ([24], [24]), ([27, 24], [24, 27]), ([26, 28, 24], [24, 26, 28]), ([24, 29], [24, 29]), ([30, 24], [30]), ([31], [31]), ([32, 31], [31, 32]), ([31], [31]), ([34, 31], [31, 34]), ([33, 35, 31], [31, 33, 35]), ([31, 36], [31, 36]), ([37, 31], [37]), ([38], [38]), ([38], [38]), ([40, 38], [38, 40]), ([39, 41, 38], [38, 39, 41]), ([38], [38]), ([38], [38]), ([44, 38], [38, 44]), ([43, 45, 38], [38, 43, 45]), ([42, 46, 38, 38], [38, 42, 46]), ([47, 38], [38, 47]), ([38, 48], [38, 48])])
def palletlaw23_DiffEqual.B11 : List Nat := [0, 1, 3, 7, 15, 31, 63, 127, 255, 511, 1023, 2047, 4095, 8191, 2047, 2047, 51199, 131071, 262143, 524287, 1048575, 2097151, 4194303, 8388607, 16777215, 33554431, 67108863, 33554431, 167772159, 536870911, 1073741823, 2147483647, 4294967295, 8589934591, 4294967295, 21474836479, 68719476735, 137438953471, 274877906943, 549755813887, 549755813887, 1649267441663, 4398046511103, 549755813887, 549755813887, 18141941858303, 62122406969343, 140737488355327, 281474976710655, 562949953421311]
theorem palletlaw23_DiffEqual.tab11 : rtab .any (opsOf Tryd.f9 11) = palletlaw23_DiffEqual.T11 := by kernel_rfl
theorem palletlaw23_DiffEqual.bits11 : waitsOk palletlaw23_DiffEqual.T11.2 palletlaw23_DiffEqual.B11 = true := by kernel_rfl
def palletlaw23_DiffEqual.T17 : Bool × List (List Nat × List Nat) := (true, [([], []), ([0], [0]), ([1], [1]), ([2, 1], [1, 2]), ([1], [1]), ([4, 1], [1, 4]), ([3, 5, 1], [1, 3, 5]), ([1, 6], [1, 6]), ([7, 1], [7]), ([8], [8]), ([9, 8], [8, 9]), ([8], [8]), ([11, 8], [8, 11]), ([10, 12, 8], [8, 10, 12]), ([8, 13], [8, 13]), ([14, 8], [14]), ([15], [15]), ([16, 15], [15, 16]), ([15], [15]), ([15], [15]), ([19, 15], [15, 19]), ([18, 20, 15], [15, 18, 20]), ([21, 15], [15, 21]), ([17, 22, 15], [15, 17, 22]), ([15, 23], [15, 23]), ([24, 15], [24]), ([25], [25]), ([26, 25], [25, 26]), ([25], [25]), ([25], [25]), ([29, 25], [25, 29]), ([28, 30, 25], [25, 28, 30]), ([31, 25], [25, 31]), ([27, 32, 25], [25, 27, 32]), ([25, 33], [25, 33]), ([34, 25], [34]), ([35], [35]), ([36, 35], [35, 36]), ([35], [35]), ([38, 35], [35, 38]), ([37, 39, 35], [35, 37, 39]), ([35, 40], [35, 40]), ([41, 35, 0, 1, 2, 3, 4, 5, 6, 7, 8, 9, 10, 11, 12, 13, 14, 15, 16, 17, 18, 19, 20, 21, 22, 23, 24, 25, 26, 27, 28, 29, 30, 31, 32, 33, 34, 35, 36, 37, 38, 39, 40, 41], [41])])
def palletlaw23_DiffEqual.B17 : List Nat := [0, 1, 3, 7, 3, 19, 63, 127, 255, 511, 1023, 511, 2559, 8191, 16383, 32767, 65535, 131071, 65535, 65535, 589823, 1900543, 3997695, 8388607, 16777215, 33554431, 67108863, 134217727, 67108863, 67108863, 603979775, 1946157055, 4093640703, 8589934591, 17179869183, 34359738367, 68719476735, 137438953471, 68719476735, 343597383679, 1099511627775, 2199023255551, 4398046511103]
theorem palletlaw23_DiffEqual.tab17 : rtab .any (opsOf Tryd.f9 17) = palletlaw23_DiffEqual.T17 := by kernel_rfl
theorem palletlaw23_DiffEqual.bits17 : waitsOk palletlaw23_DiffEqual.T17.2 palletlaw23_DiffEqual.B17 = true := by kernel_rfl
def palletlaw23_DiffEqual.T19 : Bool × List (List Nat × List Nat) := (true, [([], []), ([0], [0]), ([1], [1]), ([2, 1], [1, 2]), ([1], [1]), ([4, 1], [1, 4]), ([3, 5, 1], [1, 3, 5]), ([1, 6], [1, 6]), ([7, 1], [7]), ([8], [8]), ([9, 8], [8, 9]), ([8], [8]), ([11, 8], [8, 11]), ([10, 12, 8], [8, 10, 12]), ([8, 13], [8, 13]), ([14, 8], [14]), ([15], [15]), ([16, 15], [15, 16]), ([15], [15]), ([15], [15]), ([19, 15], [15, 19]), ([18, 20, 15], [15, 18, 20]), ([21, 15], [15, 21]), ([17, 22, 15], [15, 17, 22]), ([15, 23], [15, 23]), ([24, 15, 0, 1, 2, 3, 4, 5, 6, 7, 8, 9, 10, 11, 12, 13, 14, 15, 16, 17, 18, 19, 20, 21, 22, 23, 24], [24])])
def palletlaw23_DiffEqual.B19 : List Nat := [0, 1, 3, 7, 3, 19, 63, 127, 255, 511, 1023, 511, 2559, 8191, 16383, 32767, 65535, 131071, 65535, 65535, 589823, 1900543, 3997695, 8388607, 16777215, 33554431]
theorem palletlaw23_DiffEqual.tab19 : rtab .any (opsOf Tryd.f9 19) = palletlaw23_DiffEqual.T19 := by kernel_rfl
theorem palletlaw23_DiffEqual.bits19 : waitsOk palletlaw23_DiffEqual.T19.2 palletlaw23_DiffEqual.B19 = true := by kernel_rfl
def palletlaw23_DiffEqual.T21 : Bool × List (List Nat × List Nat) := (true, [([], []), ([0], [0]), ([1], [1]), ([2, 1], [1, 2]), ([1], [1]), ([4, 1], [1, 4]), ([3, 5, 1], [1, 3, 5]), ([1, 6], [1, 6]), ([7, 1], [7]), ([8], [8]), ([9, 8], [8, 9]), ([8], [8]), ([11, 8], [8, 11]), ([10, 12, 8], [8, 10, 12]), ([8, 13], [8, 13]), ([14, 8], [14]), ([15], [15]), ([16, 15], [15, 16]), ([15], [15]), ([15], [15]), ([19, 15], [15, 19]), ([18, 20, 15], [15, 18, 20]), ([21, 15], [15, 21]), ([17, 22, 15], [15, 17, 22]), ([15, 23], [15, 23]), ([24, 15, 0, 1, 2, 3, 4, 5, 6, 7, 8, 9, 10, 11, 12, 13, 14, 15, 16, 17, 18, 19, 20, 21, 22, 23, 24], [24])])
def palletlaw23_DiffEqual.B21 : List Nat := [0, 1, 3, 7, 3, 19, 63, 127, 255, 511, 1023, 511, 2559, 8191, 16383, 32767, 65535, 131071, 65535, 65535, 589823, 1900543, 3997695, 8388607, 16777215, 33554431]
theorem palletlaw23_DiffEqual.tab21 : rtab .any (opsOf Tryd.f9 21) = palletlaw23_DiffEqual.T21 := by kernel_rfl
theorem palletlaw23_DiffEqual.bits21 : waitsOk palletlaw23_DiffEqual.T21.2 palletlaw23_DiffEqual.B21 = true := by kernel_rfl
set_option maxHeartbeats 8000000 in
set_option maxRecDepth 100000 in
theorem palletlaw23_DiffEqual.calls (k : Nat) (A0 : Option Addr) (c0 : Nat) (l0 : List (S30)) (A1 : Option Addr) (c1 : Nat) (l1 : List (S30)) (r : Bool) (w : World) (hr0 : Kd.C k30 w A0 l0.length l0) (hc0 : l0.length ≤ c0) (hr1 : Kd.C k30 w A1 l1.length l1) (hc1 : l1.length ≤ c1) (hr_ : Aside0 (r = true)) (h : palletlaw23_DiffEqual.f k l0 l1 = some r) :
  Calls Tryd.prog 9 #[.slice A0 l0.length c0, .slice A1 l1.length c1] w fun e w' => e = .returned (.bool r) ∧ Below w.heap.size w w' := by
 have hu50 := Tryd.underlying50
 have hu30 := Tryd.underlying30
 have HR0 := Aside0.mk hr0
 have HC0 := Aside0.mk hc0
 clear hr0 hc0
 have HR1 := Aside0.mk hr1
 have HC1 := Aside0.mk hc1
 clear hr1 hc1
 have HB := Aside0.mk (Below.refl w.heap.size w)
 have H : ((palletlaw23_live.f k).bind fun t318 => (if t318 = true then (if (l0.length : Int) > 300 then (palletlaw23_DiffEqual.j0 k l0 l1 t318 true) else (palletlaw23_DiffEqual.j0 k l0 l1 t318 (decide ((l1.length : Int) > 300)))) else (none))) = some r := h
 clear h
 replace H := Option.bind_eq_some_iff.mp H
 obtain ⟨t318, A30, H⟩ := H
 replace H : (if t318 = true then (if (l0.length : Int) > 300 then (palletlaw23_DiffEqual.j0 k l0 l1 t318 true) else (palletlaw23_DiffEqual.j0 k l0 l1 t318 (decide ((l1.length : Int) > 300)))) else (none)) = some r := H
 have A3 := Aside0.mk A30
 clear A30
 by_cases c4 : t318 = true
 ·subst c4
  have H1 : (if (l0.length : Int) > 300 then (palletlaw23_DiffEqual.j0 k l0 l1 true true) else (palletlaw23_DiffEqual.j0 k l0 l1 true (decide ((l1.length : Int) > 300)))) = some r := by rw [if_pos rfl] at H; exact H
  clear H
  have H := H1
  clear H1
  have HC5 := Aside0.mk H
  clear H
  go_enter Tryd.func9, Tryd.ntmps9
  go_upto_region 4 with (first | ((with_reducible refine gate_callee (f := 28) rfl ?_); refine goesL_ (some 14) rfl rfl Tryd.func28 (by kernel_rfl) rfl #[] rfl (by (try simp only [List.map_toArray, List.map_cons, List.map_nil]); first | done | rfl | (simp only [List.length_drop, List.length_take]; first | rfl | (rw [Nat.min_eq_left (Int.toNat_le.2 (of_decide_eq_true (by assumption)))]; rfl))) ?_; (with_reducible refine (palletlaw23_live.calls k  true _ A3.out).mono ?_); rintro e w6 ⟨rfl, hb⟩; refine ⟨_, rfl, ?_⟩; have n0_ := Aside0.mk (below_step (by repeat (first | (with_reducible first | exact HB.out | apply below_alloc | apply pw_below_drewN | apply below_drew1) | exact HB.out)) hb); clear HB; have HB := n0_; clear n0_; (try clear hb); (try clear hb2); (try clear hk); (try clear hi)))
  (try simp only [Act.put, List.setIfInBounds_toArray, List.set_cons_zero, List.set_cons_succ])
  go_cut [24] (fun v24 wc => ∃ (kq : Nat) (x24_4 : Bool), v24 = .bool x24_4 ∧ Aside0 (palletlaw23_DiffEqual.j0 kq l0 l1 true x24_4 = some r) ∧ Aside0 (kq ≤ k) ∧ Aside0 (Below w.heap.size w wc))
  case first =>
   have H := HC5.out
   clear HC5
   by_cases c7 : (l0.length : Int) > 300
   ·rw [if_pos c7] at H
    have c7b0 : decide (300 < (l0.length : Int)) = true := decide_eq_true c7
    have c7b1 : decide (300 < l0.length) = true := decide_eq_true (by omega)
    clear c7
    (first | rw [c7b0] | (simp only [i64_w, i32_w]; rw [c7b0]) | skip)
    have H' := Aside0.mk H
    clear H
    go_wp2
    go_meet
    case rel => exact ⟨_, (true), (by first | rfl | (simp; done) | (simp [*]; done)), H', ⟨by first | omega | exact Nat.le_refl _⟩, ⟨by repeat (first | (with_reducible first | exact HB.out | apply below_alloc | apply pw_below_drewN | apply below_drew1) | exact HB.out)⟩⟩
   ·rw [if_neg c7] at H
    have c7b0 : decide (300 < (l0.length : Int)) = false := decide_eq_false c7
    have c7b1 : decide (300 < l0.length) = false := decide_eq_false (by omega)
    clear c7
    (first | rw [c7b0] | (simp only [i64_w, i32_w]; rw [c7b0]) | skip)
    have H' := Aside0.mk H
    clear H
    go_wp2
    go_meet
    case rel => exact ⟨_, (decide ((l1.length : Int) > 300)), (by first | rfl | (simp; done) | (simp [*]; done)), H', ⟨by first | omega | exact Nat.le_refl _⟩, ⟨by repeat (first | (with_reducible first | exact HB.out | apply below_alloc | apply pw_below_drewN | apply below_drew1) | exact HB.out)⟩⟩
  case rest =>
   clear HC5
   try clear c1
   try clear c2
   try clear p2
   try clear c4
   try clear c7
   try clear c7b0
   try clear c7b1
   obtain ⟨kq, x24_4, rfl, HA, HJ4, HB⟩ := hcut
   cases kq with
   | zero => exact absurd HA.out (by simp [palletlaw23_DiffEqual.j0])
   | succ kj4 =>
    have H := HA.out
    clear HA
    simp only [palletlaw23_DiffEqual.j0] at H
    by_cases c8 : x24_4 = true
    ·subst c8
     have H1 : (some true) = some r := by rw [if_pos rfl] at H; exact H
     clear H
     have H := H1
     clear H1
     obtain rfl := Option.some.inj H
     go_wp2
     go_ret
     exact ⟨by first | rfl | (simp [errW_none, errW_some] <;> rfl) | (simp [*, errW_none, errW_some] <;> rfl), by repeat (first | (with_reducible first | exact HB.out | apply below_alloc | apply pw_below_drewN | apply below_drew1) | exact HB.out)⟩
    ·replace c8 := Bool.eq_false_iff.mpr c8
     subst c8
     have H1 : ((event_Encode.f kj4 l0).bind fun bt319 => ((event_Encode.f kj4 l1).bind fun bt323 => (if bt319.2 = 0 then (palletlaw23_DiffEqual.j1 kj4 l0 l1 true bt319.1 bt323.1 (bt323.2 != 0)) else (palletlaw23_DiffEqual.j1 kj4 l0 l1 true bt319.1 bt323.1 true)))) = some r := by rw [if_neg (show ¬ (false = true) by decide)] at H; exact H
     clear H
     have H := H1
     clear H1
     replace H := Option.bind_eq_some_iff.mp H
     obtain ⟨⟨t319, t320⟩, A90, H⟩ := H
     replace H : ((event_Encode.f kj4 l1).bind fun bt323 => (if t320 = 0 then (palletlaw23_DiffEqual.j1 kj4 l0 l1 true t319 bt323.1 (bt323.2 != 0)) else (palletlaw23_DiffEqual.j1 kj4 l0 l1 true t319 bt323.1 true))) = some r := H
     have A9 := Aside0.mk A90
     clear A90
     replace H := Option.bind_eq_some_iff.mp H
     obtain ⟨⟨t323, t324⟩, A100, H⟩ := H
     replace H : (if t320 = 0 then (palletlaw23_DiffEqual.j1 kj4 l0 l1 true t319 t323 (t324 != 0)) else (palletlaw23_DiffEqual.j1 kj4 l0 l1 true t319 t323 true)) = some r := H
     have A10 := Aside0.mk A100
     clear A100
     have HC11 := Aside0.mk H
     clear H
     go_upto_region 8 with (first | ((with_reducible refine gate_callee (f := 12) rfl ?_); refine goesL_ (some 28) rfl rfl Tryd.func12 (by kernel_rfl) rfl #[.slice A0 l0.length c0] rfl (by (try simp only [List.map_toArray, List.map_cons, List.map_nil]); first | done | rfl | (simp only [List.length_drop, List.length_take]; first | rfl | (rw [Nat.min_eq_left (Int.toNat_le.2 (of_decide_eq_true (by assumption)))]; rfl))) ?_; (with_reducible refine (event_Encode.calls kj4 _ _ l0 t319 t320 _ ?side1 ?side2 A9.out).mono ?_); (case side1 => repeat (first | exact (Kd.C_below HR0.out HB.out) | (with_reducible refine Kd.C_alloc ?_ _) | (with_reducible refine Kd.C_drewN ?_ _) | (with_reducible refine Kd.C_drew ?_))); (case side2 => exact HC0.out); rintro e w12 ⟨v321, rfl, ho0, hb⟩; refine ⟨_, rfl, ?_⟩; have n0_ := Aside0.mk (Kd.R_lower ho0 (below_size (by repeat (first | (with_reducible first | exact HB.out | apply below_alloc | apply pw_below_drewN | apply below_drew1) | exact HB.out)))); have n1_ := Aside0.mk (below_step (by repeat (first | (with_reducible first | exact HB.out | apply below_alloc | apply pw_below_drewN | apply below_drew1) | exact HB.out)) hb); clear HB; have HO322 := n0_; have HB := n1_; clear n0_ n1_; (try clear hb); (try clear hb2); (try clear hk); (try clear hi); (try clear ho0)) | ((with_reducible refine gate_callee (f := 12) rfl ?_); refine goesL_ (some 33) rfl rfl Tryd.func12 (by kernel_rfl) rfl #[.slice A1 l1.length c1] rfl (by (try simp only [List.map_toArray, List.map_cons, List.map_nil]); first | done | rfl | (simp only [List.length_drop, List.length_take]; first | rfl | (rw [Nat.min_eq_left (Int.toNat_le.2 (of_decide_eq_true (by assumption)))]; rfl))) ?_; (with_reducible refine (event_Encode.calls kj4 _ _ l1 t323 t324 _ ?side1 ?side2 A10.out).mono ?_); (case side1 => repeat (first | exact (Kd.C_below HR1.out HB.out) | (with_reducible refine Kd.C_alloc ?_ _) | (with_reducible refine Kd.C_drewN ?_ _) | (with_reducible refine Kd.C_drew ?_))); (case side2 => exact HC1.out); rintro e w13 ⟨v325, rfl, ho0, hb⟩; refine ⟨_, rfl, ?_⟩; have n0_ := Aside0.mk (Kd.R_elder' (by (with_reducible repeat (first | apply Kd.R_alloc | apply Kd.R_drewN | apply Kd.R_drew)); first | exact HO322.out | exact Kd.R_mono HO322.out (fun _ _ => trivial)) (Kd.R_base ho0) hb); have n1_ := Aside0.mk (Kd.R_lower (Kd.R_new' ho0 (Kd.R_lt (by (with_reducible repeat (first | apply Kd.R_alloc | apply Kd.R_drewN | apply Kd.R_drew)); first | exact HO322.out | exact Kd.R_mono HO322.out (fun _ _ => trivial)))) (below_size (by repeat (first | (with_reducible first | exact HB.out | apply below_alloc | apply pw_below_drewN | apply below_drew1) | exact HB.out)))); have n2_ := Aside0.mk (below_step (by repeat (first | (with_reducible first | exact HB.out | apply below_alloc | apply pw_below_drewN | apply below_drew1) | exact HB.out)) hb); clear HO322; clear HB; have HO322 := n0_; have HO326 := n1_; have HB := n2_; clear n0_ n1_ n2_; (try clear hb); (try clear hb2); (try clear hk); (try clear hi); (try clear ho0)))
     (try simp only [Act.put, List.setIfInBounds_toArray, List.set_cons_zero, List.set_cons_succ])
     go_cut [41] (fun v41 wc => ∃ (kq : Nat) (x41_10 : Bool), v41 = .bool x41_10 ∧ Aside0 (palletlaw23_DiffEqual.j1 kq l0 l1 true t319 t323 x41_10 = some r) ∧ Aside0 (kq ≤ kj4) ∧ Aside0 (Kd.R (Kd.int .u8) 5 wc w.heap.size (fun k_ => some k_ ≠ (v325 : Value).ownBlock) v321 t319) ∧ Aside0 (Kd.R (Kd.int .u8) 5 wc w.heap.size (fun k_ => some k_ ≠ (v321 : Value).ownBlock) v325 t323) ∧ Aside0 (Below w.heap.size w wc))
     case first =>
      have H := HC11.out
      clear HC11
      by_cases c14 : t320 = 0
      ·rw [if_pos c14] at H
       have c14b0 : (t320 == 0) = true := beq_iff_eq.mpr c14
       have c14b1 : (t320 != 0) = false := bne_eq_false_iff_eq.mpr c14
       clear c14
       (first | rw [c14b0] | (simp only [i64_w, i32_w]; rw [c14b0]) | skip)
       have H' := Aside0.mk H
       clear H
       go_wp2
       go_meet
       case rel => exact ⟨_, ((t324 != 0)), (by first | rfl | (simp; done) | (simp [*]; done)), H', ⟨by have := HJ4.out; first | omega | exact Nat.le_refl _⟩, ⟨by (with_reducible repeat (first | apply Kd.R_alloc | apply Kd.R_drewN | apply Kd.R_drew)); exact Kd.R_mono HO322.out (fun _ hk => by first | exact hk.2 | trivial)⟩, ⟨by (with_reducible repeat (first | apply Kd.R_alloc | apply Kd.R_drewN | apply Kd.R_drew)); exact Kd.R_mono HO326.out (fun _ hk => by first | exact hk.2 | trivial)⟩, ⟨by repeat (first | (with_reducible first | exact HB.out | apply below_alloc | apply pw_below_drewN | apply below_drew1) | exact HB.out)⟩⟩
      ·rw [if_neg c14] at H
       have c14b0 : (t320 == 0) = false := beq_eq_false_iff_ne.mpr c14
       have c14b1 : (t320 != 0) = true := bne_iff_ne.mpr c14
       (first | rw [c14b0] | (simp only [i64_w, i32_w]; rw [c14b0]) | skip)
       have H' := Aside0.mk H
       clear H
       go_wp2
       go_meet
       case rel => exact ⟨_, (true), (by first | rfl | (simp; done) | (simp [*]; done)), H', ⟨by have := HJ4.out; first | omega | exact Nat.le_refl _⟩, ⟨by (with_reducible repeat (first | apply Kd.R_alloc | apply Kd.R_drewN | apply Kd.R_drew)); exact Kd.R_mono HO322.out (fun _ hk => by first | exact hk.2 | trivial)⟩, ⟨by (with_reducible repeat (first | apply Kd.R_alloc | apply Kd.R_drewN | apply Kd.R_drew)); exact Kd.R_mono HO326.out (fun _ hk => by first | exact hk.2 | trivial)⟩, ⟨by repeat (first | (with_reducible first | exact HB.out | apply below_alloc | apply pw_below_drewN | apply below_drew1) | exact HB.out)⟩⟩
     case rest =>
      clear HC11
      try clear c1
      try clear c2
      try clear p2
      try clear c4
      try clear c7
      try clear c7b0
      try clear c7b1
      try clear c8
      try clear c9
      try clear c12
      try clear c14
      try clear c14b0
      try clear c14b1
      try clear p2
      obtain ⟨kq, x41_10, rfl, HA, HJ10, HO_6, HO_8, HB⟩ := hcut
      cases kq with
      | zero => exact absurd HA.out (by simp [palletlaw23_DiffEqual.j1])
      | succ kj10 =>
       have H := HA.out
       clear HA
       simp only [palletlaw23_DiffEqual.j1] at H
       by_cases c15 : x41_10 = true
       ·subst c15
        have H1 : (some true) = some r := by rw [if_pos rfl] at H; exact H
        clear H
        have H := H1
        clear H1
        obtain rfl := Option.some.inj H
        go_wp2
        go_ret
        exact ⟨by first | rfl | (simp [errW_none, errW_some] <;> rfl) | (simp [*, errW_none, errW_some] <;> rfl), by repeat (first | (with_reducible first | exact HB.out | apply below_alloc | apply pw_below_drewN | apply below_drew1) | exact HB.out)⟩
       ·replace c15 := Bool.eq_false_iff.mpr c15
        subst c15
        have H1 : ((diff_Logs.f kj10 t319 t323).bind fun bt327 => (if bt327.2.2.2.2.2.2.2.2.2.2.2.2.2.2 = 0 then (if bt327.2.2.2.2.2.2.2.2.2.2.2.2.1 = 0 then (if bt327.2.2.2.2.2.2.2.2.2.2.2.2.2.1 = 0 then ((palletref02_Same.f t319 t323).bind fun t343 => (if ((bt327.2.1 == 0) != t343) = true then (none) else (if bt327.1 < 0 then (none) else (if bt327.1 > (l0.length : Int) then (none) else (if bt327.1 > (l1.length : Int) then (none) else (if 0 ≤ bt327.1 then (if bt327.1 ≤ (l0.length : Int) then (if bt327.1 ≤ (l1.length : Int) then ((palletref19_Same.f kj10 (l0.take (bt327.1 : Int).toNat) (l1.take (bt327.1 : Int).toNat)).bind fun t352 => (palletlaw23_DiffEqual.j2 kj10 l0 l1 true (!t352) bt327.1 bt327.2.1 bt327.2.2.1 bt327.2.2.2.1 bt327.2.2.2.2.1 bt327.2.2.2.2.2.1 bt327.2.2.2.2.2.2.1 bt327.2.2.2.2.2.2.2.1 bt327.2.2.2.2.2.2.2.2.1 bt327.2.2.2.2.2.2.2.2.2.1 bt327.2.2.2.2.2.2.2.2.2.2.1 bt327.2.2.2.2.2.2.2.2.2.2.2.1)) else (none)) else (none)) else (none))))))) else (none)) else (none)) else (none))) = some r := by rw [if_neg (show ¬ (false = true) by decide)] at H; exact H
        clear H
        have H := H1
        clear H1
        replace H := Option.bind_eq_some_iff.mp H
        obtain ⟨⟨t327, t328, t329, t330, t331, t332, t333, t334, t335, t336, t337, t338, t339, t340, t341⟩, A160, H⟩ := H
        replace H : (if t341 = 0 then (if t339 = 0 then (if t340 = 0 then ((palletref02_Same.f t319 t323).bind fun t343 => (if ((t328 == 0) != t343) = true then (none) else (if t327 < 0 then (none) else (if t327 > (l0.length : Int) then (none) else (if t327 > (l1.length : Int) then (none) else (if 0 ≤ t327 then (if t327 ≤ (l0.length : Int) then (if t327 ≤ (l1.length : Int) then ((palletref19_Same.f kj10 (l0.take (t327 : Int).toNat) (l1.take (t327 : Int).toNat)).bind fun t352 => (palletlaw23_DiffEqual.j2 kj10 l0 l1 true (!t352) t327 t328 t329 t330 t331 t332 t333 t334 t335 t336 t337 t338)) else (none)) else (none)) else (none))))))) else (none)) else (none)) else (none)) = some r := H
        have A16 := Aside0.mk A160
        clear A160
        have HC17 := Aside0.mk H
        clear H
        obtain ⟨Ao18, co18, eo18⟩ := Kd.R_slice HO_6.out
        subst eo18
        obtain ⟨Ao19, co19, eo19⟩ := Kd.R_slice HO_8.out
        subst eo19
        go_upto_region 11 with (first | ((with_reducible refine gate_callee (f := 29) rfl ?_); refine goesL_ (some 46) rfl rfl Tryd.func29 (by kernel_rfl) rfl #[.slice Ao18 t319.length co18, .slice Ao19 t323.length co19] rfl (by (try simp only [List.map_toArray, List.map_cons, List.map_nil]); first | done | rfl | (simp only [List.length_drop, List.length_take]; first | rfl | (rw [Nat.min_eq_left (Int.toNat_le.2 (of_decide_eq_true (by assumption)))]; rfl))) ?_; (with_reducible refine (diff_Logs.calls kj10 _ _ t319 _ _ t323 t327 t328 t329 t330 t331 t332 t333 t334 t335 t336 t337 t338 t339 t340 t341 _ ?side1 ?side2 ?side3 ?side4 A16.out).mono ?_); (case side1 => repeat (first | exact (Kd.R_reads' HO_6.out).2.2 | (with_reducible refine Kd.C_alloc ?_ _) | (with_reducible refine Kd.C_drewN ?_ _) | (with_reducible refine Kd.C_drew ?_))); (case side2 => exact (Kd.R_reads' HO_6.out).2.1); (case side3 => repeat (first | exact (Kd.R_reads' HO_8.out).2.2 | (with_reducible refine Kd.C_alloc ?_ _) | (with_reducible refine Kd.C_drewN ?_ _) | (with_reducible refine Kd.C_drew ?_))); (case side4 => exact (Kd.R_reads' HO_8.out).2.1); rintro e w20 ⟨rfl, hb⟩; refine ⟨_, rfl, ?_⟩; have n0_ := Aside0.mk (Kd.R_below (by (with_reducible repeat (first | apply Kd.R_alloc | apply Kd.R_drewN | apply Kd.R_drew)); exact HO_6.out) hb); have n1_ := Aside0.mk (Kd.R_below (by (with_reducible repeat (first | apply Kd.R_alloc | apply Kd.R_drewN | apply Kd.R_drew)); exact HO_8.out) hb); have n2_ := Aside0.mk (below_step (by repeat (first | (with_reducible first | exact HB.out | apply below_alloc | apply pw_below_drewN | apply below_drew1) | exact HB.out)) hb); clear HO_6; clear HO_8; clear HB; have HO_6 := n0_; have HO_8 := n1_; have HB := n2_; clear n0_ n1_ n2_; (try clear hb); (try clear hb2); (try clear hk); (try clear hi)) | ((with_reducible refine gate_dst (N := 10) rfl ?_); (try (refine gate_guard (by rfl) ?_; dsimp only)); refine box_event ?hg (N := 10) ?hd (cs := #[.int .i64 0, .int .i64 0, .int .i64 0, .int .i64 0, .int .i64 0, .int .i64 0, .int .i64 0, .int .i64 0, .int .i64 0, .int .i64 0, .int .i64 0, .int .i64 0]) (t := 50) ?hr ?_; (case hd => rfl); (case hg => rfl); (case hr => first | (go_simp; done) | (go_simp; rfl)); intro gb342 hg w21 hbox hb; have n0_ := Aside0.mk (Kd.R_below (by (with_reducible repeat (first | apply Kd.R_alloc | apply Kd.R_drewN | apply Kd.R_drew)); exact HO_6.out) hb); have n1_ := Aside0.mk (Kd.R_below (by (with_reducible repeat (first | apply Kd.R_alloc | apply Kd.R_drewN | apply Kd.R_drew)); exact HO_8.out) hb); have n2_ := Aside0.mk (below_step (by repeat (first | (with_reducible first | exact HB.out | apply below_alloc | apply pw_below_drewN | apply below_drew1) | exact HB.out)) hb); have n3_ := Aside0.mk (hbox); have n4_ := Aside0.mk ((by rw [hg]; exact (below_size (by repeat (first | (with_reducible first | exact HB.out | apply below_alloc | apply pw_below_drewN | apply below_drew1) | exact HB.out))) : w.heap.size ≤ gb342)); have n5_ := Aside0.mk ((by rw [hg]; exact (below_size (by repeat (first | (with_reducible first | exact HB.out | apply below_alloc | apply pw_below_drewN | apply below_drew1) | exact HB.out))) : w.heap.size ≤ gb342)); clear HO_6; clear HO_8; clear HB; have HO_6 := n0_; have HO_8 := n1_; have HB := n2_; have BK342 := n3_; have GW342 := n4_; have GE342 := n5_; clear n0_ n1_ n2_ n3_ n4_ n5_; clear hb hbox hg; have hcz22_0 : w21.cell? ⟨gb342, 0, none⟩ = some (.int .i64 0) := (blk_cell BK342.out 0).trans rfl; have hcz22_1 : w21.cell? ⟨gb342, 1, none⟩ = some (.int .i64 0) := (blk_cell BK342.out 1).trans rfl; have hcz22_2 : w21.cell? ⟨gb342, 2, none⟩ = some (.int .i64 0) := (blk_cell BK342.out 2).trans rfl; have hcz22_3 : w21.cell? ⟨gb342, 3, none⟩ = some (.int .i64 0) := (blk_cell BK342.out 3).trans rfl; have hcz22_4 : w21.cell? ⟨gb342, 4, none⟩ = some (.int .i64 0) := (blk_cell BK342.out 4).trans rfl; have hcz22_5 : w21.cell? ⟨gb342, 5, none⟩ = some (.int .i64 0) := (blk_cell BK342.out 5).trans rfl; have hcz22_6 : w21.cell? ⟨gb342, 6, none⟩ = some (.int .i64 0) := (blk_cell BK342.out 6).trans rfl; have hcz22_7 : w21.cell? ⟨gb342, 7, none⟩ = some (.int .i64 0) := (blk_cell BK342.out 7).trans rfl; have hcz22_8 : w21.cell? ⟨gb342, 8, none⟩ = some (.int .i64 0) := (blk_cell BK342.out 8).trans rfl; have hcz22_9 : w21.cell? ⟨gb342, 9, none⟩ = some (.int .i64 0) := (blk_cell BK342.out 9).trans rfl; have hcz22_10 : w21.cell? ⟨gb342, 10, none⟩ = some (.int .i64 0) := (blk_cell BK342.out 10).trans rfl; have hcz22_11 : w21.cell? ⟨gb342, 11, none⟩ = some (.int .i64 0) := (blk_cell BK342.out 11).trans rfl; have hfz22_0 := blk_frozen BK342.out 0; have hfz22_1 := blk_frozen BK342.out 1; have hfz22_2 := blk_frozen BK342.out 2; have hfz22_3 := blk_frozen BK342.out 3; have hfz22_4 := blk_frozen BK342.out 4; have hfz22_5 := blk_frozen BK342.out 5; have hfz22_6 := blk_frozen BK342.out 6; have hfz22_7 := blk_frozen BK342.out 7; have hfz22_8 := blk_frozen BK342.out 8; have hfz22_9 := blk_frozen BK342.out 9; have hfz22_10 := blk_frozen BK342.out 10; have hfz22_11 := blk_frozen BK342.out 11))
        (try simp only [Act.put, List.setIfInBounds_toArray, List.set_cons_zero, List.set_cons_succ])
        go_cut [100] (fun v100 wc => ∃ (kq : Nat) (x100_16 : Bool), v100 = .bool x100_16 ∧ Aside0 (palletlaw23_DiffEqual.j2 kq l0 l1 true x100_16 t327 t328 t329 t330 t331 t332 t333 t334 t335 t336 t337 t338 = some r) ∧ Aside0 (kq ≤ kj10) ∧ Aside0 (wc.heap[gb342]? = some (.cells #[.int .i64 t327, .int .i64 t328, .int .i64 t329, .int .i64 t330, .int .i64 t331, .int .i64 t332, .int .i64 t333, .int .i64 t334, .int .i64 t335, .int .i64 t336, .int .i64 t337, .int .i64 t338] 50 (0, 0))) ∧ Aside0 (Below w.heap.size w wc))
        case first =>
         have H := HC17.out
         clear HC17
         by_cases c23 : t341 = 0
         ·rw [if_pos c23] at H
          have c23b0 : (t341 == 0) = true := beq_iff_eq.mpr c23
          have c23b1 : (t341 != 0) = false := bne_eq_false_iff_eq.mpr c23
          clear c23
          (first | rw [c23b0] | (simp only [i64_w, i32_w]; rw [c23b0]) | skip)
          by_cases c24 : t339 = 0
          ·rw [if_pos c24] at H
           have c24b0 : (t339 == 0) = true := beq_iff_eq.mpr c24
           have c24b1 : (t339 != 0) = false := bne_eq_false_iff_eq.mpr c24
           clear c24
           by_cases c25 : t340 = 0
           ·rw [if_pos c25] at H
            have c25b0 : (t340 == 0) = true := beq_iff_eq.mpr c25
            have c25b1 : (t340 != 0) = false := bne_eq_false_iff_eq.mpr c25
            clear c25
            replace H := Option.bind_eq_some_iff.mp H
            obtain ⟨t343, A260, H⟩ := H
            replace H : (if ((t328 == 0) != t343) = true then (none) else (if t327 < 0 then (none) else (if t327 > (l0.length : Int) then (none) else (if t327 > (l1.length : Int) then (none) else (if 0 ≤ t327 then (if t327 ≤ (l0.length : Int) then (if t327 ≤ (l1.length : Int) then ((palletref19_Same.f kj10 (l0.take (t327 : Int).toNat) (l1.take (t327 : Int).toNat)).bind fun t352 => (palletlaw23_DiffEqual.j2 kj10 l0 l1 true (!t352) t327 t328 t329 t330 t331 t332 t333 t334 t335 t336 t337 t338)) else (none)) else (none)) else (none)))))) = some r := H
            have A26 := Aside0.mk A260
            clear A260
            by_cases c27 : ((t328 == 0) != t343) = true
            ·rw [if_pos c27] at H
             exact absurd H (by simp)
            ·rw [if_neg c27] at H
             have c27b0 : ((t328 == 0) != t343) = false := by simpa using c27
             (try (have c27b1 : decide ((t328 == 0) = t343) = true := by simpa using c27))
             (try (have c27b2 : ((t328 == 0) == t343) = true := by simpa using c27))
             clear c27
             by_cases c30 : t327 < 0
             ·rw [if_pos c30] at H
              exact absurd H (by simp)
             ·rw [if_neg c30] at H
              have c30b0 : decide (t327 < 0) = false := decide_eq_false c30
              clear c30
              by_cases c33 : t327 > (l0.length : Int)
              ·rw [if_pos c33] at H
               exact absurd H (by simp)
              ·rw [if_neg c33] at H
               have c33b0 : decide ((l0.length : Int) < t327) = false := decide_eq_false c33
               clear c33
               by_cases c36 : t327 > (l1.length : Int)
               ·rw [if_pos c36] at H
                exact absurd H (by simp)
               ·rw [if_neg c36] at H
                have c36b0 : decide ((l1.length : Int) < t327) = false := decide_eq_false c36
                clear c36
                by_cases c39 : 0 ≤ t327
                ·rw [if_pos c39] at H
                 have c39b0 := eq_true c39
                 have c39b1 : decide (0 ≤ t327) = true := decide_eq_true c39
                 clear c39
                 by_cases c40 : t327 ≤ (l0.length : Int)
                 ·rw [if_pos c40] at H
                  have c40b0 := eq_true c40
                  have c40b1 : decide (t327 ≤ (l0.length : Int)) = true := decide_eq_true c40
                  clear c40
                  obtain ⟨y344, hy344⟩ : ∃ y_ : List (S30), y_ = (l0.take (t327 : Int).toNat) := ⟨_, rfl⟩
                  replace H : (if t327 ≤ (l1.length : Int) then ((palletref19_Same.f kj10 y344 (l1.take (t327 : Int).toNat)).bind fun t352 => (palletlaw23_DiffEqual.j2 kj10 l0 l1 true (!t352) t327 t328 t329 t330 t331 t332 t333 t334 t335 t336 t337 t338)) else (none)) = some r := by first | (rw [hy344]; with_reducible exact H) | (have H2_ := (Option.bind_some _ _).symm.trans H; rw [hy344]; with_reducible exact H2_) | (have H2_ := (Option.bind_some _ _).symm.trans H; with_reducible exact H2_) | with_reducible exact H | (rw [hy344]; exact H) | exact H
                  have Ny344 := Aside0.mk hy344
                  clear hy344
                  have c41b0 := eq_true (of_decide_eq_true (by first | (with_reducible assumption) | assumption) : 0 ≤ t327)
                  by_cases c42 : t327 ≤ (l1.length : Int)
                  ·rw [if_pos c42] at H
                   have c42b0 := eq_true c42
                   have c42b1 : decide (t327 ≤ (l1.length : Int)) = true := decide_eq_true c42
                   clear c42
                   obtain ⟨y348, hy348⟩ : ∃ y_ : List (S30), y_ = (l1.take (t327 : Int).toNat) := ⟨_, rfl⟩
                   replace H : ((palletref19_Same.f kj10 y344 y348).bind fun t352 => (palletlaw23_DiffEqual.j2 kj10 l0 l1 true (!t352) t327 t328 t329 t330 t331 t332 t333 t334 t335 t336 t337 t338)) = some r := by first | (rw [hy348]; with_reducible exact H) | (have H2_ := (Option.bind_some _ _).symm.trans H; rw [hy348]; with_reducible exact H2_) | (have H2_ := (Option.bind_some _ _).symm.trans H; with_reducible exact H2_) | with_reducible exact H | (rw [hy348]; exact H) | exact H
                   have Ny348 := Aside0.mk hy348
                   clear hy348
                   replace H := Option.bind_eq_some_iff.mp H
                   obtain ⟨t352, A430, H⟩ := H
                   replace H : (palletlaw23_DiffEqual.j2 kj10 l0 l1 true (!t352) t327 t328 t329 t330 t331 t332 t333 t334 t335 t336 t337 t338) = some r := H
                   have A43 := Aside0.mk A430
                   clear A430
                   have H' := Aside0.mk H
                   clear H
                   try go_wp2
                   have n0_ : Aside0 (Kd.R (Kd.int .u8) 5 ((((((((((((w21.setCell ⟨gb342, 0, none⟩ (.int .i64 t327)).setCell ⟨gb342, 1, none⟩ (.int .i64 t328)).setCell ⟨gb342, 2, none⟩ (.int .i64 t329)).setCell ⟨gb342, 3, none⟩ (.int .i64 t330)).setCell ⟨gb342, 4, none⟩ (.int .i64 t331)).setCell ⟨gb342, 5, none⟩ (.int .i64 t332)).setCell ⟨gb342, 6, none⟩ (.int .i64 t333)).setCell ⟨gb342, 7, none⟩ (.int .i64 t334)).setCell ⟨gb342, 8, none⟩ (.int .i64 t335)).setCell ⟨gb342, 9, none⟩ (.int .i64 t336)).setCell ⟨gb342, 10, none⟩ (.int .i64 t337)).setCell ⟨gb342, 11, none⟩ (.int .i64 t338)) w.heap.size (fun k_ => some k_ ≠ (.slice Ao19 t323.length co19 : Value).ownBlock) (.slice Ao18 t319.length co18) t319) := ⟨by (with_reducible repeat (first | apply Kd.R_alloc | apply Kd.R_drewN | apply Kd.R_drew)); exact Kd.R_mono (Kd.R_far (p := ⟨gb342, 11, none⟩) (Kd.R_far (p := ⟨gb342, 10, none⟩) (Kd.R_far (p := ⟨gb342, 9, none⟩) (Kd.R_far (p := ⟨gb342, 8, none⟩) (Kd.R_far (p := ⟨gb342, 7, none⟩) (Kd.R_far (p := ⟨gb342, 6, none⟩) (Kd.R_far (p := ⟨gb342, 5, none⟩) (Kd.R_far (p := ⟨gb342, 4, none⟩) (Kd.R_far (p := ⟨gb342, 3, none⟩) (Kd.R_far (p := ⟨gb342, 2, none⟩) (Kd.R_far (p := ⟨gb342, 1, none⟩) (Kd.R_far (p := ⟨gb342, 0, none⟩) (Kd.R_types HO_6.out BK342.out (by decide)) (fun _ hk => hk.2) (.int .i64 t327)) (fun _ hk => hk.2) (.int .i64 t328)) (fun _ hk => hk.2) (.int .i64 t329)) (fun _ hk => hk.2) (.int .i64 t330)) (fun _ hk => hk.2) (.int .i64 t331)) (fun _ hk => hk.2) (.int .i64 t332)) (fun _ hk => hk.2) (.int .i64 t333)) (fun _ hk => hk.2) (.int .i64 t334)) (fun _ hk => hk.2) (.int .i64 t335)) (fun _ hk => hk.2) (.int .i64 t336)) (fun _ hk => hk.2) (.int .i64 t337)) (fun _ hk => hk.2) (.int .i64 t338)) (fun _ hk => hk.1)⟩
                   have n1_ : Aside0 (Kd.R (Kd.int .u8) 5 ((((((((((((w21.setCell ⟨gb342, 0, none⟩ (.int .i64 t327)).setCell ⟨gb342, 1, none⟩ (.int .i64 t328)).setCell ⟨gb342, 2, none⟩ (.int .i64 t329)).setCell ⟨gb342, 3, none⟩ (.int .i64 t330)).setCell ⟨gb342, 4, none⟩ (.int .i64 t331)).setCell ⟨gb342, 5, none⟩ (.int .i64 t332)).setCell ⟨gb342, 6, none⟩ (.int .i64 t333)).setCell ⟨gb342, 7, none⟩ (.int .i64 t334)).setCell ⟨gb342, 8, none⟩ (.int .i64 t335)).setCell ⟨gb342, 9, none⟩ (.int .i64 t336)).setCell ⟨gb342, 10, none⟩ (.int .i64 t337)).setCell ⟨gb342, 11, none⟩ (.int .i64 t338)) w.heap.size (fun k_ => some k_ ≠ (.slice Ao18 t319.length co18 : Value).ownBlock) (.slice Ao19 t323.length co19) t323) := ⟨by (with_reducible repeat (first | apply Kd.R_alloc | apply Kd.R_drewN | apply Kd.R_drew)); exact Kd.R_mono (Kd.R_far (p := ⟨gb342, 11, none⟩) (Kd.R_far (p := ⟨gb342, 10, none⟩) (Kd.R_far (p := ⟨gb342, 9, none⟩) (Kd.R_far (p := ⟨gb342, 8, none⟩) (Kd.R_far (p := ⟨gb342, 7, none⟩) (Kd.R_far (p := ⟨gb342, 6, none⟩) (Kd.R_far (p := ⟨gb342, 5, none⟩) (Kd.R_far (p := ⟨gb342, 4, none⟩) (Kd.R_far (p := ⟨gb342, 3, none⟩) (Kd.R_far (p := ⟨gb342, 2, none⟩) (Kd.R_far (p := ⟨gb342, 1, none⟩) (Kd.R_far (p := ⟨gb342, 0, none⟩) (Kd.R_types HO_8.out BK342.out (by decide)) (fun _ hk => hk.2) (.int .i64 t327)) (fun _ hk => hk.2) (.int .i64 t328)) (fun _ hk => hk.2) (.int .i64 t329)) (fun _ hk => hk.2) (.int .i64 t330)) (fun _ hk => hk.2) (.int .i64 t331)) (fun _ hk => hk.2) (.int .i64 t332)) (fun _ hk => hk.2) (.int .i64 t333)) (fun _ hk => hk.2) (.int .i64 t334)) (fun _ hk => hk.2) (.int .i64 t335)) (fun _ hk => hk.2) (.int .i64 t336)) (fun _ hk => hk.2) (.int .i64 t337)) (fun _ hk => hk.2) (.int .i64 t338)) (fun _ hk => hk.1)⟩
                   have n2_ : Aside0 (((((((((((((w21.setCell ⟨gb342, 0, none⟩ (.int .i64 t327)).setCell ⟨gb342, 1, none⟩ (.int .i64 t328)).setCell ⟨gb342, 2, none⟩ (.int .i64 t329)).setCell ⟨gb342, 3, none⟩ (.int .i64 t330)).setCell ⟨gb342, 4, none⟩ (.int .i64 t331)).setCell ⟨gb342, 5, none⟩ (.int .i64 t332)).setCell ⟨gb342, 6, none⟩ (.int .i64 t333)).setCell ⟨gb342, 7, none⟩ (.int .i64 t334)).setCell ⟨gb342, 8, none⟩ (.int .i64 t335)).setCell ⟨gb342, 9, none⟩ (.int .i64 t336)).setCell ⟨gb342, 10, none⟩ (.int .i64 t337)).setCell ⟨gb342, 11, none⟩ (.int .i64 t338)).heap[gb342]? = some (.cells #[.int .i64 t327, .int .i64 t328, .int .i64 t329, .int .i64 t330, .int .i64 t331, .int .i64 t332, .int .i64 t333, .int .i64 t334, .int .i64 t335, .int .i64 t336, .int .i64 t337, .int .i64 t338] 50 (0, 0))) := ⟨by (with_reducible repeat (first | refine blk_drewN ?_ _ | refine blk_drew ?_ | refine blk_alloc ?_ _)); refine blk_put (cs := #[.int .i64 t327, .int .i64 t328, .int .i64 t329, .int .i64 t330, .int .i64 t331, .int .i64 t332, .int .i64 t333, .int .i64 t334, .int .i64 t335, .int .i64 t336, .int .i64 t337, .int .i64 0]) ?_ 11 _ rfl; (with_reducible repeat (first | refine blk_drewN ?_ _ | refine blk_drew ?_ | refine blk_alloc ?_ _)); refine blk_put (cs := #[.int .i64 t327, .int .i64 t328, .int .i64 t329, .int .i64 t330, .int .i64 t331, .int .i64 t332, .int .i64 t333, .int .i64 t334, .int .i64 t335, .int .i64 t336, .int .i64 0, .int .i64 0]) ?_ 10 _ rfl; (with_reducible repeat (first | refine blk_drewN ?_ _ | refine blk_drew ?_ | refine blk_alloc ?_ _)); refine blk_put (cs := #[.int .i64 t327, .int .i64 t328, .int .i64 t329, .int .i64 t330, .int .i64 t331, .int .i64 t332, .int .i64 t333, .int .i64 t334, .int .i64 t335, .int .i64 0, .int .i64 0, .int .i64 0]) ?_ 9 _ rfl; (with_reducible repeat (first | refine blk_drewN ?_ _ | refine blk_drew ?_ | refine blk_alloc ?_ _)); refine blk_put (cs := #[.int .i64 t327, .int .i64 t328, .int .i64 t329, .int .i64 t330, .int .i64 t331, .int .i64 t332, .int .i64 t333, .int .i64 t334, .int .i64 0, .int .i64 0, .int .i64 0, .int .i64 0]) ?_ 8 _ rfl; (with_reducible repeat (first | refine blk_drewN ?_ _ | refine blk_drew ?_ | refine blk_alloc ?_ _)); refine blk_put (cs := #[.int .i64 t327, .int .i64 t328, .int .i64 t329, .int .i64 t330, .int .i64 t331, .int .i64 t332, .int .i64 t333, .int .i64 0, .int .i64 0, .int .i64 0, .int .i64 0, .int .i64 0]) ?_ 7 _ rfl; (with_reducible repeat (first | refine blk_drewN ?_ _ | refine blk_drew ?_ | refine blk_alloc ?_ _)); refine blk_put (cs := #[.int .i64 t327, .int .i64 t328, .int .i64 t329, .int .i64 t330, .int .i64 t331, .int .i64 t332, .int .i64 0, .int .i64 0, .int .i64 0, .int .i64 0, .int .i64 0, .int .i64 0]) ?_ 6 _ rfl; (with_reducible repeat (first | refine blk_drewN ?_ _ | refine blk_drew ?_ | refine blk_alloc ?_ _)); refine blk_put (cs := #[.int .i64 t327, .int .i64 t328, .int .i64 t329, .int .i64 t330, .int .i64 t331, .int .i64 0, .int .i64 0, .int .i64 0, .int .i64 0, .int .i64 0, .int .i64 0, .int .i64 0]) ?_ 5 _ rfl; (with_reducible repeat (first | refine blk_drewN ?_ _ | refine blk_drew ?_ | refine blk_alloc ?_ _)); refine blk_put (cs := #[.int .i64 t327, .int .i64 t328, .int .i64 t329, .int .i64 t330, .int .i64 0, .int .i64 0, .int .i64 0, .int .i64 0, .int .i64 0, .int .i64 0, .int .i64 0, .int .i64 0]) ?_ 4 _ rfl; (with_reducible repeat (first | refine blk_drewN ?_ _ | refine blk_drew ?_ | refine blk_alloc ?_ _)); refine blk_put (cs := #[.int .i64 t327, .int .i64 t328, .int .i64 t329, .int .i64 0, .int .i64 0, .int .i64 0, .int .i64 0, .int .i64 0, .int .i64 0, .int .i64 0, .int .i64 0, .int .i64 0]) ?_ 3 _ rfl; (with_reducible repeat (first | refine blk_drewN ?_ _ | refine blk_drew ?_ | refine blk_alloc ?_ _)); refine blk_put (cs := #[.int .i64 t327, .int .i64 t328, .int .i64 0, .int .i64 0, .int .i64 0, .int .i64 0, .int .i64 0, .int .i64 0, .int .i64 0, .int .i64 0, .int .i64 0, .int .i64 0]) ?_ 2 _ rfl; (with_reducible repeat (first | refine blk_drewN ?_ _ | refine blk_drew ?_ | refine blk_alloc ?_ _)); refine blk_put (cs := #[.int .i64 t327, .int .i64 0, .int .i64 0, .int .i64 0, .int .i64 0, .int .i64 0, .int .i64 0, .int .i64 0, .int .i64 0, .int .i64 0, .int .i64 0, .int .i64 0]) ?_ 1 _ rfl; (with_reducible repeat (first | refine blk_drewN ?_ _ | refine blk_drew ?_ | refine blk_alloc ?_ _)); refine blk_put (cs := #[.int .i64 0, .int .i64 0, .int .i64 0, .int .i64 0, .int .i64 0, .int .i64 0, .int .i64 0, .int .i64 0, .int .i64 0, .int .i64 0, .int .i64 0, .int .i64 0]) ?_ 0 _ rfl; (with_reducible repeat (first | refine blk_drewN ?_ _ | refine blk_drew ?_ | refine blk_alloc ?_ _)); exact BK342.out⟩
                   have n3_ : Aside0 (Below w.heap.size w ((((((((((((w21.setCell ⟨gb342, 0, none⟩ (.int .i64 t327)).setCell ⟨gb342, 1, none⟩ (.int .i64 t328)).setCell ⟨gb342, 2, none⟩ (.int .i64 t329)).setCell ⟨gb342, 3, none⟩ (.int .i64 t330)).setCell ⟨gb342, 4, none⟩ (.int .i64 t331)).setCell ⟨gb342, 5, none⟩ (.int .i64 t332)).setCell ⟨gb342, 6, none⟩ (.int .i64 t333)).setCell ⟨gb342, 7, none⟩ (.int .i64 t334)).setCell ⟨gb342, 8, none⟩ (.int .i64 t335)).setCell ⟨gb342, 9, none⟩ (.int .i64 t336)).setCell ⟨gb342, 10, none⟩ (.int .i64 t337)).setCell ⟨gb342, 11, none⟩ (.int .i64 t338))) := ⟨by repeat (first | (with_reducible first | exact HB.out | apply below_alloc | apply pw_below_drewN | apply below_drew1 | refine below_set ?_ GE342.out) | exact HB.out)⟩
                   (try clear HO_6)
                   (try clear HO_8)
                   (try clear BK342)
                   (try clear HB)
                   generalize ((((((((((((w21.setCell ⟨gb342, 0, none⟩ (.int .i64 t327)).setCell ⟨gb342, 1, none⟩ (.int .i64 t328)).setCell ⟨gb342, 2, none⟩ (.int .i64 t329)).setCell ⟨gb342, 3, none⟩ (.int .i64 t330)).setCell ⟨gb342, 4, none⟩ (.int .i64 t331)).setCell ⟨gb342, 5, none⟩ (.int .i64 t332)).setCell ⟨gb342, 6, none⟩ (.int .i64 t333)).setCell ⟨gb342, 7, none⟩ (.int .i64 t334)).setCell ⟨gb342, 8, none⟩ (.int .i64 t335)).setCell ⟨gb342, 9, none⟩ (.int .i64 t336)).setCell ⟨gb342, 10, none⟩ (.int .i64 t337)).setCell ⟨gb342, 11, none⟩ (.int .i64 t338)) = w44 at n0_ n1_ n2_ n3_ ⊢
                   have HO_6 := n0_
                   have HO_8 := n1_
                   have BK342 := n2_
                   have HB := n3_
                   clear n0_ n1_ n2_ n3_
                   have n0_ := Aside0.mk (Kd.R_drew HO_6.out)
                   have n1_ := Aside0.mk (Kd.R_drew HO_8.out)
                   have n2_ := Aside0.mk (blk_drew BK342.out)
                   have n3_ := Aside0.mk (below_drew1 HB.out)
                   clear HO_6
                   clear HO_8
                   clear BK342
                   clear HB
                   have HO_6 := n0_
                   have HO_8 := n1_
                   have BK342 := n2_
                   have HB := n3_
                   clear n0_ n1_ n2_ n3_
                   refine start_ (n := 50) (S := fun w' => w'.cell? ⟨gb342, 0, none⟩ = some (.int .i64 t327) ∧ w'.cell? ⟨gb342, 1, none⟩ = some (.int .i64 t328) ∧ w'.cell? ⟨gb342, 2, none⟩ = some (.int .i64 t329) ∧ w'.cell? ⟨gb342, 3, none⟩ = some (.int .i64 t330) ∧ w'.cell? ⟨gb342, 4, none⟩ = some (.int .i64 t331) ∧ w'.cell? ⟨gb342, 5, none⟩ = some (.int .i64 t332) ∧ w'.cell? ⟨gb342, 6, none⟩ = some (.int .i64 t333) ∧ w'.cell? ⟨gb342, 7, none⟩ = some (.int .i64 t334) ∧ w'.cell? ⟨gb342, 8, none⟩ = some (.int .i64 t335) ∧ w'.cell? ⟨gb342, 9, none⟩ = some (.int .i64 t336) ∧ w'.cell? ⟨gb342, 10, none⟩ = some (.int .i64 t337) ∧ w'.cell? ⟨gb342, 11, none⟩ = some (.int .i64 t338)) (ds := []) #[false, false, false, false, false, false, false, false, false, false, false, false, false, false, false, false, false, false, false, false, false, false, false, false, false, false, false, false, false, false, false, false, false, false, false, false, false, false, false, false, false, false, false, false, false, false, false, false, false, false] (by kernel_rfl) rfl rfl ⟨(blk_cell BK342.out 0).trans rfl, (blk_cell BK342.out 1).trans rfl, (blk_cell BK342.out 2).trans rfl, (blk_cell BK342.out 3).trans rfl, (blk_cell BK342.out 4).trans rfl, (blk_cell BK342.out 5).trans rfl, (blk_cell BK342.out 6).trans rfl, (blk_cell BK342.out 7).trans rfl, (blk_cell BK342.out 8).trans rfl, (blk_cell BK342.out 9).trans rfl, (blk_cell BK342.out 10).trans rfl, (blk_cell BK342.out 11).trans rfl⟩ (fun hHeld => ?_); refine with_tabW palletlaw23_DiffEqual.tab11 palletlaw23_DiffEqual.bits11 (fun HT_ HW_ => ?_)
                   generalize w44.drew = w45 at HO_6 HO_8 BK342 HB hHeld ⊢
                   refine pure_ (i := 0) (N := some 51) (v := ?_) (a' := ?_) #[true, false, false, false, false, false, false, false, false, false, false, false, false, false, false, false, false, false, false, false, false, false, false, false, false, false, false, false, false, false, false, false, false, false, false, false, false, false, false, false, false, false, false, false, false, false, false, false, false, false] rfl rfl (any_of HT_.out (by kernel_rfl)) (fun _ _ _ h => h) (Or.inl ⟨by rfl, ?_⟩) ?_ ?_
                   rotate_left
                   ·intro w'
                    go_simp
                    with_reducible rfl
                   rotate_left
                   ·simp only [Act.put, List.setIfInBounds_toArray, List.set_cons_zero, List.set_cons_succ, i64_w, i32_w]
                    rfl
                   refine pure_ (i := 1) (N := some 52) (v := ?_) (a' := ?_) #[true, true, false, false, false, false, false, false, false, false, false, false, false, false, false, false, false, false, false, false, false, false, false, false, false, false, false, false, false, false, false, false, false, false, false, false, false, false, false, false, false, false, false, false, false, false, false, false, false, false] rfl rfl (any_of HT_.out (by kernel_rfl)) (fun _ _ _ h => h) (Or.inl ⟨by rfl, ?_⟩) ?_ ?_
                   rotate_left
                   ·intro w'
                    go_simp
                    with_reducible rfl
                   rotate_left
                   ·simp only [Act.put, List.setIfInBounds_toArray, List.set_cons_zero, List.set_cons_succ, i64_w, i32_w]
                    rfl
                   refine pure_ (i := 2) (N := some 53) (v := ?_) (a' := ?_) #[true, true, true, false, false, false, false, false, false, false, false, false, false, false, false, false, false, false, false, false, false, false, false, false, false, false, false, false, false, false, false, false, false, false, false, false, false, false, false, false, false, false, false, false, false, false, false, false, false, false] rfl rfl (any_of HT_.out (by kernel_rfl)) (fun _ _ _ h => h) (Or.inl ⟨by rfl, ?_⟩) ?_ ?_
                   rotate_left
                   ·intro w'
                    go_simp
                    with_reducible rfl
                   rotate_left
                   ·simp only [Act.put, List.setIfInBounds_toArray, List.set_cons_zero, List.set_cons_succ, i64_w, i32_w]
                    rfl
                   refine pure_ (i := 3) (N := some 54) (v := ?_) (a' := ?_) #[true, true, true, true, false, false, false, false, false, false, false, false, false, false, false, false, false, false, false, false, false, false, false, false, false, false, false, false, false, false, false, false, false, false, false, false, false, false, false, false, false, false, false, false, false, false, false, false, false, false] rfl rfl (any_of HT_.out (by kernel_rfl)) (fun _ _ _ h => h) (Or.inl ⟨by rfl, ?_⟩) ?_ ?_
                   rotate_left
                   ·intro w'
                    go_simp
                    with_reducible rfl
                   rotate_left
                   ·simp only [Act.put, List.setIfInBounds_toArray, List.set_cons_zero, List.set_cons_succ, i64_w, i32_w]
                    rfl
                   refine pure_ (i := 4) (N := some 55) (v := ?_) (a' := ?_) #[true, true, true, true, true, false, false, false, false, false, false, false, false, false, false, false, false, false, false, false, false, false, false, false, false, false, false, false, false, false, false, false, false, false, false, false, false, false, false, false, false, false, false, false, false, false, false, false, false, false] rfl rfl (any_of HT_.out (by kernel_rfl)) (fun _ _ _ h => h) (Or.inl ⟨by rfl, ?_⟩) ?_ ?_
                   rotate_left
                   ·intro w'
                    go_simp
                    with_reducible rfl
                   rotate_left
                   ·simp only [Act.put, List.setIfInBounds_toArray, List.set_cons_zero, List.set_cons_succ, i64_w, i32_w]
                    rfl
                   refine pure_ (i := 5) (N := some 56) (v := ?_) (a' := ?_) #[true, true, true, true, true, true, false, false, false, false, false, false, false, false, false, false, false, false, false, false, false, false, false, false, false, false, false, false, false, false, false, false, false, false, false, false, false, false, false, false, false, false, false, false, false, false, false, false, false, false] rfl rfl (any_of HT_.out (by kernel_rfl)) (fun _ _ _ h => h) (Or.inl ⟨by rfl, ?_⟩) ?_ ?_
                   rotate_left
                   ·intro w'
                    go_simp
                    with_reducible rfl
                   rotate_left
                   ·simp only [Act.put, List.setIfInBounds_toArray, List.set_cons_zero, List.set_cons_succ, i64_w, i32_w]
                    rfl
                   refine pure_ (i := 6) (N := some 57) (v := ?_) (a' := ?_) #[true, true, true, true, true, true, true, false, false, false, false, false, false, false, false, false, false, false, false, false, false, false, false, false, false, false, false, false, false, false, false, false, false, false, false, false, false, false, false, false, false, false, false, false, false, false, false, false, false, false] rfl rfl (any_of HT_.out (by kernel_rfl)) (fun _ _ _ h => h) (Or.inl ⟨by rfl, ?_⟩) ?_ ?_
                   rotate_left
                   ·intro w'
                    go_simp
                    with_reducible rfl
                   rotate_left
                   ·simp only [Act.put, List.setIfInBounds_toArray, List.set_cons_zero, List.set_cons_succ, i64_w, i32_w]
                    rfl
                   refine pure_ (i := 7) (N := some 58) (v := ?_) (a' := ?_) #[true, true, true, true, true, true, true, true, false, false, false, false, false, false, false, false, false, false, false, false, false, false, false, false, false, false, false, false, false, false, false, false, false, false, false, false, false, false, false, false, false, false, false, false, false, false, false, false, false, false] rfl rfl (any_of HT_.out (by kernel_rfl)) (fun _ _ _ h => h) (Or.inl ⟨by rfl, ?_⟩) ?_ ?_
                   rotate_left
                   ·intro w'
                    go_simp
                    with_reducible rfl
                   rotate_left
                   ·simp only [Act.put, List.setIfInBounds_toArray, List.set_cons_zero, List.set_cons_succ, i64_w, i32_w]
                    rfl
                   refine pure_ (i := 8) (N := some 59) (v := ?_) (a' := ?_) #[true, true, true, true, true, true, true, true, true, false, false, false, false, false, false, false, false, false, false, false, false, false, false, false, false, false, false, false, false, false, false, false, false, false, false, false, false, false, false, false, false, false, false, false, false, false, false, false, false, false] rfl rfl (any_of HT_.out (by kernel_rfl)) (fun _ _ _ h => h) (Or.inl ⟨by rfl, ?_⟩) ?_ ?_
                   rotate_left
                   ·intro w'
                    go_simp
                    with_reducible rfl
                   rotate_left
                   ·simp only [Act.put, List.setIfInBounds_toArray, List.set_cons_zero, List.set_cons_succ, i64_w, i32_w]
                    rfl
                   refine pure_ (i := 9) (N := some 60) (v := ?_) (a' := ?_) #[true, true, true, true, true, true, true, true, true, true, false, false, false, false, false, false, false, false, false, false, false, false, false, false, false, false, false, false, false, false, false, false, false, false, false, false, false, false, false, false, false, false, false, false, false, false, false, false, false, false] rfl rfl (any_of HT_.out (by kernel_rfl)) (fun _ _ _ h => h) (Or.inl ⟨by rfl, ?_⟩) ?_ ?_
                   rotate_left
                   ·intro w'
                    go_simp
                    with_reducible rfl
                   rotate_left
                   ·simp only [Act.put, List.setIfInBounds_toArray, List.set_cons_zero, List.set_cons_succ, i64_w, i32_w]
                    rfl
                   refine pure_ (i := 10) (N := some 61) (v := ?_) (a' := ?_) #[true, true, true, true, true, true, true, true, true, true, true, false, false, false, false, false, false, false, false, false, false, false, false, false, false, false, false, false, false, false, false, false, false, false, false, false, false, false, false, false, false, false, false, false, false, false, false, false, false, false] rfl rfl (any_of HT_.out (by kernel_rfl)) (fun _ _ _ h => h) (Or.inl ⟨by rfl, ?_⟩) ?_ ?_
                   rotate_left
                   ·intro w'
                    go_simp
                    with_reducible rfl
                   rotate_left
                   ·simp only [Act.put, List.setIfInBounds_toArray, List.set_cons_zero, List.set_cons_succ, i64_w, i32_w]
                    rfl
                   refine pure_ (i := 11) (N := some 62) (v := ?_) (a' := ?_) #[true, true, true, true, true, true, true, true, true, true, true, true, false, false, false, false, false, false, false, false, false, false, false, false, false, false, false, false, false, false, false, false, false, false, false, false, false, false, false, false, false, false, false, false, false, false, false, false, false, false] rfl rfl (any_of HT_.out (by kernel_rfl)) (fun _ _ _ h => h) (Or.inl ⟨by rfl, ?_⟩) ?_ ?_
                   rotate_left
                   ·intro w'
                    go_simp
                    with_reducible rfl
                   rotate_left
                   ·simp only [Act.put, List.setIfInBounds_toArray, List.set_cons_zero, List.set_cons_succ, i64_w, i32_w]
                    rfl
                   refine pure_ (i := 14) (N := some 65) (v := ?_) (a' := ?_) #[true, true, true, true, true, true, true, true, true, true, true, true, false, false, true, false, false, false, false, false, false, false, false, false, false, false, false, false, false, false, false, false, false, false, false, false, false, false, false, false, false, false, false, false, false, false, false, false, false, false] rfl rfl (any_of HT_.out (by kernel_rfl)) (fun _ _ _ h => h) (Or.inl ⟨by rfl, ?_⟩) ?_ ?_
                   rotate_left
                   ·intro w'
                    go_simp
                    with_reducible rfl
                   rotate_left
                   ·simp only [Act.put, List.setIfInBounds_toArray, List.set_cons_zero, List.set_cons_succ, i64_w, i32_w]
                    rfl
                   refine pure_ (i := 15) (N := some 66) (v := ?_) (a' := ?_) #[true, true, true, true, true, true, true, true, true, true, true, true, false, false, true, true, false, false, false, false, false, false, false, false, false, false, false, false, false, false, false, false, false, false, false, false, false, false, false, false, false, false, false, false, false, false, false, false, false, false] rfl rfl (any_of HT_.out (by kernel_rfl)) (fun _ _ _ h => h) (Or.inl ⟨by rfl, ?_⟩) ?_ ?_
                   rotate_left
                   ·intro w'
                    go_simp
                    with_reducible rfl
                   rotate_left
                   ·simp only [Act.put, List.setIfInBounds_toArray, List.set_cons_zero, List.set_cons_succ, i64_w, i32_w]
                    rfl
                   refine take_ (i := 12) (N := some 63) (v := ?_) (a' := ?_) #[true, true, true, true, true, true, true, true, true, true, true, true, true, false, true, true, false, false, false, false, false, false, false, false, false, false, false, false, false, false, false, false, false, false, false, false, false, false, false, false, false, false, false, false, false, false, false, false, false, false] rfl rfl (take_ofW HT_.out HW_.out (by kernel_rfl)) (fun _ _ _ h => h) (Or.inl ⟨by rfl, ?_⟩) hHeld ?_ ?_
                   rotate_left
                   ·rintro w' ⟨s0, s1, s2, s3, s4, s5, s6, s7, s8, s9, s10, s11⟩
                    go_simp
                    with_reducible rfl
                   rotate_left
                   ·simp only [Act.put, List.setIfInBounds_toArray, List.set_cons_zero, List.set_cons_succ, i64_w, i32_w]
                    rfl
                   refine pure_ (i := 13) (N := some 64) (v := ?_) (a' := ?_) #[true, true, true, true, true, true, true, true, true, true, true, true, true, true, true, true, false, false, false, false, false, false, false, false, false, false, false, false, false, false, false, false, false, false, false, false, false, false, false, false, false, false, false, false, false, false, false, false, false, false] rfl rfl (any_of HT_.out (by kernel_rfl)) (fun _ _ _ h => h) (Or.inl ⟨by rfl, ?_⟩) ?_ ?_
                   rotate_left
                   ·intro w'
                    go_simp
                    with_reducible rfl
                   rotate_left
                   ·simp only [Act.put, List.setIfInBounds_toArray, List.set_cons_zero, List.set_cons_succ, i64_w, i32_w]
                    rfl
                   refine one_ (i := 16) (N := some 67) #[true, true, true, true, true, true, true, true, true, true, true, true, true, true, true, true, true, false, false, false, false, false, false, false, false, false, false, false, false, false, false, false, false, false, false, false, false, false, false, false, false, false, false, false, false, false, false, false, false, false] rfl rfl (one_of HT_.out (by kernel_rfl)) (by decide) (fun K hK => ?_)
                   refine goes_ Tryd.func15 (by kernel_rfl) rfl #[.slice Ao18 t319.length co18, .slice Ao19 t323.length co19] (by rfl) rfl rfl (by (try simp only [List.map_toArray, List.map_cons, List.map_nil]); first | done | rfl | (simp only [List.length_drop, List.length_take]; first | rfl | (rw [Nat.min_eq_left (Int.toNat_le.2 (of_decide_eq_true (by assumption)))]; rfl))) ?_
                   with_reducible refine (palletref02_Same.calls _ _ t319 _ _ t323 t343 _ ?side1 ?side2 ?side3 ?side4 A26.out).mono ?_
                   (case side1 => repeat (first | exact (Kd.R_reads' HO_6.out).2.2 | (with_reducible refine Kd.C_alloc ?_ _) | (with_reducible refine Kd.C_drewN ?_ _) | (with_reducible refine Kd.C_drew ?_)))
                   (case side2 => exact (Kd.R_reads' HO_6.out).2.1)
                   (case side3 => repeat (first | exact (Kd.R_reads' HO_8.out).2.2 | (with_reducible refine Kd.C_alloc ?_ _) | (with_reducible refine Kd.C_drewN ?_ _) | (with_reducible refine Kd.C_drew ?_)))
                   (case side4 => exact (Kd.R_reads' HO_8.out).2.1)
                   rintro e w' ⟨rfl, ⟨nd, rfl⟩⟩
                   refine ⟨_, rfl, ?_⟩
                   have q46 : (t327 : Int) ≤ ((l0.length : Int) : Int) := of_decide_eq_true (by first | (with_reducible assumption) | assumption)
                   obtain ⟨i046, hi046, _, hsz46, _⟩ := info_parts info30
                   have hroom46 : l0.length ≤ c0 := HC0.out
                   have hC46 : Kd.C k30 _ A0 l0.length l0 := HR0.out
                   have hcut46 := cut_to (P := Tryd.prog) 22 30 .i64 Tryd.underlying22 hi046 A0 l0.length c0 t327 (of_decide_eq_true (by first | (with_reducible assumption) | assumption)) q46 hroom46
                   have hr46 := Kd.C_take (m := (t327 : Int).toNat) hC46 (by omega)
                   have hy46 : y344.length = (t327 : Int).toNat := (by rw [Ny344.out, List.length_take]; omega)
                   rw [← Ny344.out] at hr46
                   rw [← hy46] at hcut46
                   have HR347 := Aside0.mk hr46
                   have HC347 := Aside0.mk (show y344.length ≤ c0 from by omega)
                   clear hr46 hC46 hroom46 hi046 hsz46
                   have KY46 := Aside0.mk hy46
                   clear hy46
                   replace q46 := eq_true q46
                   have q47 : (t327 : Int) ≤ ((l1.length : Int) : Int) := of_decide_eq_true (by first | (with_reducible assumption) | assumption)
                   obtain ⟨i047, hi047, _, hsz47, _⟩ := info_parts info30
                   have hroom47 : l1.length ≤ c1 := HC1.out
                   have hC47 : Kd.C k30 _ A1 l1.length l1 := HR1.out
                   have hcut47 := cut_to (P := Tryd.prog) 22 30 .i64 Tryd.underlying22 hi047 A1 l1.length c1 t327 (of_decide_eq_true (by first | (with_reducible assumption) | assumption)) q47 hroom47
                   have hr47 := Kd.C_take (m := (t327 : Int).toNat) hC47 (by omega)
                   have hy47 : y348.length = (t327 : Int).toNat := (by rw [Ny348.out, List.length_take]; omega)
                   rw [← Ny348.out] at hr47
                   rw [← hy47] at hcut47
                   have HR351 := Aside0.mk hr47
                   have HC351 := Aside0.mk (show y348.length ≤ c1 from by omega)
                   clear hr47 hC47 hroom47 hi047 hsz47
                   have KY47 := Aside0.mk hy47
                   clear hy47
                   replace q47 := eq_true q47
                   refine hK.out _ _ ⟨(blk_cell BK342.out 0).trans rfl, (blk_cell BK342.out 1).trans rfl, (blk_cell BK342.out 2).trans rfl, (blk_cell BK342.out 3).trans rfl, (blk_cell BK342.out 4).trans rfl, (blk_cell BK342.out 5).trans rfl, (blk_cell BK342.out 6).trans rfl, (blk_cell BK342.out 7).trans rfl, (blk_cell BK342.out 8).trans rfl, (blk_cell BK342.out 9).trans rfl, (blk_cell BK342.out 10).trans rfl, (blk_cell BK342.out 11).trans rfl⟩ (fun hHeld => ?_)
                   clear hK K
                   refine norm_ (a' := ?_) ?_ ?_
                   rotate_left
                   ·show Act.put _ (some 67) _ = _
                    simp only [Act.put, List.setIfInBounds_toArray, List.set_cons_zero, List.set_cons_succ, i64_w, i32_w]
                    rfl
                   refine pure_ (i := 17) (N := some 68) (v := ?_) (a' := ?_) #[true, true, true, true, true, true, true, true, true, true, true, true, true, true, true, true, true, true, false, false, false, false, false, false, false, false, false, false, false, false, false, false, false, false, false, false, false, false, false, false, false, false, false, false, false, false, false, false, false, false] rfl rfl (any_of HT_.out (by kernel_rfl)) (fun _ _ _ h => h) (Or.inl ⟨by rfl, ?_⟩) ?_ ?_
                   rotate_left
                   ·intro w'
                    go_simp
                    with_reducible rfl
                   rotate_left
                   ·simp only [Act.put, List.setIfInBounds_toArray, List.set_cons_zero, List.set_cons_succ, i64_w, i32_w]
                    rfl
                   refine pure_ (i := 18) (N := some 69) (v := ?_) (a' := ?_) #[true, true, true, true, true, true, true, true, true, true, true, true, true, true, true, true, true, true, true, false, false, false, false, false, false, false, false, false, false, false, false, false, false, false, false, false, false, false, false, false, false, false, false, false, false, false, false, false, false, false] rfl rfl (any_of HT_.out (by kernel_rfl)) (fun _ _ _ h => h) (Or.inl ⟨by rfl, ?_⟩) ?_ ?_
                   rotate_left
                   ·intro w'
                    go_simp
                    with_reducible rfl
                   rotate_left
                   ·simp only [Act.put, List.setIfInBounds_toArray, List.set_cons_zero, List.set_cons_succ, i64_w, i32_w]
                    rfl
                   refine pure_ (i := 19) (N := some 70) (v := ?_) (a' := ?_) #[true, true, true, true, true, true, true, true, true, true, true, true, true, true, true, true, true, true, true, true, false, false, false, false, false, false, false, false, false, false, false, false, false, false, false, false, false, false, false, false, false, false, false, false, false, false, false, false, false, false] rfl rfl (any_of HT_.out (by kernel_rfl)) (fun _ _ _ h => h) (Or.inl ⟨by rfl, ?_⟩) ?_ ?_
                   rotate_left
                   ·intro w'
                    go_simp
                    with_reducible rfl
                   rotate_left
                   ·simp only [Act.put, List.setIfInBounds_toArray, List.set_cons_zero, List.set_cons_succ, i64_w, i32_w]
                    rfl
                   refine pure_ (i := 20) (N := some 71) (v := ?_) (a' := ?_) #[true, true, true, true, true, true, true, true, true, true, true, true, true, true, true, true, true, true, true, true, true, false, false, false, false, false, false, false, false, false, false, false, false, false, false, false, false, false, false, false, false, false, false, false, false, false, false, false, false, false] rfl rfl (any_of HT_.out (by kernel_rfl)) (fun _ _ _ h => h) (Or.inl ⟨by rfl, ?_⟩) ?_ ?_
                   rotate_left
                   ·intro w'
                    go_simp
                    with_reducible rfl
                   rotate_left
                   ·simp only [Act.put, List.setIfInBounds_toArray, List.set_cons_zero, List.set_cons_succ, i64_w, i32_w]
                    rfl
                   refine take_ (i := 21) (N := some 72) (v := ?_) (a' := ?_) #[true, true, true, true, true, true, true, true, true, true, true, true, true, true, true, true, true, true, true, true, true, true, false, false, false, false, false, false, false, false, false, false, false, false, false, false, false, false, false, false, false, false, false, false, false, false, false, false, false, false] rfl rfl (take_ofW HT_.out HW_.out (by kernel_rfl)) (fun _ _ _ h => h) (Or.inl ⟨by rfl, ?_⟩) hHeld ?_ ?_
                   rotate_left
                   ·rintro w' ⟨s0, s1, s2, s3, s4, s5, s6, s7, s8, s9, s10, s11⟩
                    go_simp
                    with_reducible rfl
                   rotate_left
                   ·simp only [Act.put, List.setIfInBounds_toArray, List.set_cons_zero, List.set_cons_succ, i64_w, i32_w]
                    rfl
                   refine pure_ (i := 22) (N := some 73) (v := ?_) (a' := ?_) #[true, true, true, true, true, true, true, true, true, true, true, true, true, true, true, true, true, true, true, true, true, true, true, false, false, false, false, false, false, false, false, false, false, false, false, false, false, false, false, false, false, false, false, false, false, false, false, false, false, false] rfl rfl (any_of HT_.out (by kernel_rfl)) (fun _ _ _ h => h) (Or.inl ⟨by rfl, ?_⟩) ?_ ?_
                   rotate_left
                   ·intro w'
                    go_simp
                    with_reducible rfl
                   rotate_left
                   ·simp only [Act.put, List.setIfInBounds_toArray, List.set_cons_zero, List.set_cons_succ, i64_w, i32_w]
                    rfl
                   refine pure_ (i := 23) (N := some 74) (v := ?_) (a' := ?_) #[true, true, true, true, true, true, true, true, true, true, true, true, true, true, true, true, true, true, true, true, true, true, true, true, false, false, false, false, false, false, false, false, false, false, false, false, false, false, false, false, false, false, false, false, false, false, false, false, false, false] rfl rfl (any_of HT_.out (by kernel_rfl)) (fun _ _ _ h => h) (Or.inl ⟨by rfl, ?_⟩) ?_ ?_
                   rotate_left
                   ·intro w'
                    go_simp
                    with_reducible rfl
                   rotate_left
                   ·simp only [Act.put, List.setIfInBounds_toArray, List.set_cons_zero, List.set_cons_succ, i64_w, i32_w]
                    rfl
                   refine pure_ (i := 24) (N := some 75) (v := ?_) (a' := ?_) #[true, true, true, true, true, true, true, true, true, true, true, true, true, true, true, true, true, true, true, true, true, true, true, true, true, false, false, false, false, false, false, false, false, false, false, false, false, false, false, false, false, false, false, false, false, false, false, false, false, false] rfl rfl (any_of HT_.out (by kernel_rfl)) (fun _ _ _ h => h) (Or.inl ⟨by rfl, ?_⟩) ?_ ?_
                   rotate_left
                   ·intro w'
                    go_simp
                    with_reducible rfl
                   rotate_left
                   ·simp only [Act.put, List.setIfInBounds_toArray, List.set_cons_zero, List.set_cons_succ, i64_w, i32_w]
                    rfl
                   refine pure_ (i := 25) (N := some 76) (v := ?_) (a' := ?_) #[true, true, true, true, true, true, true, true, true, true, true, true, true, true, true, true, true, true, true, true, true, true, true, true, true, true, false, false, false, false, false, false, false, false, false, false, false, false, false, false, false, false, false, false, false, false, false, false, false, false] rfl rfl (any_of HT_.out (by kernel_rfl)) (fun _ _ _ h => h) (Or.inl ⟨by rfl, ?_⟩) ?_ ?_
                   rotate_left
                   ·intro w'
                    go_simp
                    with_reducible rfl
                   rotate_left
                   ·simp only [Act.put, List.setIfInBounds_toArray, List.set_cons_zero, List.set_cons_succ, i64_w, i32_w]
                    rfl
                   refine pure_ (i := 27) (N := some 78) (v := ?_) (a' := ?_) #[true, true, true, true, true, true, true, true, true, true, true, true, true, true, true, true, true, true, true, true, true, true, true, true, true, true, false, true, false, false, false, false, false, false, false, false, false, false, false, false, false, false, false, false, false, false, false, false, false, false] rfl rfl (any_of HT_.out (by kernel_rfl)) (fun _ _ _ h => h) (Or.inl ⟨by rfl, ?_⟩) ?_ ?_
                   rotate_left
                   ·intro w'
                    go_simp
                    with_reducible rfl
                   rotate_left
                   ·simp only [Act.put, List.setIfInBounds_toArray, List.set_cons_zero, List.set_cons_succ, i64_w, i32_w]
                    rfl
                   refine pure_ (i := 28) (N := some 79) (v := ?_) (a' := ?_) #[true, true, true, true, true, true, true, true, true, true, true, true, true, true, true, true, true, true, true, true, true, true, true, true, true, true, false, true, true, false, false, false, false, false, false, false, false, false, false, false, false, false, false, false, false, false, false, false, false, false] rfl rfl (any_of HT_.out (by kernel_rfl)) (fun _ _ _ h => h) (Or.inl ⟨by rfl, ?_⟩) ?_ ?_
                   rotate_left
                   ·intro w'
                    go_simp
                    with_reducible rfl
                   rotate_left
                   ·simp only [Act.put, List.setIfInBounds_toArray, List.set_cons_zero, List.set_cons_succ, i64_w, i32_w]
                    rfl
                   refine take_ (i := 26) (N := some 77) (v := ?_) (a' := ?_) #[true, true, true, true, true, true, true, true, true, true, true, true, true, true, true, true, true, true, true, true, true, true, true, true, true, true, true, true, true, false, false, false, false, false, false, false, false, false, false, false, false, false, false, false, false, false, false, false, false, false] rfl rfl (take_ofW HT_.out HW_.out (by kernel_rfl)) (fun _ _ _ h => h) (Or.inl ⟨by rfl, ?_⟩) hHeld ?_ ?_
                   rotate_left
                   ·rintro w' ⟨s0, s1, s2, s3, s4, s5, s6, s7, s8, s9, s10, s11⟩
                    go_simp
                    with_reducible rfl
                   rotate_left
                   ·simp only [Act.put, List.setIfInBounds_toArray, List.set_cons_zero, List.set_cons_succ, i64_w, i32_w]
                    rfl
                   refine pure_ (i := 29) (N := some 80) (v := ?_) (a' := ?_) #[true, true, true, true, true, true, true, true, true, true, true, true, true, true, true, true, true, true, true, true, true, true, true, true, true, true, true, true, true, true, false, false, false, false, false, false, false, false, false, false, false, false, false, false, false, false, false, false, false, false] rfl rfl (any_of HT_.out (by kernel_rfl)) (fun _ _ _ h => h) (Or.inl ⟨by rfl, ?_⟩) ?_ ?_
                   rotate_left
                   ·intro w'
                    go_simp
                    with_reducible rfl
                   rotate_left
                   ·simp only [Act.put, List.setIfInBounds_toArray, List.set_cons_zero, List.set_cons_succ, i64_w, i32_w]
                    rfl
                   refine pure_ (i := 30) (N := some 81) (v := ?_) (a' := ?_) #[true, true, true, true, true, true, true, true, true, true, true, true, true, true, true, true, true, true, true, true, true, true, true, true, true, true, true, true, true, true, true, false, false, false, false, false, false, false, false, false, false, false, false, false, false, false, false, false, false, false] rfl rfl (any_of HT_.out (by kernel_rfl)) (fun _ _ _ h => h) (Or.inl ⟨by rfl, ?_⟩) ?_ ?_
                   rotate_left
                   ·intro w'
                    go_simp
                    with_reducible rfl
                   rotate_left
                   ·simp only [Act.put, List.setIfInBounds_toArray, List.set_cons_zero, List.set_cons_succ, i64_w, i32_w]
                    rfl
                   refine pure_ (i := 31) (N := some 82) (v := ?_) (a' := ?_) #[true, true, true, true, true, true, true, true, true, true, true, true, true, true, true, true, true, true, true, true, true, true, true, true, true, true, true, true, true, true, true, true, false, false, false, false, false, false, false, false, false, false, false, false, false, false, false, false, false, false] rfl rfl (any_of HT_.out (by kernel_rfl)) (fun _ _ _ h => h) (Or.inl ⟨by rfl, ?_⟩) ?_ ?_
                   rotate_left
                   ·intro w'
                    go_simp
                    with_reducible rfl
                   rotate_left
                   ·simp only [Act.put, List.setIfInBounds_toArray, List.set_cons_zero, List.set_cons_succ, i64_w, i32_w]
                    rfl
                   refine pure_ (i := 32) (N := some 83) (v := ?_) (a' := ?_) #[true, true, true, true, true, true, true, true, true, true, true, true, true, true, true, true, true, true, true, true, true, true, true, true, true, true, true, true, true, true, true, true, true, false, false, false, false, false, false, false, false, false, false, false, false, false, false, false, false, false] rfl rfl (any_of HT_.out (by kernel_rfl)) (fun _ _ _ h => h) (Or.inl ⟨by rfl, ?_⟩) ?_ ?_
                   rotate_left
                   ·intro w'
                    go_simp
                    with_reducible rfl
                   rotate_left
                   ·simp only [Act.put, List.setIfInBounds_toArray, List.set_cons_zero, List.set_cons_succ, i64_w, i32_w]
                    rfl
                   refine pure_ (i := 34) (N := some 85) (v := ?_) (a' := ?_) #[true, true, true, true, true, true, true, true, true, true, true, true, true, true, true, true, true, true, true, true, true, true, true, true, true, true, true, true, true, true, true, true, true, false, true, false, false, false, false, false, false, false, false, false, false, false, false, false, false, false] rfl rfl (any_of HT_.out (by kernel_rfl)) (fun _ _ _ h => h) (Or.inl ⟨by rfl, ?_⟩) ?_ ?_
                   rotate_left
                   ·intro w'
                    go_simp
                    with_reducible rfl
                   rotate_left
                   ·simp only [Act.put, List.setIfInBounds_toArray, List.set_cons_zero, List.set_cons_succ, i64_w, i32_w]
                    rfl
                   refine pure_ (i := 35) (N := some 86) (v := ?_) (a' := ?_) #[true, true, true, true, true, true, true, true, true, true, true, true, true, true, true, true, true, true, true, true, true, true, true, true, true, true, true, true, true, true, true, true, true, false, true, true, false, false, false, false, false, false, false, false, false, false, false, false, false, false] rfl rfl (any_of HT_.out (by kernel_rfl)) (fun _ _ _ h => h) (Or.inl ⟨by rfl, ?_⟩) ?_ ?_
                   rotate_left
                   ·intro w'
                    go_simp
                    with_reducible rfl
                   rotate_left
                   ·simp only [Act.put, List.setIfInBounds_toArray, List.set_cons_zero, List.set_cons_succ, i64_w, i32_w]
                    rfl
                   refine take_ (i := 33) (N := some 84) (v := ?_) (a' := ?_) #[true, true, true, true, true, true, true, true, true, true, true, true, true, true, true, true, true, true, true, true, true, true, true, true, true, true, true, true, true, true, true, true, true, true, true, true, false, false, false, false, false, false, false, false, false, false, false, false, false, false] rfl rfl (take_ofW HT_.out HW_.out (by kernel_rfl)) (fun _ _ _ h => h) (Or.inl ⟨by rfl, ?_⟩) hHeld ?_ ?_
                   rotate_left
                   ·rintro w' ⟨s0, s1, s2, s3, s4, s5, s6, s7, s8, s9, s10, s11⟩
                    go_simp
                    with_reducible rfl
                   rotate_left
                   ·simp only [Act.put, List.setIfInBounds_toArray, List.set_cons_zero, List.set_cons_succ, i64_w, i32_w]
                    rfl
                   refine pure_ (i := 36) (N := some 87) (v := ?_) (a' := ?_) #[true, true, true, true, true, true, true, true, true, true, true, true, true, true, true, true, true, true, true, true, true, true, true, true, true, true, true, true, true, true, true, true, true, true, true, true, true, false, false, false, false, false, false, false, false, false, false, false, false, false] rfl rfl (any_of HT_.out (by kernel_rfl)) (fun _ _ _ h => h) (Or.inl ⟨by rfl, ?_⟩) ?_ ?_
                   rotate_left
                   ·intro w'
                    go_simp
                    with_reducible rfl
                   rotate_left
                   ·simp only [Act.put, List.setIfInBounds_toArray, List.set_cons_zero, List.set_cons_succ, i64_w, i32_w]
                    rfl
                   refine pure_ (i := 37) (N := some 88) (v := ?_) (a' := ?_) #[true, true, true, true, true, true, true, true, true, true, true, true, true, true, true, true, true, true, true, true, true, true, true, true, true, true, true, true, true, true, true, true, true, true, true, true, true, true, false, false, false, false, false, false, false, false, false, false, false, false] rfl rfl (any_of HT_.out (by kernel_rfl)) (fun _ _ _ h => h) (Or.inl ⟨by rfl, ?_⟩) ?_ ?_
                   rotate_left
                   ·intro w'
                    go_simp
                    with_reducible rfl
                   rotate_left
                   ·simp only [Act.put, List.setIfInBounds_toArray, List.set_cons_zero, List.set_cons_succ, i64_w, i32_w]
                    rfl
                   refine pure_ (i := 38) (N := some 89) (v := ?_) (a' := ?_) #[true, true, true, true, true, true, true, true, true, true, true, true, true, true, true, true, true, true, true, true, true, true, true, true, true, true, true, true, true, true, true, true, true, true, true, true, true, true, true, false, false, false, false, false, false, false, false, false, false, false] rfl rfl (any_of HT_.out (by kernel_rfl)) (fun _ _ _ h => h) (Or.inl ⟨by rfl, ?_⟩) ?_ ?_
                   rotate_left
                   ·intro w'
                    go_simp
                    with_reducible rfl
                   rotate_left
                   ·simp only [Act.put, List.setIfInBounds_toArray, List.set_cons_zero, List.set_cons_succ, i64_w, i32_w]
                    rfl
                   refine pure_ (i := 39) (N := some 90) (v := ?_) (a' := ?_) #[true, true, true, true, true, true, true, true, true, true, true, true, true, true, true, true, true, true, true, true, true, true, true, true, true, true, true, true, true, true, true, true, true, true, true, true, true, true, true, true, false, false, false, false, false, false, false, false, false, false] rfl rfl (any_of HT_.out (by kernel_rfl)) (fun _ _ _ h => h) (Or.inl ⟨by rfl, ?_⟩) ?_ ?_
                   rotate_left
                   ·intro w'
                    go_simp
                    with_reducible rfl
                   rotate_left
                   ·simp only [Act.put, List.setIfInBounds_toArray, List.set_cons_zero, List.set_cons_succ, i64_w, i32_w]
                    rfl
                   refine pure_ (i := 40) (N := some 91) (v := ?_) (a' := ?_) #[true, true, true, true, true, true, true, true, true, true, true, true, true, true, true, true, true, true, true, true, true, true, true, true, true, true, true, true, true, true, true, true, true, true, true, true, true, true, true, true, true, false, false, false, false, false, false, false, false, false] rfl rfl (any_of HT_.out (by kernel_rfl)) (fun _ _ _ h => h) (Or.inl ⟨by rfl, ?_⟩) ?_ ?_
                   rotate_left
                   ·intro w'
                    go_simp
                    with_reducible rfl
                   rotate_left
                   ·simp only [Act.put, List.setIfInBounds_toArray, List.set_cons_zero, List.set_cons_succ, i64_w, i32_w]
                    rfl
                   refine pure_ (i := 43) (N := some 94) (v := ?_) (a' := ?_) #[true, true, true, true, true, true, true, true, true, true, true, true, true, true, true, true, true, true, true, true, true, true, true, true, true, true, true, true, true, true, true, true, true, true, true, true, true, true, true, true, true, false, false, true, false, false, false, false, false, false] rfl rfl (any_of HT_.out (by kernel_rfl)) (fun _ _ _ h => h) (Or.inl ⟨by rfl, ?_⟩) ?_ ?_
                   rotate_left
                   ·intro w'
                    go_simp
                    with_reducible rfl
                   rotate_left
                   ·simp only [Act.put, List.setIfInBounds_toArray, List.set_cons_zero, List.set_cons_succ, i64_w, i32_w]
                    rfl
                   refine pure_ (i := 44) (N := some 95) (v := ?_) (a' := ?_) #[true, true, true, true, true, true, true, true, true, true, true, true, true, true, true, true, true, true, true, true, true, true, true, true, true, true, true, true, true, true, true, true, true, true, true, true, true, true, true, true, true, false, false, true, true, false, false, false, false, false] rfl rfl (any_of HT_.out (by kernel_rfl)) (fun _ _ _ h => h) (Or.inl ⟨by rfl, ?_⟩) ?_ ?_
                   rotate_left
                   ·intro w'
                    go_simp
                    with_reducible rfl
                   rotate_left
                   ·simp only [Act.put, List.setIfInBounds_toArray, List.set_cons_zero, List.set_cons_succ, i64_w, i32_w]
                    rfl
                   refine take_ (i := 41) (N := some 92) (v := ?_) (a' := ?_) #[true, true, true, true, true, true, true, true, true, true, true, true, true, true, true, true, true, true, true, true, true, true, true, true, true, true, true, true, true, true, true, true, true, true, true, true, true, true, true, true, true, true, false, true, true, false, false, false, false, false] rfl rfl (take_ofW HT_.out HW_.out (by kernel_rfl)) (fun _ _ _ h => h) (Or.inl ⟨by rfl, ?_⟩) hHeld ?_ ?_
                   rotate_left
                   ·rintro w' ⟨s0, s1, s2, s3, s4, s5, s6, s7, s8, s9, s10, s11⟩
                    go_simp
                    with_reducible rfl
                   rotate_left
                   ·simp only [Act.put, List.setIfInBounds_toArray, List.set_cons_zero, List.set_cons_succ, i64_w, i32_w]
                    rfl
                   refine pure_ (i := 42) (N := some 93) (v := ?_) (a' := ?_) #[true, true, true, true, true, true, true, true, true, true, true, true, true, true, true, true, true, true, true, true, true, true, true, true, true, true, true, true, true, true, true, true, true, true, true, true, true, true, true, true, true, true, true, true, true, false, false, false, false, false] rfl rfl (any_of HT_.out (by kernel_rfl)) (fun _ _ _ h => h) (Or.inl ⟨by rfl, ?_⟩) ?_ ?_
                   rotate_left
                   ·intro w'
                    go_simp
                    with_reducible rfl
                   rotate_left
                   ·simp only [Act.put, List.setIfInBounds_toArray, List.set_cons_zero, List.set_cons_succ, i64_w, i32_w]
                    rfl
                   refine take_ (i := 45) (N := some 96) (v := ?_) (a' := ?_) #[true, true, true, true, true, true, true, true, true, true, true, true, true, true, true, true, true, true, true, true, true, true, true, true, true, true, true, true, true, true, true, true, true, true, true, true, true, true, true, true, true, true, true, true, true, true, false, false, false, false] rfl rfl (take_ofW HT_.out HW_.out (by kernel_rfl)) (fun _ _ _ h => h) (Or.inl ⟨by rfl, ?_⟩) hHeld ?_ ?_
                   rotate_left
                   ·rintro w' ⟨s0, s1, s2, s3, s4, s5, s6, s7, s8, s9, s10, s11⟩
                    go_simp
                    with_reducible rfl
                   rotate_left
                   ·simp only [Act.put, List.setIfInBounds_toArray, List.set_cons_zero, List.set_cons_succ, i64_w, i32_w]
                    rfl
                   refine pure_ (i := 46) (N := some 97) (v := ?_) (a' := ?_) #[true, true, true, true, true, true, true, true, true, true, true, true, true, true, true, true, true, true, true, true, true, true, true, true, true, true, true, true, true, true, true, true, true, true, true, true, true, true, true, true, true, true, true, true, true, true, true, false, false, false] rfl rfl (any_of HT_.out (by kernel_rfl)) (fun _ _ _ h => h) (Or.inl ⟨by rfl, ?_⟩) ?_ ?_
                   rotate_left
                   ·intro w'
                    go_simp
                    with_reducible rfl
                   rotate_left
                   ·simp only [Act.put, List.setIfInBounds_toArray, List.set_cons_zero, List.set_cons_succ, i64_w, i32_w]
                    rfl
                   refine one_ (i := 47) (N := some 98) #[true, true, true, true, true, true, true, true, true, true, true, true, true, true, true, true, true, true, true, true, true, true, true, true, true, true, true, true, true, true, true, true, true, true, true, true, true, true, true, true, true, true, true, true, true, true, true, true, false, false] rfl rfl (one_of HT_.out (by kernel_rfl)) (by decide) (fun K hK => ?_)
                   refine goes_ Tryd.func20 (by kernel_rfl) rfl #[.slice A0 y344.length c0, .slice A1 y348.length c1] (by rfl) rfl rfl (by (try simp only [List.map_toArray, List.map_cons, List.map_nil]); first | done | rfl | (simp only [List.length_drop, List.length_take]; first | rfl | (rw [Nat.min_eq_left (Int.toNat_le.2 (of_decide_eq_true (by assumption)))]; rfl))) ?_
                   with_reducible refine (palletref19_Same.calls kj10 _ _ y344 _ _ y348 t352 _ ?side1 ?side2 ?side3 ?side4 A43.out).mono ?_
                   (case side1 => repeat (first | exact (Kd.C_below HR347.out (by repeat (first | (with_reducible first | exact HB.out | apply below_alloc | apply pw_below_drewN | apply below_drew1 | refine below_set ?_ GE342.out) | exact HB.out))) | (with_reducible refine Kd.C_alloc ?_ _) | (with_reducible refine Kd.C_drewN ?_ _) | (with_reducible refine Kd.C_drew ?_)))
                   (case side2 => exact HC347.out)
                   (case side3 => repeat (first | exact (Kd.C_below HR351.out (by repeat (first | (with_reducible first | exact HB.out | apply below_alloc | apply pw_below_drewN | apply below_drew1 | refine below_set ?_ GE342.out) | exact HB.out))) | (with_reducible refine Kd.C_alloc ?_ _) | (with_reducible refine Kd.C_drewN ?_ _) | (with_reducible refine Kd.C_drew ?_)))
                   (case side4 => exact HC351.out)
                   rintro e w' ⟨rfl, ⟨nd, rfl⟩⟩
                   refine ⟨_, rfl, ?_⟩
                   refine hK.out _ _ ⟨(blk_cell BK342.out 0).trans rfl, (blk_cell BK342.out 1).trans rfl, (blk_cell BK342.out 2).trans rfl, (blk_cell BK342.out 3).trans rfl, (blk_cell BK342.out 4).trans rfl, (blk_cell BK342.out 5).trans rfl, (blk_cell BK342.out 6).trans rfl, (blk_cell BK342.out 7).trans rfl, (blk_cell BK342.out 8).trans rfl, (blk_cell BK342.out 9).trans rfl, (blk_cell BK342.out 10).trans rfl, (blk_cell BK342.out 11).trans rfl⟩ (fun hHeld => ?_)
                   clear hK K
                   refine norm_ (a' := ?_) ?_ ?_
                   rotate_left
                   ·show Act.put _ (some 98) _ = _
                    simp only [Act.put, List.setIfInBounds_toArray, List.set_cons_zero, List.set_cons_succ, i64_w, i32_w]
                    rfl
                   refine pure_ (i := 48) (N := some 99) (v := ?_) (a' := ?_) #[true, true, true, true, true, true, true, true, true, true, true, true, true, true, true, true, true, true, true, true, true, true, true, true, true, true, true, true, true, true, true, true, true, true, true, true, true, true, true, true, true, true, true, true, true, true, true, true, true, false] rfl rfl (any_of HT_.out (by kernel_rfl)) (fun _ _ _ h => h) (Or.inl ⟨by rfl, ?_⟩) ?_ ?_
                   rotate_left
                   ·intro w'
                    go_simp
                    with_reducible rfl
                   rotate_left
                   ·simp only [Act.put, List.setIfInBounds_toArray, List.set_cons_zero, List.set_cons_succ, i64_w, i32_w]
                    rfl
                   refine pure_ (i := 49) (N := some 100) (v := ?_) (a' := ?_) #[true, true, true, true, true, true, true, true, true, true, true, true, true, true, true, true, true, true, true, true, true, true, true, true, true, true, true, true, true, true, true, true, true, true, true, true, true, true, true, true, true, true, true, true, true, true, true, true, true, true] rfl rfl (any_of HT_.out (by kernel_rfl)) (fun _ _ _ h => h) (Or.inl ⟨by rfl, ?_⟩) ?_ ?_
                   rotate_left
                   ·intro w'
                    go_simp
                    with_reducible rfl
                   rotate_left
                   ·simp only [Act.put, List.setIfInBounds_toArray, List.set_cons_zero, List.set_cons_succ, i64_w, i32_w]
                    rfl
                   refine done_ (done_of HT_.out (by kernel_rfl)) ?_
                   try go_wp2
                   go_meet
                   case rel => exact ⟨_, (!t352), (by first | rfl | (simp; done) | (simp [*]; done)), H', ⟨by have := HJ4.out; have := HJ10.out; first | omega | exact Nat.le_refl _⟩, ⟨by (with_reducible repeat (first | refine blk_drewN ?_ _ | refine blk_drew ?_ | refine blk_alloc ?_ _)); exact BK342.out⟩, ⟨by repeat (first | (with_reducible first | exact HB.out | apply below_alloc | apply pw_below_drewN | apply below_drew1 | refine below_set ?_ GE342.out) | exact HB.out)⟩⟩
                  ·rw [if_neg c42] at H
                   exact absurd H (by simp)
                 ·rw [if_neg c40] at H
                  exact absurd H (by simp)
                ·rw [if_neg c39] at H
                 exact absurd H (by simp)
           ·rw [if_neg c25] at H
            exact absurd H (by simp)
          ·rw [if_neg c24] at H
           exact absurd H (by simp)
         ·rw [if_neg c23] at H
          exact absurd H (by simp)
        case rest =>
         clear HC17
         try clear c2
         try clear p2
         try clear c23
         try clear c23b0
         try clear c23b1
         obtain ⟨kq, x100_16, rfl, HA, HJ16, BK342, HB⟩ := hcut
         cases kq with
         | zero => exact absurd HA.out (by simp [palletlaw23_DiffEqual.j2])
         | succ kj16 =>
          have H := HA.out
          clear HA
          simp only [palletlaw23_DiffEqual.j2] at H
          by_cases c54 : x100_16 = true
          ·subst c54
           have H1 : (none) = some r := by rw [if_pos rfl] at H; exact H
           clear H
           have H := H1
           clear H1
           exact absurd H (by simp)
          ·replace c54 := Bool.eq_false_iff.mpr c54
           subst c54
           have H1 : (if t328 = 0 then (if true = true then (if (l0.length : Int) = (l1.length : Int) then (some (t327 == (l0.length : Int))) else (none)) else (none)) else (if t328 = 1 then (if true = true then (if t327 < (l0.length : Int) then (if t327 < (l1.length : Int) then (if 0 ≤ t327 then (if (t329 == ((rd_T30 l0 t327).f0) && (t330 == ((rd_T30 l0 t327).f1) && (t331 == ((rd_T30 l0 t327).f2) && (t332 == ((rd_T30 l0 t327).f3) && (t333 == ((rd_T30 l0 t327).f4)))))) = true then (if (t334 == ((rd_T30 l1 t327).f0) && (t335 == ((rd_T30 l1 t327).f1) && (t336 == ((rd_T30 l1 t327).f2) && (t337 == ((rd_T30 l1 t327).f3) && (t338 == ((rd_T30 l1 t327).f4)))))) = true then (some (!(t329 == t334) || (!(t330 == t335) || (!(t331 == t336) || (!(t332 == t337) || (!(t333 == t338))))))) else (none)) else (none)) else (none)) else (none)) else (none)) else (none)) else (if t328 = 2 then (if true = true then (if t327 = (l0.length : Int) then (if t327 < (l1.length : Int) then (if 0 ≤ t327 then (some (t334 == ((rd_T30 l1 t327).f0) && (t335 == ((rd_T30 l1 t327).f1) && (t336 == ((rd_T30 l1 t327).f2) && (t337 == ((rd_T30 l1 t327).f3) && (t338 == ((rd_T30 l1 t327).f4))))))) else (none)) else (none)) else (none)) else (none)) else (if t328 = 3 then (if true = true then (if t327 = (l1.length : Int) then (if t327 < (l0.length : Int) then (if 0 ≤ t327 then (some (t329 == ((rd_T30 l0 t327).f0) && (t330 == ((rd_T30 l0 t327).f1) && (t331 == ((rd_T30 l0 t327).f2) && (t332 == ((rd_T30 l0 t327).f3) && (t333 == ((rd_T30 l0 t327).f4))))))) else (none)) else (none)) else (none)) else (none)) else (none))))) = some r := by rw [if_neg (show ¬ (false = true) by decide)] at H; exact H
           clear H
           have H := H1
           clear H1
           by_cases c55 : t328 = 0
           ·rw [if_pos c55] at H
            have c55b0 : (t328 == 0) = true := beq_iff_eq.mpr c55
            have c55b1 : (t328 != 0) = false := bne_eq_false_iff_eq.mpr c55
            clear c55
            have H1 : (if (l0.length : Int) = (l1.length : Int) then (some (t327 == (l0.length : Int))) else (none)) = some r := by first | (rw [if_pos rfl] at H; exact H) | exact H
            clear H
            have H := H1
            clear H1
            by_cases c56 : (l0.length : Int) = (l1.length : Int)
            ·rw [if_pos c56] at H
             have c56b0 : ((l0.length : Int) == (l1.length : Int)) = true := beq_iff_eq.mpr c56
             have c56b1 : ((l0.length : Int) != (l1.length : Int)) = false := bne_eq_false_iff_eq.mpr c56
             have c56b2 : (l0.length == l1.length) = true := by first | simpa using c56 | (simp at c56 ⊢; omega)
             clear c56
             obtain rfl := Option.some.inj H
             have hcz57_0 : wc.cell? ⟨gb342, 0, none⟩ = some (.int .i64 t327) := (blk_cell BK342.out 0).trans rfl
             have hcz57_1 : wc.cell? ⟨gb342, 1, none⟩ = some (.int .i64 t328) := (blk_cell BK342.out 1).trans rfl
             have hcz57_2 : wc.cell? ⟨gb342, 2, none⟩ = some (.int .i64 t329) := (blk_cell BK342.out 2).trans rfl
             have hcz57_3 : wc.cell? ⟨gb342, 3, none⟩ = some (.int .i64 t330) := (blk_cell BK342.out 3).trans rfl
             have hcz57_4 : wc.cell? ⟨gb342, 4, none⟩ = some (.int .i64 t331) := (blk_cell BK342.out 4).trans rfl
             have hcz57_5 : wc.cell? ⟨gb342, 5, none⟩ = some (.int .i64 t332) := (blk_cell BK342.out 5).trans rfl
             have hcz57_6 : wc.cell? ⟨gb342, 6, none⟩ = some (.int .i64 t333) := (blk_cell BK342.out 6).trans rfl
             have hcz57_7 : wc.cell? ⟨gb342, 7, none⟩ = some (.int .i64 t334) := (blk_cell BK342.out 7).trans rfl
             have hcz57_8 : wc.cell? ⟨gb342, 8, none⟩ = some (.int .i64 t335) := (blk_cell BK342.out 8).trans rfl
             have hcz57_9 : wc.cell? ⟨gb342, 9, none⟩ = some (.int .i64 t336) := (blk_cell BK342.out 9).trans rfl
             have hcz57_10 : wc.cell? ⟨gb342, 10, none⟩ = some (.int .i64 t337) := (blk_cell BK342.out 10).trans rfl
             have hcz57_11 : wc.cell? ⟨gb342, 11, none⟩ = some (.int .i64 t338) := (blk_cell BK342.out 11).trans rfl
             have hfz57_0 := blk_frozen BK342.out 0
             have hfz57_1 := blk_frozen BK342.out 1
             have hfz57_2 := blk_frozen BK342.out 2
             have hfz57_3 := blk_frozen BK342.out 3
             have hfz57_4 := blk_frozen BK342.out 4
             have hfz57_5 := blk_frozen BK342.out 5
             have hfz57_6 := blk_frozen BK342.out 6
             have hfz57_7 := blk_frozen BK342.out 7
             have hfz57_8 := blk_frozen BK342.out 8
             have hfz57_9 := blk_frozen BK342.out 9
             have hfz57_10 := blk_frozen BK342.out 10
             have hfz57_11 := blk_frozen BK342.out 11
             go_wp2
             go_ret
             exact ⟨by first | rfl | (simp [errW_none, errW_some] <;> rfl) | (simp [*, errW_none, errW_some] <;> rfl), by repeat (first | (with_reducible first | exact HB.out | apply below_alloc | apply pw_below_drewN | apply below_drew1 | refine below_set ?_ GE342.out) | exact HB.out)⟩
            ·rw [if_neg c56] at H
             exact absurd H (by simp)
           ·rw [if_neg c55] at H
            have c55b0 : (t328 == 0) = false := beq_eq_false_iff_ne.mpr c55
            have c55b1 : (t328 != 0) = true := bne_iff_ne.mpr c55
            by_cases c58 : t328 = 1
            ·rw [if_pos c58] at H
             have c58b0 : (t328 == 1) = true := beq_iff_eq.mpr c58
             have c58b1 : (t328 != 1) = false := bne_eq_false_iff_eq.mpr c58
             clear c58
             have H1 : (if t327 < (l0.length : Int) then (if t327 < (l1.length : Int) then (if 0 ≤ t327 then (if (t329 == ((rd_T30 l0 t327).f0) && (t330 == ((rd_T30 l0 t327).f1) && (t331 == ((rd_T30 l0 t327).f2) && (t332 == ((rd_T30 l0 t327).f3) && (t333 == ((rd_T30 l0 t327).f4)))))) = true then (if (t334 == ((rd_T30 l1 t327).f0) && (t335 == ((rd_T30 l1 t327).f1) && (t336 == ((rd_T30 l1 t327).f2) && (t337 == ((rd_T30 l1 t327).f3) && (t338 == ((rd_T30 l1 t327).f4)))))) = true then (some (!(t329 == t334) || (!(t330 == t335) || (!(t331 == t336) || (!(t332 == t337) || (!(t333 == t338))))))) else (none)) else (none)) else (none)) else (none)) else (none)) = some r := by first | (rw [if_pos rfl] at H; exact H) | exact H
             clear H
             have H := H1
             clear H1
             by_cases c59 : t327 < (l0.length : Int)
             ·rw [if_pos c59] at H
              have c59b0 : decide (t327 < (l0.length : Int)) = true := decide_eq_true c59
              clear c59
              by_cases c60 : t327 < (l1.length : Int)
              ·rw [if_pos c60] at H
               have c60b0 : decide (t327 < (l1.length : Int)) = true := decide_eq_true c60
               clear c60
               by_cases c61 : 0 ≤ t327
               ·rw [if_pos c61] at H
                have c61b0 : decide (0 ≤ t327) = true := decide_eq_true c61
                clear c61
                by_cases c62 : (t329 == ((rd_T30 l0 t327).f0) && (t330 == ((rd_T30 l0 t327).f1) && (t331 == ((rd_T30 l0 t327).f2) && (t332 == ((rd_T30 l0 t327).f3) && (t333 == ((rd_T30 l0 t327).f4)))))) = true
                ·rw [if_pos c62] at H
                 have c62b0 : (t329 == ((rd_T30 l0 t327).f0) && (t330 == ((rd_T30 l0 t327).f1) && (t331 == ((rd_T30 l0 t327).f2) && (t332 == ((rd_T30 l0 t327).f3) && (t333 == ((rd_T30 l0 t327).f4)))))) = true := c62
                 (try (have c62b1 : decide (t329 = ((rd_T30 l0 t327).f0) && (t330 == ((rd_T30 l0 t327).f1) && (t331 == ((rd_T30 l0 t327).f2) && (t332 == ((rd_T30 l0 t327).f3) && (t333 == ((rd_T30 l0 t327).f4)))))) = true := by simpa using c62))
                 (try (have c62b2 : (t329 == ((rd_T30 l0 t327).f0) && (t330 == ((rd_T30 l0 t327).f1) && (t331 == ((rd_T30 l0 t327).f2) && (t332 == ((rd_T30 l0 t327).f3) && (t333 == ((rd_T30 l0 t327).f4)))))) = true := by simpa using c62))
                 clear c62
                 by_cases c63 : (t334 == ((rd_T30 l1 t327).f0) && (t335 == ((rd_T30 l1 t327).f1) && (t336 == ((rd_T30 l1 t327).f2) && (t337 == ((rd_T30 l1 t327).f3) && (t338 == ((rd_T30 l1 t327).f4)))))) = true
                 ·rw [if_pos c63] at H
                  have c63b0 : (t334 == ((rd_T30 l1 t327).f0) && (t335 == ((rd_T30 l1 t327).f1) && (t336 == ((rd_T30 l1 t327).f2) && (t337 == ((rd_T30 l1 t327).f3) && (t338 == ((rd_T30 l1 t327).f4)))))) = true := c63
                  (try (have c63b1 : decide (t334 = ((rd_T30 l1 t327).f0) && (t335 == ((rd_T30 l1 t327).f1) && (t336 == ((rd_T30 l1 t327).f2) && (t337 == ((rd_T30 l1 t327).f3) && (t338 == ((rd_T30 l1 t327).f4)))))) = true := by simpa using c63))
                  (try (have c63b2 : (t334 == ((rd_T30 l1 t327).f0) && (t335 == ((rd_T30 l1 t327).f1) && (t336 == ((rd_T30 l1 t327).f2) && (t337 == ((rd_T30 l1 t327).f3) && (t338 == ((rd_T30 l1 t327).f4)))))) = true := by simpa using c63))
                  clear c63
                  obtain rfl := Option.some.inj H
                  have hcz64_0 : wc.cell? ⟨gb342, 0, none⟩ = some (.int .i64 t327) := (blk_cell BK342.out 0).trans rfl
                  have hcz64_1 : wc.cell? ⟨gb342, 1, none⟩ = some (.int .i64 t328) := (blk_cell BK342.out 1).trans rfl
                  have hcz64_2 : wc.cell? ⟨gb342, 2, none⟩ = some (.int .i64 t329) := (blk_cell BK342.out 2).trans rfl
                  have hcz64_3 : wc.cell? ⟨gb342, 3, none⟩ = some (.int .i64 t330) := (blk_cell BK342.out 3).trans rfl
                  have hcz64_4 : wc.cell? ⟨gb342, 4, none⟩ = some (.int .i64 t331) := (blk_cell BK342.out 4).trans rfl
                  have hcz64_5 : wc.cell? ⟨gb342, 5, none⟩ = some (.int .i64 t332) := (blk_cell BK342.out 5).trans rfl
                  have hcz64_6 : wc.cell? ⟨gb342, 6, none⟩ = some (.int .i64 t333) := (blk_cell BK342.out 6).trans rfl
                  have hcz64_7 : wc.cell? ⟨gb342, 7, none⟩ = some (.int .i64 t334) := (blk_cell BK342.out 7).trans rfl
                  have hcz64_8 : wc.cell? ⟨gb342, 8, none⟩ = some (.int .i64 t335) := (blk_cell BK342.out 8).trans rfl
                  have hcz64_9 : wc.cell? ⟨gb342, 9, none⟩ = some (.int .i64 t336) := (blk_cell BK342.out 9).trans rfl
                  have hcz64_10 : wc.cell? ⟨gb342, 10, none⟩ = some (.int .i64 t337) := (blk_cell BK342.out 10).trans rfl
                  have hcz64_11 : wc.cell? ⟨gb342, 11, none⟩ = some (.int .i64 t338) := (blk_cell BK342.out 11).trans rfl
                  have hfz64_0 := blk_frozen BK342.out 0
                  have hfz64_1 := blk_frozen BK342.out 1
                  have hfz64_2 := blk_frozen BK342.out 2
                  have hfz64_3 := blk_frozen BK342.out 3
                  have hfz64_4 := blk_frozen BK342.out 4
                  have hfz64_5 := blk_frozen BK342.out 5
                  have hfz64_6 := blk_frozen BK342.out 6
                  have hfz64_7 := blk_frozen BK342.out 7
                  have hfz64_8 := blk_frozen BK342.out 8
                  have hfz64_9 := blk_frozen BK342.out 9
                  have hfz64_10 := blk_frozen BK342.out 10
                  have hfz64_11 := blk_frozen BK342.out 11
                  try go_wp2
                  have n0_ := Aside0.mk (blk_drew BK342.out)
                  have n1_ := Aside0.mk (below_drew1 HB.out)
                  clear BK342
                  clear HB
                  have BK342 := n0_
                  have HB := n1_
                  clear n0_ n1_
                  have p353 : 0 ≤ (t327 : Int) := of_decide_eq_true (by first | (with_reducible assumption) | assumption)
                  have q353 : t327 < (l0.length : Int) := of_decide_eq_true (by first | (with_reducible assumption) | assumption)
                  obtain ⟨ad353, e353, hx353_0, hx353_1, hx353_2, hx353_3, hx353_4⟩ := at_T30 HR0.out t327 p353 q353
                  have hw353_4 := hx353_4
                  have hw353_3 := hx353_3
                  have hw353_2 := hx353_2
                  have hw353_1 := hx353_1
                  have hw353_0 := hx353_0
                  cases e353
                  replace hx353_0 := (HB.out.cell (World.block_lt_of_cell? w _ hx353_0)).trans hx353_0
                  replace hx353_1 := (HB.out.cell (World.block_lt_of_cell? w _ hx353_1)).trans hx353_1
                  replace hx353_2 := (HB.out.cell (World.block_lt_of_cell? w _ hx353_2)).trans hx353_2
                  replace hx353_3 := (HB.out.cell (World.block_lt_of_cell? w _ hx353_3)).trans hx353_3
                  replace hx353_4 := (HB.out.cell (World.block_lt_of_cell? w _ hx353_4)).trans hx353_4
                  replace p353 := eq_true p353
                  replace q353 := eq_true q353
                  have p354 : 0 ≤ (t327 : Int) := of_decide_eq_true (by first | (with_reducible assumption) | assumption)
                  have q354 : t327 < (l1.length : Int) := of_decide_eq_true (by first | (with_reducible assumption) | assumption)
                  obtain ⟨ad354, e354, hx354_0, hx354_1, hx354_2, hx354_3, hx354_4⟩ := at_T30 HR1.out t327 p354 q354
                  have hw354_4 := hx354_4
                  have hw354_3 := hx354_3
                  have hw354_2 := hx354_2
                  have hw354_1 := hx354_1
                  have hw354_0 := hx354_0
                  cases e354
                  replace hx354_0 := (HB.out.cell (World.block_lt_of_cell? w _ hx354_0)).trans hx354_0
                  replace hx354_1 := (HB.out.cell (World.block_lt_of_cell? w _ hx354_1)).trans hx354_1
                  replace hx354_2 := (HB.out.cell (World.block_lt_of_cell? w _ hx354_2)).trans hx354_2
                  replace hx354_3 := (HB.out.cell (World.block_lt_of_cell? w _ hx354_3)).trans hx354_3
                  replace hx354_4 := (HB.out.cell (World.block_lt_of_cell? w _ hx354_4)).trans hx354_4
                  replace p354 := eq_true p354
                  replace q354 := eq_true q354
                  refine start_ (n := 43) (S := fun w' => w'.cell? ⟨gb342, 0, none⟩ = some (.int .i64 t327) ∧ w'.cell? ⟨gb342, 1, none⟩ = some (.int .i64 t328) ∧ w'.cell? ⟨gb342, 2, none⟩ = some (.int .i64 t329) ∧ w'.cell? ⟨gb342, 3, none⟩ = some (.int .i64 t330) ∧ w'.cell? ⟨gb342, 4, none⟩ = some (.int .i64 t331) ∧ w'.cell? ⟨gb342, 5, none⟩ = some (.int .i64 t332) ∧ w'.cell? ⟨gb342, 6, none⟩ = some (.int .i64 t333) ∧ w'.cell? ⟨gb342, 7, none⟩ = some (.int .i64 t334) ∧ w'.cell? ⟨gb342, 8, none⟩ = some (.int .i64 t335) ∧ w'.cell? ⟨gb342, 9, none⟩ = some (.int .i64 t336) ∧ w'.cell? ⟨gb342, 10, none⟩ = some (.int .i64 t337) ∧ w'.cell? ⟨gb342, 11, none⟩ = some (.int .i64 t338) ∧ w'.cell? (ad353.add ((t327).toNat * 5)) = some (.int .i64 ((rd_T30 l0 t327).f0)) ∧ w'.cell? ⟨(ad353.add ((t327).toNat * 5)).block, (ad353.add ((t327).toNat * 5)).off + 1, none⟩ = some (.int .i64 ((rd_T30 l0 t327).f1)) ∧ w'.cell? ⟨(ad353.add ((t327).toNat * 5)).block, (ad353.add ((t327).toNat * 5)).off + 2, none⟩ = some (.int .i64 ((rd_T30 l0 t327).f2)) ∧ w'.cell? ⟨(ad353.add ((t327).toNat * 5)).block, (ad353.add ((t327).toNat * 5)).off + 3, none⟩ = some (.int .i64 ((rd_T30 l0 t327).f3)) ∧ w'.cell? ⟨(ad353.add ((t327).toNat * 5)).block, (ad353.add ((t327).toNat * 5)).off + 4, none⟩ = some (.int .i64 ((rd_T30 l0 t327).f4)) ∧ w'.cell? (ad354.add ((t327).toNat * 5)) = some (.int .i64 ((rd_T30 l1 t327).f0)) ∧ w'.cell? ⟨(ad354.add ((t327).toNat * 5)).block, (ad354.add ((t327).toNat * 5)).off + 1, none⟩ = some (.int .i64 ((rd_T30 l1 t327).f1)) ∧ w'.cell? ⟨(ad354.add ((t327).toNat * 5)).block, (ad354.add ((t327).toNat * 5)).off + 2, none⟩ = some (.int .i64 ((rd_T30 l1 t327).f2)) ∧ w'.cell? ⟨(ad354.add ((t327).toNat * 5)).block, (ad354.add ((t327).toNat * 5)).off + 3, none⟩ = some (.int .i64 ((rd_T30 l1 t327).f3)) ∧ w'.cell? ⟨(ad354.add ((t327).toNat * 5)).block, (ad354.add ((t327).toNat * 5)).off + 4, none⟩ = some (.int .i64 ((rd_T30 l1 t327).f4))) (ds := []) #[false, false, false, false, false, false, false, false, false, false, false, false, false, false, false, false, false, false, false, false, false, false, false, false, false, false, false, false, false, false, false, false, false, false, false, false, false, false, false, false, false, false, false] (by kernel_rfl) rfl rfl ⟨(blk_cell BK342.out 0).trans rfl, (blk_cell BK342.out 1).trans rfl, (blk_cell BK342.out 2).trans rfl, (blk_cell BK342.out 3).trans rfl, (blk_cell BK342.out 4).trans rfl, (blk_cell BK342.out 5).trans rfl, (blk_cell BK342.out 6).trans rfl, (blk_cell BK342.out 7).trans rfl, (blk_cell BK342.out 8).trans rfl, (blk_cell BK342.out 9).trans rfl, (blk_cell BK342.out 10).trans rfl, (blk_cell BK342.out 11).trans rfl, ((HB.out.cell (World.block_lt_of_cell? w _ hw353_0)).trans hw353_0), ((HB.out.cell (World.block_lt_of_cell? w _ hw353_1)).trans hw353_1), ((HB.out.cell (World.block_lt_of_cell? w _ hw353_2)).trans hw353_2), ((HB.out.cell (World.block_lt_of_cell? w _ hw353_3)).trans hw353_3), ((HB.out.cell (World.block_lt_of_cell? w _ hw353_4)).trans hw353_4), ((HB.out.cell (World.block_lt_of_cell? w _ hw354_0)).trans hw354_0), ((HB.out.cell (World.block_lt_of_cell? w _ hw354_1)).trans hw354_1), ((HB.out.cell (World.block_lt_of_cell? w _ hw354_2)).trans hw354_2), ((HB.out.cell (World.block_lt_of_cell? w _ hw354_3)).trans hw354_3), ((HB.out.cell (World.block_lt_of_cell? w _ hw354_4)).trans hw354_4)⟩ (fun hHeld => ?_); refine with_tabW palletlaw23_DiffEqual.tab17 palletlaw23_DiffEqual.bits17 (fun HT_ HW_ => ?_)
                  generalize wc.drew = w65 at BK342 HB hx353_0 hx353_1 hx353_2 hx353_3 hx353_4 hx354_0 hx354_1 hx354_2 hx354_3 hx354_4 hHeld ⊢
                  refine pure_ (i := 0) (N := some 122) (v := ?_) (a' := ?_) #[true, false, false, false, false, false, false, false, false, false, false, false, false, false, false, false, false, false, false, false, false, false, false, false, false, false, false, false, false, false, false, false, false, false, false, false, false, false, false, false, false, false, false] rfl rfl (any_of HT_.out (by kernel_rfl)) (fun _ _ _ h => h) (Or.inl ⟨by rfl, ?_⟩) ?_ ?_
                  rotate_left
                  ·intro w'
                   go_simp
                   with_reducible rfl
                  rotate_left
                  ·simp only [Act.put, List.setIfInBounds_toArray, List.set_cons_zero, List.set_cons_succ, i64_w, i32_w]
                   rfl
                  refine pure_ (i := 1) (N := some 123) (v := ?_) (a' := ?_) #[true, true, false, false, false, false, false, false, false, false, false, false, false, false, false, false, false, false, false, false, false, false, false, false, false, false, false, false, false, false, false, false, false, false, false, false, false, false, false, false, false, false, false] rfl rfl (any_of HT_.out (by kernel_rfl)) (fun _ _ _ h => h) (Or.inl ⟨by rfl, ?_⟩) ?_ ?_
                  rotate_left
                  ·intro w'
                   go_simp
                   with_reducible rfl
                  rotate_left
                  ·simp only [Act.put, List.setIfInBounds_toArray, List.set_cons_zero, List.set_cons_succ, i64_w, i32_w]
                   rfl
                  refine pure_ (i := 2) (N := some 124) (v := ?_) (a' := ?_) #[true, true, true, false, false, false, false, false, false, false, false, false, false, false, false, false, false, false, false, false, false, false, false, false, false, false, false, false, false, false, false, false, false, false, false, false, false, false, false, false, false, false, false] rfl rfl (any_of HT_.out (by kernel_rfl)) (fun _ _ _ h => h) (Or.inl ⟨by rfl, ?_⟩) ?_ ?_
                  rotate_left
                  ·intro w'
                   go_simp
                   with_reducible rfl
                  rotate_left
                  ·simp only [Act.put, List.setIfInBounds_toArray, List.set_cons_zero, List.set_cons_succ, i64_w, i32_w]
                   rfl
                  refine pure_ (i := 4) (N := some 126) (v := ?_) (a' := ?_) #[true, true, true, false, true, false, false, false, false, false, false, false, false, false, false, false, false, false, false, false, false, false, false, false, false, false, false, false, false, false, false, false, false, false, false, false, false, false, false, false, false, false, false] rfl rfl (any_of HT_.out (by kernel_rfl)) (fun _ _ _ h => h) (Or.inl ⟨by rfl, ?_⟩) ?_ ?_
                  rotate_left
                  ·intro w'
                   go_simp
                   with_reducible rfl
                  rotate_left
                  ·simp only [Act.put, List.setIfInBounds_toArray, List.set_cons_zero, List.set_cons_succ, i64_w, i32_w]
                   rfl
                  refine pure_ (i := 5) (N := some 127) (v := ?_) (a' := ?_) #[true, true, true, false, true, true, false, false, false, false, false, false, false, false, false, false, false, false, false, false, false, false, false, false, false, false, false, false, false, false, false, false, false, false, false, false, false, false, false, false, false, false, false] rfl rfl (any_of HT_.out (by kernel_rfl)) (fun _ _ _ h => h) (Or.inl ⟨by rfl, ?_⟩) ?_ ?_
                  rotate_left
                  ·intro w'
                   go_simp
                   with_reducible rfl
                  rotate_left
                  ·simp only [Act.put, List.setIfInBounds_toArray, List.set_cons_zero, List.set_cons_succ, i64_w, i32_w]
                   rfl
                  refine take_ (i := 3) (N := some 125) (v := ?_) (a' := ?_) #[true, true, true, true, true, true, false, false, false, false, false, false, false, false, false, false, false, false, false, false, false, false, false, false, false, false, false, false, false, false, false, false, false, false, false, false, false, false, false, false, false, false, false] rfl rfl (take_ofW HT_.out HW_.out (by kernel_rfl)) (fun _ _ _ h => h) (Or.inl ⟨by rfl, ?_⟩) hHeld ?_ ?_
                  rotate_left
                  ·rintro w' ⟨s0, s1, s2, s3, s4, s5, s6, s7, s8, s9, s10, s11, s12, s13, s14, s15, s16, s17, s18, s19, s20, s21⟩
                   go_simp
                   with_reducible rfl
                  rotate_left
                  ·simp only [Act.put, List.setIfInBounds_toArray, List.set_cons_zero, List.set_cons_succ, i64_w, i32_w]
                   rfl
                  refine pure_ (i := 6) (N := some 128) (v := ?_) (a' := ?_) #[true, true, true, true, true, true, true, false, false, false, false, false, false, false, false, false, false, false, false, false, false, false, false, false, false, false, false, false, false, false, false, false, false, false, false, false, false, false, false, false, false, false, false] rfl rfl (any_of HT_.out (by kernel_rfl)) (fun _ _ _ h => h) (Or.inl ⟨by rfl, ?_⟩) ?_ ?_
                  rotate_left
                  ·intro w'
                   go_simp
                   with_reducible rfl
                  rotate_left
                  ·simp only [Act.put, List.setIfInBounds_toArray, List.set_cons_zero, List.set_cons_succ, i64_w, i32_w]
                   rfl
                  refine pure_ (i := 7) (N := some 129) (v := ?_) (a' := ?_) #[true, true, true, true, true, true, true, true, false, false, false, false, false, false, false, false, false, false, false, false, false, false, false, false, false, false, false, false, false, false, false, false, false, false, false, false, false, false, false, false, false, false, false] rfl rfl (any_of HT_.out (by kernel_rfl)) (fun _ _ _ h => h) (Or.inl ⟨by rfl, ?_⟩) ?_ ?_
                  rotate_left
                  ·intro w'
                   go_simp
                   with_reducible rfl
                  rotate_left
                  ·simp only [Act.put, List.setIfInBounds_toArray, List.set_cons_zero, List.set_cons_succ, i64_w, i32_w]
                   rfl
                  refine pure_ (i := 8) (N := some 130) (v := ?_) (a' := ?_) #[true, true, true, true, true, true, true, true, true, false, false, false, false, false, false, false, false, false, false, false, false, false, false, false, false, false, false, false, false, false, false, false, false, false, false, false, false, false, false, false, false, false, false] rfl rfl (any_of HT_.out (by kernel_rfl)) (fun _ _ _ h => h) (Or.inl ⟨by rfl, ?_⟩) ?_ ?_
                  rotate_left
                  ·intro w'
                   go_simp
                   with_reducible rfl
                  rotate_left
                  ·simp only [Act.put, List.setIfInBounds_toArray, List.set_cons_zero, List.set_cons_succ, i64_w, i32_w]
                   rfl
                  refine pure_ (i := 9) (N := some 131) (v := ?_) (a' := ?_) #[true, true, true, true, true, true, true, true, true, true, false, false, false, false, false, false, false, false, false, false, false, false, false, false, false, false, false, false, false, false, false, false, false, false, false, false, false, false, false, false, false, false, false] rfl rfl (any_of HT_.out (by kernel_rfl)) (fun _ _ _ h => h) (Or.inl ⟨by rfl, ?_⟩) ?_ ?_
                  rotate_left
                  ·intro w'
                   go_simp
                   with_reducible rfl
                  rotate_left
                  ·simp only [Act.put, List.setIfInBounds_toArray, List.set_cons_zero, List.set_cons_succ, i64_w, i32_w]
                   rfl
                  refine pure_ (i := 11) (N := some 133) (v := ?_) (a' := ?_) #[true, true, true, true, true, true, true, true, true, true, false, true, false, false, false, false, false, false, false, false, false, false, false, false, false, false, false, false, false, false, false, false, false, false, false, false, false, false, false, false, false, false, false] rfl rfl (any_of HT_.out (by kernel_rfl)) (fun _ _ _ h => h) (Or.inl ⟨by rfl, ?_⟩) ?_ ?_
                  rotate_left
                  ·intro w'
                   go_simp
                   with_reducible rfl
                  rotate_left
                  ·simp only [Act.put, List.setIfInBounds_toArray, List.set_cons_zero, List.set_cons_succ, i64_w, i32_w]
                   rfl
                  refine pure_ (i := 12) (N := some 134) (v := ?_) (a' := ?_) #[true, true, true, true, true, true, true, true, true, true, false, true, true, false, false, false, false, false, false, false, false, false, false, false, false, false, false, false, false, false, false, false, false, false, false, false, false, false, false, false, false, false, false] rfl rfl (any_of HT_.out (by kernel_rfl)) (fun _ _ _ h => h) (Or.inl ⟨by rfl, ?_⟩) ?_ ?_
                  rotate_left
                  ·intro w'
                   go_simp
                   with_reducible rfl
                  rotate_left
                  ·simp only [Act.put, List.setIfInBounds_toArray, List.set_cons_zero, List.set_cons_succ, i64_w, i32_w]
                   rfl
                  refine take_ (i := 10) (N := some 132) (v := ?_) (a' := ?_) #[true, true, true, true, true, true, true, true, true, true, true, true, true, false, false, false, false, false, false, false, false, false, false, false, false, false, false, false, false, false, false, false, false, false, false, false, false, false, false, false, false, false, false] rfl rfl (take_ofW HT_.out HW_.out (by kernel_rfl)) (fun _ _ _ h => h) (Or.inl ⟨by rfl, ?_⟩) hHeld ?_ ?_
                  rotate_left
                  ·rintro w' ⟨s0, s1, s2, s3, s4, s5, s6, s7, s8, s9, s10, s11, s12, s13, s14, s15, s16, s17, s18, s19, s20, s21⟩
                   go_simp
                   with_reducible rfl
                  rotate_left
                  ·simp only [Act.put, List.setIfInBounds_toArray, List.set_cons_zero, List.set_cons_succ, i64_w, i32_w]
                   rfl
                  refine pure_ (i := 13) (N := some 135) (v := ?_) (a' := ?_) #[true, true, true, true, true, true, true, true, true, true, true, true, true, true, false, false, false, false, false, false, false, false, false, false, false, false, false, false, false, false, false, false, false, false, false, false, false, false, false, false, false, false, false] rfl rfl (any_of HT_.out (by kernel_rfl)) (fun _ _ _ h => h) (Or.inl ⟨by rfl, ?_⟩) ?_ ?_
                  rotate_left
                  ·intro w'
                   go_simp
                   with_reducible rfl
                  rotate_left
                  ·simp only [Act.put, List.setIfInBounds_toArray, List.set_cons_zero, List.set_cons_succ, i64_w, i32_w]
                   rfl
                  refine pure_ (i := 14) (N := some 136) (v := ?_) (a' := ?_) #[true, true, true, true, true, true, true, true, true, true, true, true, true, true, true, false, false, false, false, false, false, false, false, false, false, false, false, false, false, false, false, false, false, false, false, false, false, false, false, false, false, false, false] rfl rfl (any_of HT_.out (by kernel_rfl)) (fun _ _ _ h => h) (Or.inl ⟨by rfl, ?_⟩) ?_ ?_
                  rotate_left
                  ·intro w'
                   go_simp
                   with_reducible rfl
                  rotate_left
                  ·simp only [Act.put, List.setIfInBounds_toArray, List.set_cons_zero, List.set_cons_succ, i64_w, i32_w]
                   rfl
                  refine pure_ (i := 15) (N := some 137) (v := ?_) (a' := ?_) #[true, true, true, true, true, true, true, true, true, true, true, true, true, true, true, true, false, false, false, false, false, false, false, false, false, false, false, false, false, false, false, false, false, false, false, false, false, false, false, false, false, false, false] rfl rfl (any_of HT_.out (by kernel_rfl)) (fun _ _ _ h => h) (Or.inl ⟨by rfl, ?_⟩) ?_ ?_
                  rotate_left
                  ·intro w'
                   go_simp
                   with_reducible rfl
                  rotate_left
                  ·simp only [Act.put, List.setIfInBounds_toArray, List.set_cons_zero, List.set_cons_succ, i64_w, i32_w]
                   rfl
                  refine pure_ (i := 16) (N := some 138) (v := ?_) (a' := ?_) #[true, true, true, true, true, true, true, true, true, true, true, true, true, true, true, true, true, false, false, false, false, false, false, false, false, false, false, false, false, false, false, false, false, false, false, false, false, false, false, false, false, false, false] rfl rfl (any_of HT_.out (by kernel_rfl)) (fun _ _ _ h => h) (Or.inl ⟨by rfl, ?_⟩) ?_ ?_
                  rotate_left
                  ·intro w'
                   go_simp
                   with_reducible rfl
                  rotate_left
                  ·simp only [Act.put, List.setIfInBounds_toArray, List.set_cons_zero, List.set_cons_succ, i64_w, i32_w]
                   rfl
                  refine pure_ (i := 18) (N := some 140) (v := ?_) (a' := ?_) #[true, true, true, true, true, true, true, true, true, true, true, true, true, true, true, true, true, false, true, false, false, false, false, false, false, false, false, false, false, false, false, false, false, false, false, false, false, false, false, false, false, false, false] rfl rfl (any_of HT_.out (by kernel_rfl)) (fun _ _ _ h => h) (Or.inl ⟨by rfl, ?_⟩) ?_ ?_
                  rotate_left
                  ·intro w'
                   go_simp
                   with_reducible rfl
                  rotate_left
                  ·simp only [Act.put, List.setIfInBounds_toArray, List.set_cons_zero, List.set_cons_succ, i64_w, i32_w]
                   rfl
                  refine pure_ (i := 19) (N := some 141) (v := ?_) (a' := ?_) #[true, true, true, true, true, true, true, true, true, true, true, true, true, true, true, true, true, false, true, true, false, false, false, false, false, false, false, false, false, false, false, false, false, false, false, false, false, false, false, false, false, false, false] rfl rfl (any_of HT_.out (by kernel_rfl)) (fun _ _ _ h => h) (Or.inl ⟨by rfl, ?_⟩) ?_ ?_
                  rotate_left
                  ·intro w'
                   go_simp
                   with_reducible rfl
                  rotate_left
                  ·simp only [Act.put, List.setIfInBounds_toArray, List.set_cons_zero, List.set_cons_succ, i64_w, i32_w]
                   rfl
                  refine take_ (i := 17) (N := some 139) (v := ?_) (a' := ?_) #[true, true, true, true, true, true, true, true, true, true, true, true, true, true, true, true, true, true, true, true, false, false, false, false, false, false, false, false, false, false, false, false, false, false, false, false, false, false, false, false, false, false, false] rfl rfl (take_ofW HT_.out HW_.out (by kernel_rfl)) (fun _ _ _ h => h) (Or.inl ⟨by rfl, ?_⟩) hHeld ?_ ?_
                  rotate_left
                  ·rintro w' ⟨s0, s1, s2, s3, s4, s5, s6, s7, s8, s9, s10, s11, s12, s13, s14, s15, s16, s17, s18, s19, s20, s21⟩
                   go_simp
                   with_reducible rfl
                  rotate_left
                  ·simp only [Act.put, List.setIfInBounds_toArray, List.set_cons_zero, List.set_cons_succ, i64_w, i32_w]
                   rfl
                  refine take_ (i := 20) (N := some 142) (v := ?_) (a' := ?_) #[true, true, true, true, true, true, true, true, true, true, true, true, true, true, true, true, true, true, true, true, true, false, false, false, false, false, false, false, false, false, false, false, false, false, false, false, false, false, false, false, false, false, false] rfl rfl (take_ofW HT_.out HW_.out (by kernel_rfl)) (fun _ _ _ h => h) (Or.inl ⟨by rfl, ?_⟩) hHeld ?_ ?_
                  rotate_left
                  ·rintro w' ⟨s0, s1, s2, s3, s4, s5, s6, s7, s8, s9, s10, s11, s12, s13, s14, s15, s16, s17, s18, s19, s20, s21⟩
                   go_simp
                   with_reducible rfl
                  rotate_left
                  ·simp only [Act.put, List.setIfInBounds_toArray, List.set_cons_zero, List.set_cons_succ, i64_w, i32_w]
                   rfl
                  refine pure_ (i := 21) (N := some 143) (v := ?_) (a' := ?_) #[true, true, true, true, true, true, true, true, true, true, true, true, true, true, true, true, true, true, true, true, true, true, false, false, false, false, false, false, false, false, false, false, false, false, false, false, false, false, false, false, false, false, false] rfl rfl (any_of HT_.out (by kernel_rfl)) (fun _ _ _ h => h) (Or.inl ⟨by rfl, ?_⟩) ?_ ?_
                  rotate_left
                  ·intro w'
                   go_simp
                   with_reducible rfl
                  rotate_left
                  ·simp only [Act.put, List.setIfInBounds_toArray, List.set_cons_zero, List.set_cons_succ, i64_w, i32_w]
                   rfl
                  refine take_ (i := 22) (N := some 144) (v := ?_) (a' := ?_) #[true, true, true, true, true, true, true, true, true, true, true, true, true, true, true, true, true, true, true, true, true, true, true, false, false, false, false, false, false, false, false, false, false, false, false, false, false, false, false, false, false, false, false] rfl rfl (take_ofW HT_.out HW_.out (by kernel_rfl)) (fun _ _ _ h => h) (Or.inl ⟨by rfl, ?_⟩) hHeld ?_ ?_
                  rotate_left
                  ·rintro w' ⟨s0, s1, s2, s3, s4, s5, s6, s7, s8, s9, s10, s11, s12, s13, s14, s15, s16, s17, s18, s19, s20, s21⟩
                   go_simp
                   with_reducible rfl
                  rotate_left
                  ·simp only [Act.put, List.setIfInBounds_toArray, List.set_cons_zero, List.set_cons_succ, i64_w, i32_w]
                   rfl
                  refine pure_ (i := 23) (N := some 145) (v := ?_) (a' := ?_) #[true, true, true, true, true, true, true, true, true, true, true, true, true, true, true, true, true, true, true, true, true, true, true, true, false, false, false, false, false, false, false, false, false, false, false, false, false, false, false, false, false, false, false] rfl rfl (any_of HT_.out (by kernel_rfl)) (fun _ _ _ h => h) (Or.inl ⟨by rfl, ?_⟩) ?_ ?_
                  rotate_left
                  ·intro w'
                   go_simp
                   with_reducible rfl
                  rotate_left
                  ·simp only [Act.put, List.setIfInBounds_toArray, List.set_cons_zero, List.set_cons_succ, i64_w, i32_w]
                   rfl
                  refine pure_ (i := 24) (N := some 146) (v := ?_) (a' := ?_) #[true, true, true, true, true, true, true, true, true, true, true, true, true, true, true, true, true, true, true, true, true, true, true, true, true, false, false, false, false, false, false, false, false, false, false, false, false, false, false, false, false, false, false] rfl rfl (any_of HT_.out (by kernel_rfl)) (fun _ _ _ h => h) (Or.inl ⟨by rfl, ?_⟩) ?_ ?_
                  rotate_left
                  ·intro w'
                   go_simp
                   with_reducible rfl
                  rotate_left
                  ·simp only [Act.put, List.setIfInBounds_toArray, List.set_cons_zero, List.set_cons_succ, i64_w, i32_w]
                   rfl
                  refine pure_ (i := 25) (N := some 147) (v := ?_) (a' := ?_) #[true, true, true, true, true, true, true, true, true, true, true, true, true, true, true, true, true, true, true, true, true, true, true, true, true, true, false, false, false, false, false, false, false, false, false, false, false, false, false, false, false, false, false] rfl rfl (any_of HT_.out (by kernel_rfl)) (fun _ _ _ h => h) (Or.inl ⟨by rfl, ?_⟩) ?_ ?_
                  rotate_left
                  ·intro w'
                   go_simp
                   with_reducible rfl
                  rotate_left
                  ·simp only [Act.put, List.setIfInBounds_toArray, List.set_cons_zero, List.set_cons_succ, i64_w, i32_w]
                   rfl
                  refine pure_ (i := 26) (N := some 148) (v := ?_) (a' := ?_) #[true, true, true, true, true, true, true, true, true, true, true, true, true, true, true, true, true, true, true, true, true, true, true, true, true, true, true, false, false, false, false, false, false, false, false, false, false, false, false, false, false, false, false] rfl rfl (any_of HT_.out (by kernel_rfl)) (fun _ _ _ h => h) (Or.inl ⟨by rfl, ?_⟩) ?_ ?_
                  rotate_left
                  ·intro w'
                   go_simp
                   with_reducible rfl
                  rotate_left
                  ·simp only [Act.put, List.setIfInBounds_toArray, List.set_cons_zero, List.set_cons_succ, i64_w, i32_w]
                   rfl
                  refine pure_ (i := 28) (N := some 150) (v := ?_) (a' := ?_) #[true, true, true, true, true, true, true, true, true, true, true, true, true, true, true, true, true, true, true, true, true, true, true, true, true, true, true, false, true, false, false, false, false, false, false, false, false, false, false, false, false, false, false] rfl rfl (any_of HT_.out (by kernel_rfl)) (fun _ _ _ h => h) (Or.inl ⟨by rfl, ?_⟩) ?_ ?_
                  rotate_left
                  ·intro w'
                   go_simp
                   with_reducible rfl
                  rotate_left
                  ·simp only [Act.put, List.setIfInBounds_toArray, List.set_cons_zero, List.set_cons_succ, i64_w, i32_w]
                   rfl
                  refine pure_ (i := 29) (N := some 151) (v := ?_) (a' := ?_) #[true, true, true, true, true, true, true, true, true, true, true, true, true, true, true, true, true, true, true, true, true, true, true, true, true, true, true, false, true, true, false, false, false, false, false, false, false, false, false, false, false, false, false] rfl rfl (any_of HT_.out (by kernel_rfl)) (fun _ _ _ h => h) (Or.inl ⟨by rfl, ?_⟩) ?_ ?_
                  rotate_left
                  ·intro w'
                   go_simp
                   with_reducible rfl
                  rotate_left
                  ·simp only [Act.put, List.setIfInBounds_toArray, List.set_cons_zero, List.set_cons_succ, i64_w, i32_w]
                   rfl
                  refine take_ (i := 27) (N := some 149) (v := ?_) (a' := ?_) #[true, true, true, true, true, true, true, true, true, true, true, true, true, true, true, true, true, true, true, true, true, true, true, true, true, true, true, true, true, true, false, false, false, false, false, false, false, false, false, false, false, false, false] rfl rfl (take_ofW HT_.out HW_.out (by kernel_rfl)) (fun _ _ _ h => h) (Or.inl ⟨by rfl, ?_⟩) hHeld ?_ ?_
                  rotate_left
                  ·rintro w' ⟨s0, s1, s2, s3, s4, s5, s6, s7, s8, s9, s10, s11, s12, s13, s14, s15, s16, s17, s18, s19, s20, s21⟩
                   go_simp
                   with_reducible rfl
                  rotate_left
                  ·simp only [Act.put, List.setIfInBounds_toArray, List.set_cons_zero, List.set_cons_succ, i64_w, i32_w]
                   rfl
                  refine take_ (i := 30) (N := some 152) (v := ?_) (a' := ?_) #[true, true, true, true, true, true, true, true, true, true, true, true, true, true, true, true, true, true, true, true, true, true, true, true, true, true, true, true, true, true, true, false, false, false, false, false, false, false, false, false, false, false, false] rfl rfl (take_ofW HT_.out HW_.out (by kernel_rfl)) (fun _ _ _ h => h) (Or.inl ⟨by rfl, ?_⟩) hHeld ?_ ?_
                  rotate_left
                  ·rintro w' ⟨s0, s1, s2, s3, s4, s5, s6, s7, s8, s9, s10, s11, s12, s13, s14, s15, s16, s17, s18, s19, s20, s21⟩
                   go_simp
                   with_reducible rfl
                  rotate_left
                  ·simp only [Act.put, List.setIfInBounds_toArray, List.set_cons_zero, List.set_cons_succ, i64_w, i32_w]
                   rfl
                  refine pure_ (i := 31) (N := some 153) (v := ?_) (a' := ?_) #[true, true, true, true, true, true, true, true, true, true, true, true, true, true, true, true, true, true, true, true, true, true, true, true, true, true, true, true, true, true, true, true, false, false, false, false, false, false, false, false, false, false, false] rfl rfl (any_of HT_.out (by kernel_rfl)) (fun _ _ _ h => h) (Or.inl ⟨by rfl, ?_⟩) ?_ ?_
                  rotate_left
                  ·intro w'
                   go_simp
                   with_reducible rfl
                  rotate_left
                  ·simp only [Act.put, List.setIfInBounds_toArray, List.set_cons_zero, List.set_cons_succ, i64_w, i32_w]
                   rfl
                  refine take_ (i := 32) (N := some 154) (v := ?_) (a' := ?_) #[true, true, true, true, true, true, true, true, true, true, true, true, true, true, true, true, true, true, true, true, true, true, true, true, true, true, true, true, true, true, true, true, true, false, false, false, false, false, false, false, false, false, false] rfl rfl (take_ofW HT_.out HW_.out (by kernel_rfl)) (fun _ _ _ h => h) (Or.inl ⟨by rfl, ?_⟩) hHeld ?_ ?_
                  rotate_left
                  ·rintro w' ⟨s0, s1, s2, s3, s4, s5, s6, s7, s8, s9, s10, s11, s12, s13, s14, s15, s16, s17, s18, s19, s20, s21⟩
                   go_simp
                   with_reducible rfl
                  rotate_left
                  ·simp only [Act.put, List.setIfInBounds_toArray, List.set_cons_zero, List.set_cons_succ, i64_w, i32_w]
                   rfl
                  refine pure_ (i := 33) (N := some 155) (v := ?_) (a' := ?_) #[true, true, true, true, true, true, true, true, true, true, true, true, true, true, true, true, true, true, true, true, true, true, true, true, true, true, true, true, true, true, true, true, true, true, false, false, false, false, false, false, false, false, false] rfl rfl (any_of HT_.out (by kernel_rfl)) (fun _ _ _ h => h) (Or.inl ⟨by rfl, ?_⟩) ?_ ?_
                  rotate_left
                  ·intro w'
                   go_simp
                   with_reducible rfl
                  rotate_left
                  ·simp only [Act.put, List.setIfInBounds_toArray, List.set_cons_zero, List.set_cons_succ, i64_w, i32_w]
                   rfl
                  refine pure_ (i := 34) (N := some 156) (v := ?_) (a' := ?_) #[true, true, true, true, true, true, true, true, true, true, true, true, true, true, true, true, true, true, true, true, true, true, true, true, true, true, true, true, true, true, true, true, true, true, true, false, false, false, false, false, false, false, false] rfl rfl (any_of HT_.out (by kernel_rfl)) (fun _ _ _ h => h) (Or.inl ⟨by rfl, ?_⟩) ?_ ?_
                  rotate_left
                  ·intro w'
                   go_simp
                   with_reducible rfl
                  rotate_left
                  ·simp only [Act.put, List.setIfInBounds_toArray, List.set_cons_zero, List.set_cons_succ, i64_w, i32_w]
                   rfl
                  refine pure_ (i := 35) (N := some 157) (v := ?_) (a' := ?_) #[true, true, true, true, true, true, true, true, true, true, true, true, true, true, true, true, true, true, true, true, true, true, true, true, true, true, true, true, true, true, true, true, true, true, true, true, false, false, false, false, false, false, false] rfl rfl (any_of HT_.out (by kernel_rfl)) (fun _ _ _ h => h) (Or.inl ⟨by rfl, ?_⟩) ?_ ?_
                  rotate_left
                  ·intro w'
                   go_simp
                   with_reducible rfl
                  rotate_left
                  ·simp only [Act.put, List.setIfInBounds_toArray, List.set_cons_zero, List.set_cons_succ, i64_w, i32_w]
                   rfl
                  refine pure_ (i := 36) (N := some 158) (v := ?_) (a' := ?_) #[true, true, true, true, true, true, true, true, true, true, true, true, true, true, true, true, true, true, true, true, true, true, true, true, true, true, true, true, true, true, true, true, true, true, true, true, true, false, false, false, false, false, false] rfl rfl (any_of HT_.out (by kernel_rfl)) (fun _ _ _ h => h) (Or.inl ⟨by rfl, ?_⟩) ?_ ?_
                  rotate_left
                  ·intro w'
                   go_simp
                   with_reducible rfl
                  rotate_left
                  ·simp only [Act.put, List.setIfInBounds_toArray, List.set_cons_zero, List.set_cons_succ, i64_w, i32_w]
                   rfl
                  refine pure_ (i := 38) (N := some 160) (v := ?_) (a' := ?_) #[true, true, true, true, true, true, true, true, true, true, true, true, true, true, true, true, true, true, true, true, true, true, true, true, true, true, true, true, true, true, true, true, true, true, true, true, true, false, true, false, false, false, false] rfl rfl (any_of HT_.out (by kernel_rfl)) (fun _ _ _ h => h) (Or.inl ⟨by rfl, ?_⟩) ?_ ?_
                  rotate_left
                  ·intro w'
                   go_simp
                   with_reducible rfl
                  rotate_left
                  ·simp only [Act.put, List.setIfInBounds_toArray, List.set_cons_zero, List.set_cons_succ, i64_w, i32_w]
                   rfl
                  refine take_ (i := 37) (N := some 159) (v := ?_) (a' := ?_) #[true, true, true, true, true, true, true, true, true, true, true, true, true, true, true, true, true, true, true, true, true, true, true, true, true, true, true, true, true, true, true, true, true, true, true, true, true, true, true, false, false, false, false] rfl rfl (take_ofW HT_.out HW_.out (by kernel_rfl)) (fun _ _ _ h => h) (Or.inl ⟨by rfl, ?_⟩) hHeld ?_ ?_
                  rotate_left
                  ·rintro w' ⟨s0, s1, s2, s3, s4, s5, s6, s7, s8, s9, s10, s11, s12, s13, s14, s15, s16, s17, s18, s19, s20, s21⟩
                   go_simp
                   with_reducible rfl
                  rotate_left
                  ·simp only [Act.put, List.setIfInBounds_toArray, List.set_cons_zero, List.set_cons_succ, i64_w, i32_w]
                   rfl
                  refine take_ (i := 39) (N := some 161) (v := ?_) (a' := ?_) #[true, true, true, true, true, true, true, true, true, true, true, true, true, true, true, true, true, true, true, true, true, true, true, true, true, true, true, true, true, true, true, true, true, true, true, true, true, true, true, true, false, false, false] rfl rfl (take_ofW HT_.out HW_.out (by kernel_rfl)) (fun _ _ _ h => h) (Or.inl ⟨by rfl, ?_⟩) hHeld ?_ ?_
                  rotate_left
                  ·rintro w' ⟨s0, s1, s2, s3, s4, s5, s6, s7, s8, s9, s10, s11, s12, s13, s14, s15, s16, s17, s18, s19, s20, s21⟩
                   go_simp
                   with_reducible rfl
                  rotate_left
                  ·simp only [Act.put, List.setIfInBounds_toArray, List.set_cons_zero, List.set_cons_succ, i64_w, i32_w]
                   rfl
                  refine pure_ (i := 40) (N := some 162) (v := ?_) (a' := ?_) #[true, true, true, true, true, true, true, true, true, true, true, true, true, true, true, true, true, true, true, true, true, true, true, true, true, true, true, true, true, true, true, true, true, true, true, true, true, true, true, true, true, false, false] rfl rfl (any_of HT_.out (by kernel_rfl)) (fun _ _ _ h => h) (Or.inl ⟨by rfl, ?_⟩) ?_ ?_
                  rotate_left
                  ·intro w'
                   go_simp
                   with_reducible rfl
                  rotate_left
                  ·simp only [Act.put, List.setIfInBounds_toArray, List.set_cons_zero, List.set_cons_succ, i64_w, i32_w]
                   rfl
                  refine pure_ (i := 41) (N := some 163) (v := ?_) (a' := ?_) #[true, true, true, true, true, true, true, true, true, true, true, true, true, true, true, true, true, true, true, true, true, true, true, true, true, true, true, true, true, true, true, true, true, true, true, true, true, true, true, true, true, true, false] rfl rfl (any_of HT_.out (by kernel_rfl)) (fun _ _ _ h => h) (Or.inl ⟨by rfl, ?_⟩) ?_ ?_
                  rotate_left
                  ·intro w'
                   go_simp
                   with_reducible rfl
                  rotate_left
                  ·simp only [Act.put, List.setIfInBounds_toArray, List.set_cons_zero, List.set_cons_succ, i64_w, i32_w]
                   rfl
                  refine pure_ (i := 42) (N := some 4) (v := ?_) (a' := ?_) #[true, true, true, true, true, true, true, true, true, true, true, true, true, true, true, true, true, true, true, true, true, true, true, true, true, true, true, true, true, true, true, true, true, true, true, true, true, true, true, true, true, true, true] rfl rfl (any_of HT_.out (by kernel_rfl)) (fun _ _ _ h => h) (Or.inl ⟨by rfl, ?_⟩) ?_ ?_
                  rotate_left
                  ·intro w'
                   go_simp
                   with_reducible rfl
                  rotate_left
                  ·simp only [Act.put, List.setIfInBounds_toArray, List.set_cons_zero, List.set_cons_succ, i64_w, i32_w]
                   rfl
                  refine done_ (done_of HT_.out (by kernel_rfl)) ?_
                  try go_wp2
                  go_ret
                  exact ⟨by first | rfl | (simp [errW_none, errW_some] <;> rfl) | (simp [*, errW_none, errW_some] <;> rfl), by repeat (first | (with_reducible first | exact HB.out | apply below_alloc | apply pw_below_drewN | apply below_drew1 | refine below_set ?_ GE342.out) | exact HB.out)⟩
                 ·rw [if_neg c63] at H
                  have c63b0 : (t334 == ((rd_T30 l1 t327).f0) && (t335 == ((rd_T30 l1 t327).f1) && (t336 == ((rd_T30 l1 t327).f2) && (t337 == ((rd_T30 l1 t327).f3) && (t338 == ((rd_T30 l1 t327).f4)))))) = false := by simpa using c63
                  (try (have c63b1 : decide (t334 = ((rd_T30 l1 t327).f0) && (t335 == ((rd_T30 l1 t327).f1) && (t336 == ((rd_T30 l1 t327).f2) && (t337 == ((rd_T30 l1 t327).f3) && (t338 == ((rd_T30 l1 t327).f4)))))) = false := by simpa using c63))
                  (try (have c63b2 : (t334 == ((rd_T30 l1 t327).f0) && (t335 == ((rd_T30 l1 t327).f1) && (t336 == ((rd_T30 l1 t327).f2) && (t337 == ((rd_T30 l1 t327).f3) && (t338 == ((rd_T30 l1 t327).f4)))))) = false := by simpa using c63))
                  (try (have c63b3 : ¬ (t334 = ((rd_T30 l1 t327).f0) && (t335 == ((rd_T30 l1 t327).f1) && (t336 == ((rd_T30 l1 t327).f2) && (t337 == ((rd_T30 l1 t327).f3) && (t338 == ((rd_T30 l1 t327).f4)))))) := by simpa using c63))
                  clear c63
                  exact absurd H (by simp)
                ·rw [if_neg c62] at H
                 have c62b0 : (t329 == ((rd_T30 l0 t327).f0) && (t330 == ((rd_T30 l0 t327).f1) && (t331 == ((rd_T30 l0 t327).f2) && (t332 == ((rd_T30 l0 t327).f3) && (t333 == ((rd_T30 l0 t327).f4)))))) = false := by simpa using c62
                 (try (have c62b1 : decide (t329 = ((rd_T30 l0 t327).f0) && (t330 == ((rd_T30 l0 t327).f1) && (t331 == ((rd_T30 l0 t327).f2) && (t332 == ((rd_T30 l0 t327).f3) && (t333 == ((rd_T30 l0 t327).f4)))))) = false := by simpa using c62))
                 (try (have c62b2 : (t329 == ((rd_T30 l0 t327).f0) && (t330 == ((rd_T30 l0 t327).f1) && (t331 == ((rd_T30 l0 t327).f2) && (t332 == ((rd_T30 l0 t327).f3) && (t333 == ((rd_T30 l0 t327).f4)))))) = false := by simpa using c62))
                 (try (have c62b3 : ¬ (t329 = ((rd_T30 l0 t327).f0) && (t330 == ((rd_T30 l0 t327).f1) && (t331 == ((rd_T30 l0 t327).f2) && (t332 == ((rd_T30 l0 t327).f3) && (t333 == ((rd_T30 l0 t327).f4)))))) := by simpa using c62))
                 clear c62
                 exact absurd H (by simp)
               ·rw [if_neg c61] at H
                exact absurd H (by simp)
              ·rw [if_neg c60] at H
               have c60b0 : decide (t327 < (l1.length : Int)) = false := decide_eq_false c60
               clear c60
               exact absurd H (by simp)
             ·rw [if_neg c59] at H
              have c59b0 : decide (t327 < (l0.length : Int)) = false := decide_eq_false c59
              clear c59
              exact absurd H (by simp)
            ·rw [if_neg c58] at H
             have c58b0 : (t328 == 1) = false := beq_eq_false_iff_ne.mpr c58
             have c58b1 : (t328 != 1) = true := bne_iff_ne.mpr c58
             by_cases c66 : t328 = 2
             ·rw [if_pos c66] at H
              have c66b0 : (t328 == 2) = true := beq_iff_eq.mpr c66
              have c66b1 : (t328 != 2) = false := bne_eq_false_iff_eq.mpr c66
              clear c66
              have H1 : (if t327 = (l0.length : Int) then (if t327 < (l1.length : Int) then (if 0 ≤ t327 then (some (t334 == ((rd_T30 l1 t327).f0) && (t335 == ((rd_T30 l1 t327).f1) && (t336 == ((rd_T30 l1 t327).f2) && (t337 == ((rd_T30 l1 t327).f3) && (t338 == ((rd_T30 l1 t327).f4))))))) else (none)) else (none)) else (none)) = some r := by first | (rw [if_pos rfl] at H; exact H) | exact H
              clear H
              have H := H1
              clear H1
              by_cases c67 : t327 = (l0.length : Int)
              ·rw [if_pos c67] at H
               have c67b0 : (t327 == (l0.length : Int)) = true := beq_iff_eq.mpr c67
               have c67b1 : (t327 != (l0.length : Int)) = false := bne_eq_false_iff_eq.mpr c67
               clear c67
               by_cases c68 : t327 < (l1.length : Int)
               ·rw [if_pos c68] at H
                have c68b0 : decide (t327 < (l1.length : Int)) = true := decide_eq_true c68
                clear c68
                by_cases c69 : 0 ≤ t327
                ·rw [if_pos c69] at H
                 have c69b0 : decide (0 ≤ t327) = true := decide_eq_true c69
                 clear c69
                 obtain rfl := Option.some.inj H
                 have hcz70_0 : wc.cell? ⟨gb342, 0, none⟩ = some (.int .i64 t327) := (blk_cell BK342.out 0).trans rfl
                 have hcz70_1 : wc.cell? ⟨gb342, 1, none⟩ = some (.int .i64 t328) := (blk_cell BK342.out 1).trans rfl
                 have hcz70_2 : wc.cell? ⟨gb342, 2, none⟩ = some (.int .i64 t329) := (blk_cell BK342.out 2).trans rfl
                 have hcz70_3 : wc.cell? ⟨gb342, 3, none⟩ = some (.int .i64 t330) := (blk_cell BK342.out 3).trans rfl
                 have hcz70_4 : wc.cell? ⟨gb342, 4, none⟩ = some (.int .i64 t331) := (blk_cell BK342.out 4).trans rfl
                 have hcz70_5 : wc.cell? ⟨gb342, 5, none⟩ = some (.int .i64 t332) := (blk_cell BK342.out 5).trans rfl
                 have hcz70_6 : wc.cell? ⟨gb342, 6, none⟩ = some (.int .i64 t333) := (blk_cell BK342.out 6).trans rfl
                 have hcz70_7 : wc.cell? ⟨gb342, 7, none⟩ = some (.int .i64 t334) := (blk_cell BK342.out 7).trans rfl
                 have hcz70_8 : wc.cell? ⟨gb342, 8, none⟩ = some (.int .i64 t335) := (blk_cell BK342.out 8).trans rfl
                 have hcz70_9 : wc.cell? ⟨gb342, 9, none⟩ = some (.int .i64 t336) := (blk_cell BK342.out 9).trans rfl
                 have hcz70_10 : wc.cell? ⟨gb342, 10, none⟩ = some (.int .i64 t337) := (blk_cell BK342.out 10).trans rfl
                 have hcz70_11 : wc.cell? ⟨gb342, 11, none⟩ = some (.int .i64 t338) := (blk_cell BK342.out 11).trans rfl
                 have hfz70_0 := blk_frozen BK342.out 0
                 have hfz70_1 := blk_frozen BK342.out 1
                 have hfz70_2 := blk_frozen BK342.out 2
                 have hfz70_3 := blk_frozen BK342.out 3
                 have hfz70_4 := blk_frozen BK342.out 4
                 have hfz70_5 := blk_frozen BK342.out 5
                 have hfz70_6 := blk_frozen BK342.out 6
                 have hfz70_7 := blk_frozen BK342.out 7
                 have hfz70_8 := blk_frozen BK342.out 8
                 have hfz70_9 := blk_frozen BK342.out 9
                 have hfz70_10 := blk_frozen BK342.out 10
                 have hfz70_11 := blk_frozen BK342.out 11
                 try go_wp2
                 have n0_ := Aside0.mk (blk_drew BK342.out)
                 have n1_ := Aside0.mk (below_drew1 HB.out)
                 clear BK342
                 clear HB
                 have BK342 := n0_
                 have HB := n1_
                 clear n0_ n1_
                 have p355 : 0 ≤ (t327 : Int) := of_decide_eq_true (by first | (with_reducible assumption) | assumption)
                 have q355 : t327 < (l1.length : Int) := of_decide_eq_true (by first | (with_reducible assumption) | assumption)
                 obtain ⟨ad355, e355, hx355_0, hx355_1, hx355_2, hx355_3, hx355_4⟩ := at_T30 HR1.out t327 p355 q355
                 have hw355_4 := hx355_4
                 have hw355_3 := hx355_3
                 have hw355_2 := hx355_2
                 have hw355_1 := hx355_1
                 have hw355_0 := hx355_0
                 cases e355
                 replace hx355_0 := (HB.out.cell (World.block_lt_of_cell? w _ hx355_0)).trans hx355_0
                 replace hx355_1 := (HB.out.cell (World.block_lt_of_cell? w _ hx355_1)).trans hx355_1
                 replace hx355_2 := (HB.out.cell (World.block_lt_of_cell? w _ hx355_2)).trans hx355_2
                 replace hx355_3 := (HB.out.cell (World.block_lt_of_cell? w _ hx355_3)).trans hx355_3
                 replace hx355_4 := (HB.out.cell (World.block_lt_of_cell? w _ hx355_4)).trans hx355_4
                 replace p355 := eq_true p355
                 replace q355 := eq_true q355
                 refine start_ (n := 26) (S := fun w' => w'.cell? ⟨gb342, 0, none⟩ = some (.int .i64 t327) ∧ w'.cell? ⟨gb342, 1, none⟩ = some (.int .i64 t328) ∧ w'.cell? ⟨gb342, 2, none⟩ = some (.int .i64 t329) ∧ w'.cell? ⟨gb342, 3, none⟩ = some (.int .i64 t330) ∧ w'.cell? ⟨gb342, 4, none⟩ = some (.int .i64 t331) ∧ w'.cell? ⟨gb342, 5, none⟩ = some (.int .i64 t332) ∧ w'.cell? ⟨gb342, 6, none⟩ = some (.int .i64 t333) ∧ w'.cell? ⟨gb342, 7, none⟩ = some (.int .i64 t334) ∧ w'.cell? ⟨gb342, 8, none⟩ = some (.int .i64 t335) ∧ w'.cell? ⟨gb342, 9, none⟩ = some (.int .i64 t336) ∧ w'.cell? ⟨gb342, 10, none⟩ = some (.int .i64 t337) ∧ w'.cell? ⟨gb342, 11, none⟩ = some (.int .i64 t338) ∧ w'.cell? (ad355.add ((t327).toNat * 5)) = some (.int .i64 ((rd_T30 l1 t327).f0)) ∧ w'.cell? ⟨(ad355.add ((t327).toNat * 5)).block, (ad355.add ((t327).toNat * 5)).off + 1, none⟩ = some (.int .i64 ((rd_T30 l1 t327).f1)) ∧ w'.cell? ⟨(ad355.add ((t327).toNat * 5)).block, (ad355.add ((t327).toNat * 5)).off + 2, none⟩ = some (.int .i64 ((rd_T30 l1 t327).f2)) ∧ w'.cell? ⟨(ad355.add ((t327).toNat * 5)).block, (ad355.add ((t327).toNat * 5)).off + 3, none⟩ = some (.int .i64 ((rd_T30 l1 t327).f3)) ∧ w'.cell? ⟨(ad355.add ((t327).toNat * 5)).block, (ad355.add ((t327).toNat * 5)).off + 4, none⟩ = some (.int .i64 ((rd_T30 l1 t327).f4))) (ds := []) #[false, false, false, false, false, false, false, false, false, false, false, false, false, false, false, false, false, false, false, false, false, false, false, false, false, false] (by kernel_rfl) rfl rfl ⟨(blk_cell BK342.out 0).trans rfl, (blk_cell BK342.out 1).trans rfl, (blk_cell BK342.out 2).trans rfl, (blk_cell BK342.out 3).trans rfl, (blk_cell BK342.out 4).trans rfl, (blk_cell BK342.out 5).trans rfl, (blk_cell BK342.out 6).trans rfl, (blk_cell BK342.out 7).trans rfl, (blk_cell BK342.out 8).trans rfl, (blk_cell BK342.out 9).trans rfl, (blk_cell BK342.out 10).trans rfl, (blk_cell BK342.out 11).trans rfl, ((HB.out.cell (World.block_lt_of_cell? w _ hw355_0)).trans hw355_0), ((HB.out.cell (World.block_lt_of_cell? w _ hw355_1)).trans hw355_1), ((HB.out.cell (World.block_lt_of_cell? w _ hw355_2)).trans hw355_2), ((HB.out.cell (World.block_lt_of_cell? w _ hw355_3)).trans hw355_3), ((HB.out.cell (World.block_lt_of_cell? w _ hw355_4)).trans hw355_4)⟩ (fun hHeld => ?_); refine with_tabW palletlaw23_DiffEqual.tab19 palletlaw23_DiffEqual.bits19 (fun HT_ HW_ => ?_)
                 generalize wc.drew = w71 at BK342 HB hx355_0 hx355_1 hx355_2 hx355_3 hx355_4 hHeld ⊢
                 refine pure_ (i := 0) (N := some 166) (v := ?_) (a' := ?_) #[true, false, false, false, false, false, false, false, false, false, false, false, false, false, false, false, false, false, false, false, false, false, false, false, false, false] rfl rfl (any_of HT_.out (by kernel_rfl)) (fun _ _ _ h => h) (Or.inl ⟨by rfl, ?_⟩) ?_ ?_
                 rotate_left
                 ·intro w'
                  go_simp
                  with_reducible rfl
                 rotate_left
                 ·simp only [Act.put, List.setIfInBounds_toArray, List.set_cons_zero, List.set_cons_succ, i64_w, i32_w]
                  rfl
                 refine pure_ (i := 1) (N := some 167) (v := ?_) (a' := ?_) #[true, true, false, false, false, false, false, false, false, false, false, false, false, false, false, false, false, false, false, false, false, false, false, false, false, false] rfl rfl (any_of HT_.out (by kernel_rfl)) (fun _ _ _ h => h) (Or.inl ⟨by rfl, ?_⟩) ?_ ?_
                 rotate_left
                 ·intro w'
                  go_simp
                  with_reducible rfl
                 rotate_left
                 ·simp only [Act.put, List.setIfInBounds_toArray, List.set_cons_zero, List.set_cons_succ, i64_w, i32_w]
                  rfl
                 refine pure_ (i := 2) (N := some 168) (v := ?_) (a' := ?_) #[true, true, true, false, false, false, false, false, false, false, false, false, false, false, false, false, false, false, false, false, false, false, false, false, false, false] rfl rfl (any_of HT_.out (by kernel_rfl)) (fun _ _ _ h => h) (Or.inl ⟨by rfl, ?_⟩) ?_ ?_
                 rotate_left
                 ·intro w'
                  go_simp
                  with_reducible rfl
                 rotate_left
                 ·simp only [Act.put, List.setIfInBounds_toArray, List.set_cons_zero, List.set_cons_succ, i64_w, i32_w]
                  rfl
                 refine pure_ (i := 4) (N := some 170) (v := ?_) (a' := ?_) #[true, true, true, false, true, false, false, false, false, false, false, false, false, false, false, false, false, false, false, false, false, false, false, false, false, false] rfl rfl (any_of HT_.out (by kernel_rfl)) (fun _ _ _ h => h) (Or.inl ⟨by rfl, ?_⟩) ?_ ?_
                 rotate_left
                 ·intro w'
                  go_simp
                  with_reducible rfl
                 rotate_left
                 ·simp only [Act.put, List.setIfInBounds_toArray, List.set_cons_zero, List.set_cons_succ, i64_w, i32_w]
                  rfl
                 refine pure_ (i := 5) (N := some 171) (v := ?_) (a' := ?_) #[true, true, true, false, true, true, false, false, false, false, false, false, false, false, false, false, false, false, false, false, false, false, false, false, false, false] rfl rfl (any_of HT_.out (by kernel_rfl)) (fun _ _ _ h => h) (Or.inl ⟨by rfl, ?_⟩) ?_ ?_
                 rotate_left
                 ·intro w'
                  go_simp
                  with_reducible rfl
                 rotate_left
                 ·simp only [Act.put, List.setIfInBounds_toArray, List.set_cons_zero, List.set_cons_succ, i64_w, i32_w]
                  rfl
                 refine take_ (i := 3) (N := some 169) (v := ?_) (a' := ?_) #[true, true, true, true, true, true, false, false, false, false, false, false, false, false, false, false, false, false, false, false, false, false, false, false, false, false] rfl rfl (take_ofW HT_.out HW_.out (by kernel_rfl)) (fun _ _ _ h => h) (Or.inl ⟨by rfl, ?_⟩) hHeld ?_ ?_
                 rotate_left
                 ·rintro w' ⟨s0, s1, s2, s3, s4, s5, s6, s7, s8, s9, s10, s11, s12, s13, s14, s15, s16⟩
                  go_simp
                  with_reducible rfl
                 rotate_left
                 ·simp only [Act.put, List.setIfInBounds_toArray, List.set_cons_zero, List.set_cons_succ, i64_w, i32_w]
                  rfl
                 refine pure_ (i := 6) (N := some 172) (v := ?_) (a' := ?_) #[true, true, true, true, true, true, true, false, false, false, false, false, false, false, false, false, false, false, false, false, false, false, false, false, false, false] rfl rfl (any_of HT_.out (by kernel_rfl)) (fun _ _ _ h => h) (Or.inl ⟨by rfl, ?_⟩) ?_ ?_
                 rotate_left
                 ·intro w'
                  go_simp
                  with_reducible rfl
                 rotate_left
                 ·simp only [Act.put, List.setIfInBounds_toArray, List.set_cons_zero, List.set_cons_succ, i64_w, i32_w]
                  rfl
                 refine pure_ (i := 7) (N := some 173) (v := ?_) (a' := ?_) #[true, true, true, true, true, true, true, true, false, false, false, false, false, false, false, false, false, false, false, false, false, false, false, false, false, false] rfl rfl (any_of HT_.out (by kernel_rfl)) (fun _ _ _ h => h) (Or.inl ⟨by rfl, ?_⟩) ?_ ?_
                 rotate_left
                 ·intro w'
                  go_simp
                  with_reducible rfl
                 rotate_left
                 ·simp only [Act.put, List.setIfInBounds_toArray, List.set_cons_zero, List.set_cons_succ, i64_w, i32_w]
                  rfl
                 refine pure_ (i := 8) (N := some 174) (v := ?_) (a' := ?_) #[true, true, true, true, true, true, true, true, true, false, false, false, false, false, false, false, false, false, false, false, false, false, false, false, false, false] rfl rfl (any_of HT_.out (by kernel_rfl)) (fun _ _ _ h => h) (Or.inl ⟨by rfl, ?_⟩) ?_ ?_
                 rotate_left
                 ·intro w'
                  go_simp
                  with_reducible rfl
                 rotate_left
                 ·simp only [Act.put, List.setIfInBounds_toArray, List.set_cons_zero, List.set_cons_succ, i64_w, i32_w]
                  rfl
                 refine pure_ (i := 9) (N := some 175) (v := ?_) (a' := ?_) #[true, true, true, true, true, true, true, true, true, true, false, false, false, false, false, false, false, false, false, false, false, false, false, false, false, false] rfl rfl (any_of HT_.out (by kernel_rfl)) (fun _ _ _ h => h) (Or.inl ⟨by rfl, ?_⟩) ?_ ?_
                 rotate_left
                 ·intro w'
                  go_simp
                  with_reducible rfl
                 rotate_left
                 ·simp only [Act.put, List.setIfInBounds_toArray, List.set_cons_zero, List.set_cons_succ, i64_w, i32_w]
                  rfl
                 refine pure_ (i := 11) (N := some 177) (v := ?_) (a' := ?_) #[true, true, true, true, true, true, true, true, true, true, false, true, false, false, false, false, false, false, false, false, false, false, false, false, false, false] rfl rfl (any_of HT_.out (by kernel_rfl)) (fun _ _ _ h => h) (Or.inl ⟨by rfl, ?_⟩) ?_ ?_
                 rotate_left
                 ·intro w'
                  go_simp
                  with_reducible rfl
                 rotate_left
                 ·simp only [Act.put, List.setIfInBounds_toArray, List.set_cons_zero, List.set_cons_succ, i64_w, i32_w]
                  rfl
                 refine pure_ (i := 12) (N := some 178) (v := ?_) (a' := ?_) #[true, true, true, true, true, true, true, true, true, true, false, true, true, false, false, false, false, false, false, false, false, false, false, false, false, false] rfl rfl (any_of HT_.out (by kernel_rfl)) (fun _ _ _ h => h) (Or.inl ⟨by rfl, ?_⟩) ?_ ?_
                 rotate_left
                 ·intro w'
                  go_simp
                  with_reducible rfl
                 rotate_left
                 ·simp only [Act.put, List.setIfInBounds_toArray, List.set_cons_zero, List.set_cons_succ, i64_w, i32_w]
                  rfl
                 refine take_ (i := 10) (N := some 176) (v := ?_) (a' := ?_) #[true, true, true, true, true, true, true, true, true, true, true, true, true, false, false, false, false, false, false, false, false, false, false, false, false, false] rfl rfl (take_ofW HT_.out HW_.out (by kernel_rfl)) (fun _ _ _ h => h) (Or.inl ⟨by rfl, ?_⟩) hHeld ?_ ?_
                 rotate_left
                 ·rintro w' ⟨s0, s1, s2, s3, s4, s5, s6, s7, s8, s9, s10, s11, s12, s13, s14, s15, s16⟩
                  go_simp
                  with_reducible rfl
                 rotate_left
                 ·simp only [Act.put, List.setIfInBounds_toArray, List.set_cons_zero, List.set_cons_succ, i64_w, i32_w]
                  rfl
                 refine pure_ (i := 13) (N := some 179) (v := ?_) (a' := ?_) #[true, true, true, true, true, true, true, true, true, true, true, true, true, true, false, false, false, false, false, false, false, false, false, false, false, false] rfl rfl (any_of HT_.out (by kernel_rfl)) (fun _ _ _ h => h) (Or.inl ⟨by rfl, ?_⟩) ?_ ?_
                 rotate_left
                 ·intro w'
                  go_simp
                  with_reducible rfl
                 rotate_left
                 ·simp only [Act.put, List.setIfInBounds_toArray, List.set_cons_zero, List.set_cons_succ, i64_w, i32_w]
                  rfl
                 refine pure_ (i := 14) (N := some 180) (v := ?_) (a' := ?_) #[true, true, true, true, true, true, true, true, true, true, true, true, true, true, true, false, false, false, false, false, false, false, false, false, false, false] rfl rfl (any_of HT_.out (by kernel_rfl)) (fun _ _ _ h => h) (Or.inl ⟨by rfl, ?_⟩) ?_ ?_
                 rotate_left
                 ·intro w'
                  go_simp
                  with_reducible rfl
                 rotate_left
                 ·simp only [Act.put, List.setIfInBounds_toArray, List.set_cons_zero, List.set_cons_succ, i64_w, i32_w]
                  rfl
                 refine pure_ (i := 15) (N := some 181) (v := ?_) (a' := ?_) #[true, true, true, true, true, true, true, true, true, true, true, true, true, true, true, true, false, false, false, false, false, false, false, false, false, false] rfl rfl (any_of HT_.out (by kernel_rfl)) (fun _ _ _ h => h) (Or.inl ⟨by rfl, ?_⟩) ?_ ?_
                 rotate_left
                 ·intro w'
                  go_simp
                  with_reducible rfl
                 rotate_left
                 ·simp only [Act.put, List.setIfInBounds_toArray, List.set_cons_zero, List.set_cons_succ, i64_w, i32_w]
                  rfl
                 refine pure_ (i := 16) (N := some 182) (v := ?_) (a' := ?_) #[true, true, true, true, true, true, true, true, true, true, true, true, true, true, true, true, true, false, false, false, false, false, false, false, false, false] rfl rfl (any_of HT_.out (by kernel_rfl)) (fun _ _ _ h => h) (Or.inl ⟨by rfl, ?_⟩) ?_ ?_
                 rotate_left
                 ·intro w'
                  go_simp
                  with_reducible rfl
                 rotate_left
                 ·simp only [Act.put, List.setIfInBounds_toArray, List.set_cons_zero, List.set_cons_succ, i64_w, i32_w]
                  rfl
                 refine pure_ (i := 18) (N := some 184) (v := ?_) (a' := ?_) #[true, true, true, true, true, true, true, true, true, true, true, true, true, true, true, true, true, false, true, false, false, false, false, false, false, false] rfl rfl (any_of HT_.out (by kernel_rfl)) (fun _ _ _ h => h) (Or.inl ⟨by rfl, ?_⟩) ?_ ?_
                 rotate_left
                 ·intro w'
                  go_simp
                  with_reducible rfl
                 rotate_left
                 ·simp only [Act.put, List.setIfInBounds_toArray, List.set_cons_zero, List.set_cons_succ, i64_w, i32_w]
                  rfl
                 refine pure_ (i := 19) (N := some 185) (v := ?_) (a' := ?_) #[true, true, true, true, true, true, true, true, true, true, true, true, true, true, true, true, true, false, true, true, false, false, false, false, false, false] rfl rfl (any_of HT_.out (by kernel_rfl)) (fun _ _ _ h => h) (Or.inl ⟨by rfl, ?_⟩) ?_ ?_
                 rotate_left
                 ·intro w'
                  go_simp
                  with_reducible rfl
                 rotate_left
                 ·simp only [Act.put, List.setIfInBounds_toArray, List.set_cons_zero, List.set_cons_succ, i64_w, i32_w]
                  rfl
                 refine take_ (i := 17) (N := some 183) (v := ?_) (a' := ?_) #[true, true, true, true, true, true, true, true, true, true, true, true, true, true, true, true, true, true, true, true, false, false, false, false, false, false] rfl rfl (take_ofW HT_.out HW_.out (by kernel_rfl)) (fun _ _ _ h => h) (Or.inl ⟨by rfl, ?_⟩) hHeld ?_ ?_
                 rotate_left
                 ·rintro w' ⟨s0, s1, s2, s3, s4, s5, s6, s7, s8, s9, s10, s11, s12, s13, s14, s15, s16⟩
                  go_simp
                  with_reducible rfl
                 rotate_left
                 ·simp only [Act.put, List.setIfInBounds_toArray, List.set_cons_zero, List.set_cons_succ, i64_w, i32_w]
                  rfl
                 refine take_ (i := 20) (N := some 186) (v := ?_) (a' := ?_) #[true, true, true, true, true, true, true, true, true, true, true, true, true, true, true, true, true, true, true, true, true, false, false, false, false, false] rfl rfl (take_ofW HT_.out HW_.out (by kernel_rfl)) (fun _ _ _ h => h) (Or.inl ⟨by rfl, ?_⟩) hHeld ?_ ?_
                 rotate_left
                 ·rintro w' ⟨s0, s1, s2, s3, s4, s5, s6, s7, s8, s9, s10, s11, s12, s13, s14, s15, s16⟩
                  go_simp
                  with_reducible rfl
                 rotate_left
                 ·simp only [Act.put, List.setIfInBounds_toArray, List.set_cons_zero, List.set_cons_succ, i64_w, i32_w]
                  rfl
                 refine pure_ (i := 21) (N := some 187) (v := ?_) (a' := ?_) #[true, true, true, true, true, true, true, true, true, true, true, true, true, true, true, true, true, true, true, true, true, true, false, false, false, false] rfl rfl (any_of HT_.out (by kernel_rfl)) (fun _ _ _ h => h) (Or.inl ⟨by rfl, ?_⟩) ?_ ?_
                 rotate_left
                 ·intro w'
                  go_simp
                  with_reducible rfl
                 rotate_left
                 ·simp only [Act.put, List.setIfInBounds_toArray, List.set_cons_zero, List.set_cons_succ, i64_w, i32_w]
                  rfl
                 refine take_ (i := 22) (N := some 188) (v := ?_) (a' := ?_) #[true, true, true, true, true, true, true, true, true, true, true, true, true, true, true, true, true, true, true, true, true, true, true, false, false, false] rfl rfl (take_ofW HT_.out HW_.out (by kernel_rfl)) (fun _ _ _ h => h) (Or.inl ⟨by rfl, ?_⟩) hHeld ?_ ?_
                 rotate_left
                 ·rintro w' ⟨s0, s1, s2, s3, s4, s5, s6, s7, s8, s9, s10, s11, s12, s13, s14, s15, s16⟩
                  go_simp
                  with_reducible rfl
                 rotate_left
                 ·simp only [Act.put, List.setIfInBounds_toArray, List.set_cons_zero, List.set_cons_succ, i64_w, i32_w]
                  rfl
                 refine pure_ (i := 23) (N := some 189) (v := ?_) (a' := ?_) #[true, true, true, true, true, true, true, true, true, true, true, true, true, true, true, true, true, true, true, true, true, true, true, true, false, false] rfl rfl (any_of HT_.out (by kernel_rfl)) (fun _ _ _ h => h) (Or.inl ⟨by rfl, ?_⟩) ?_ ?_
                 rotate_left
                 ·intro w'
                  go_simp
                  with_reducible rfl
                 rotate_left
                 ·simp only [Act.put, List.setIfInBounds_toArray, List.set_cons_zero, List.set_cons_succ, i64_w, i32_w]
                  rfl
                 refine pure_ (i := 24) (N := some 190) (v := ?_) (a' := ?_) #[true, true, true, true, true, true, true, true, true, true, true, true, true, true, true, true, true, true, true, true, true, true, true, true, true, false] rfl rfl (any_of HT_.out (by kernel_rfl)) (fun _ _ _ h => h) (Or.inl ⟨by rfl, ?_⟩) ?_ ?_
                 rotate_left
                 ·intro w'
                  go_simp
                  with_reducible rfl
                 rotate_left
                 ·simp only [Act.put, List.setIfInBounds_toArray, List.set_cons_zero, List.set_cons_succ, i64_w, i32_w]
                  rfl
                 refine pure_ (i := 25) (N := some 4) (v := ?_) (a' := ?_) #[true, true, true, true, true, true, true, true, true, true, true, true, true, true, true, true, true, true, true, true, true, true, true, true, true, true] rfl rfl (any_of HT_.out (by kernel_rfl)) (fun _ _ _ h => h) (Or.inl ⟨by rfl, ?_⟩) ?_ ?_
                 rotate_left
                 ·intro w'
                  go_simp
                  with_reducible rfl
                 rotate_left
                 ·simp only [Act.put, List.setIfInBounds_toArray, List.set_cons_zero, List.set_cons_succ, i64_w, i32_w]
                  rfl
                 refine done_ (done_of HT_.out (by kernel_rfl)) ?_
                 try go_wp2
                 go_ret
                 exact ⟨by first | rfl | (simp [errW_none, errW_some] <;> rfl) | (simp [*, errW_none, errW_some] <;> rfl), by repeat (first | (with_reducible first | exact HB.out | apply below_alloc | apply pw_below_drewN | apply below_drew1 | refine below_set ?_ GE342.out) | exact HB.out)⟩
                ·rw [if_neg c69] at H
                 exact absurd H (by simp)
               ·rw [if_neg c68] at H
                have c68b0 : decide (t327 < (l1.length : Int)) = false := decide_eq_false c68
                clear c68
                exact absurd H (by simp)
              ·rw [if_neg c67] at H
               have c67b0 : (t327 == (l0.length : Int)) = false := beq_eq_false_iff_ne.mpr c67
               have c67b1 : (t327 != (l0.length : Int)) = true := bne_iff_ne.mpr c67
               exact absurd H (by simp)
             ·rw [if_neg c66] at H
              have c66b0 : (t328 == 2) = false := beq_eq_false_iff_ne.mpr c66
              have c66b1 : (t328 != 2) = true := bne_iff_ne.mpr c66
              by_cases c72 : t328 = 3
              ·rw [if_pos c72] at H
               have c72b0 : (t328 == 3) = true := beq_iff_eq.mpr c72
               have c72b1 : (t328 != 3) = false := bne_eq_false_iff_eq.mpr c72
               clear c72
               have H1 : (if t327 = (l1.length : Int) then (if t327 < (l0.length : Int) then (if 0 ≤ t327 then (some (t329 == ((rd_T30 l0 t327).f0) && (t330 == ((rd_T30 l0 t327).f1) && (t331 == ((rd_T30 l0 t327).f2) && (t332 == ((rd_T30 l0 t327).f3) && (t333 == ((rd_T30 l0 t327).f4))))))) else (none)) else (none)) else (none)) = some r := by first | (rw [if_pos rfl] at H; exact H) | exact H
               clear H
               have H := H1
               clear H1
               by_cases c73 : t327 = (l1.length : Int)
               ·rw [if_pos c73] at H
                have c73b0 : (t327 == (l1.length : Int)) = true := beq_iff_eq.mpr c73
                have c73b1 : (t327 != (l1.length : Int)) = false := bne_eq_false_iff_eq.mpr c73
                clear c73
                by_cases c74 : t327 < (l0.length : Int)
                ·rw [if_pos c74] at H
                 have c74b0 : decide (t327 < (l0.length : Int)) = true := decide_eq_true c74
                 clear c74
                 by_cases c75 : 0 ≤ t327
                 ·rw [if_pos c75] at H
                  have c75b0 : decide (0 ≤ t327) = true := decide_eq_true c75
                  clear c75
                  obtain rfl := Option.some.inj H
                  have hcz76_0 : wc.cell? ⟨gb342, 0, none⟩ = some (.int .i64 t327) := (blk_cell BK342.out 0).trans rfl
                  have hcz76_1 : wc.cell? ⟨gb342, 1, none⟩ = some (.int .i64 t328) := (blk_cell BK342.out 1).trans rfl
                  have hcz76_2 : wc.cell? ⟨gb342, 2, none⟩ = some (.int .i64 t329) := (blk_cell BK342.out 2).trans rfl
                  have hcz76_3 : wc.cell? ⟨gb342, 3, none⟩ = some (.int .i64 t330) := (blk_cell BK342.out 3).trans rfl
                  have hcz76_4 : wc.cell? ⟨gb342, 4, none⟩ = some (.int .i64 t331) := (blk_cell BK342.out 4).trans rfl
                  have hcz76_5 : wc.cell? ⟨gb342, 5, none⟩ = some (.int .i64 t332) := (blk_cell BK342.out 5).trans rfl
                  have hcz76_6 : wc.cell? ⟨gb342, 6, none⟩ = some (.int .i64 t333) := (blk_cell BK342.out 6).trans rfl
                  have hcz76_7 : wc.cell? ⟨gb342, 7, none⟩ = some (.int .i64 t334) := (blk_cell BK342.out 7).trans rfl
                  have hcz76_8 : wc.cell? ⟨gb342, 8, none⟩ = some (.int .i64 t335) := (blk_cell BK342.out 8).trans rfl
                  have hcz76_9 : wc.cell? ⟨gb342, 9, none⟩ = some (.int .i64 t336) := (blk_cell BK342.out 9).trans rfl
                  have hcz76_10 : wc.cell? ⟨gb342, 10, none⟩ = some (.int .i64 t337) := (blk_cell BK342.out 10).trans rfl
                  have hcz76_11 : wc.cell? ⟨gb342, 11, none⟩ = some (.int .i64 t338) := (blk_cell BK342.out 11).trans rfl
                  have hfz76_0 := blk_frozen BK342.out 0
                  have hfz76_1 := blk_frozen BK342.out 1
                  have hfz76_2 := blk_frozen BK342.out 2
                  have hfz76_3 := blk_frozen BK342.out 3
                  have hfz76_4 := blk_frozen BK342.out 4
                  have hfz76_5 := blk_frozen BK342.out 5
                  have hfz76_6 := blk_frozen BK342.out 6
                  have hfz76_7 := blk_frozen BK342.out 7
                  have hfz76_8 := blk_frozen BK342.out 8
                  have hfz76_9 := blk_frozen BK342.out 9
                  have hfz76_10 := blk_frozen BK342.out 10
                  have hfz76_11 := blk_frozen BK342.out 11
                  try go_wp2
                  have n0_ := Aside0.mk (blk_drew BK342.out)
                  have n1_ := Aside0.mk (below_drew1 HB.out)
                  clear BK342
                  clear HB
                  have BK342 := n0_
                  have HB := n1_
                  clear n0_ n1_
                  have p356 : 0 ≤ (t327 : Int) := of_decide_eq_true (by first | (with_reducible assumption) | assumption)
                  have q356 : t327 < (l0.length : Int) := of_decide_eq_true (by first | (with_reducible assumption) | assumption)
                  obtain ⟨ad356, e356, hx356_0, hx356_1, hx356_2, hx356_3, hx356_4⟩ := at_T30 HR0.out t327 p356 q356
                  have hw356_4 := hx356_4
                  have hw356_3 := hx356_3
                  have hw356_2 := hx356_2
                  have hw356_1 := hx356_1
                  have hw356_0 := hx356_0
                  cases e356
                  replace hx356_0 := (HB.out.cell (World.block_lt_of_cell? w _ hx356_0)).trans hx356_0
                  replace hx356_1 := (HB.out.cell (World.block_lt_of_cell? w _ hx356_1)).trans hx356_1
                  replace hx356_2 := (HB.out.cell (World.block_lt_of_cell? w _ hx356_2)).trans hx356_2
                  replace hx356_3 := (HB.out.cell (World.block_lt_of_cell? w _ hx356_3)).trans hx356_3
                  replace hx356_4 := (HB.out.cell (World.block_lt_of_cell? w _ hx356_4)).trans hx356_4
                  replace p356 := eq_true p356
                  replace q356 := eq_true q356
                  refine start_ (n := 26) (S := fun w' => w'.cell? ⟨gb342, 0, none⟩ = some (.int .i64 t327) ∧ w'.cell? ⟨gb342, 1, none⟩ = some (.int .i64 t328) ∧ w'.cell? ⟨gb342, 2, none⟩ = some (.int .i64 t329) ∧ w'.cell? ⟨gb342, 3, none⟩ = some (.int .i64 t330) ∧ w'.cell? ⟨gb342, 4, none⟩ = some (.int .i64 t331) ∧ w'.cell? ⟨gb342, 5, none⟩ = some (.int .i64 t332) ∧ w'.cell? ⟨gb342, 6, none⟩ = some (.int .i64 t333) ∧ w'.cell? ⟨gb342, 7, none⟩ = some (.int .i64 t334) ∧ w'.cell? ⟨gb342, 8, none⟩ = some (.int .i64 t335) ∧ w'.cell? ⟨gb342, 9, none⟩ = some (.int .i64 t336) ∧ w'.cell? ⟨gb342, 10, none⟩ = some (.int .i64 t337) ∧ w'.cell? ⟨gb342, 11, none⟩ = some (.int .i64 t338) ∧ w'.cell? (ad356.add ((t327).toNat * 5)) = some (.int .i64 ((rd_T30 l0 t327).f0)) ∧ w'.cell? ⟨(ad356.add ((t327).toNat * 5)).block, (ad356.add ((t327).toNat * 5)).off + 1, none⟩ = some (.int .i64 ((rd_T30 l0 t327).f1)) ∧ w'.cell? ⟨(ad356.add ((t327).toNat * 5)).block, (ad356.add ((t327).toNat * 5)).off + 2, none⟩ = some (.int .i64 ((rd_T30 l0 t327).f2)) ∧ w'.cell? ⟨(ad356.add ((t327).toNat * 5)).block, (ad356.add ((t327).toNat * 5)).off + 3, none⟩ = some (.int .i64 ((rd_T30 l0 t327).f3)) ∧ w'.cell? ⟨(ad356.add ((t327).toNat * 5)).block, (ad356.add ((t327).toNat * 5)).off + 4, none⟩ = some (.int .i64 ((rd_T30 l0 t327).f4))) (ds := []) #[false, false, false, false, false, false, false, false, false, false, false, false, false, false, false, false, false, false, false, false, false, false, false, false, false, false] (by kernel_rfl) rfl rfl ⟨(blk_cell BK342.out 0).trans rfl, (blk_cell BK342.out 1).trans rfl, (blk_cell BK342.out 2).trans rfl, (blk_cell BK342.out 3).trans rfl, (blk_cell BK342.out 4).trans rfl, (blk_cell BK342.out 5).trans rfl, (blk_cell BK342.out 6).trans rfl, (blk_cell BK342.out 7).trans rfl, (blk_cell BK342.out 8).trans rfl, (blk_cell BK342.out 9).trans rfl, (blk_cell BK342.out 10).trans rfl, (blk_cell BK342.out 11).trans rfl, ((HB.out.cell (World.block_lt_of_cell? w _ hw356_0)).trans hw356_0), ((HB.out.cell (World.block_lt_of_cell? w _ hw356_1)).trans hw356_1), ((HB.out.cell (World.block_lt_of_cell? w _ hw356_2)).trans hw356_2), ((HB.out.cell (World.block_lt_of_cell? w _ hw356_3)).trans hw356_3), ((HB.out.cell (World.block_lt_of_cell? w _ hw356_4)).trans hw356_4)⟩ (fun hHeld => ?_); refine with_tabW palletlaw23_DiffEqual.tab21 palletlaw23_DiffEqual.bits21 (fun HT_ HW_ => ?_)
                  generalize wc.drew = w77 at BK342 HB hx356_0 hx356_1 hx356_2 hx356_3 hx356_4 hHeld ⊢
                  refine pure_ (i := 0) (N := some 193) (v := ?_) (a' := ?_) #[true, false, false, false, false, false, false, false, false, false, false, false, false, false, false, false, false, false, false, false, false, false, false, false, false, false] rfl rfl (any_of HT_.out (by kernel_rfl)) (fun _ _ _ h => h) (Or.inl ⟨by rfl, ?_⟩) ?_ ?_
                  rotate_left
                  ·intro w'
                   go_simp
                   with_reducible rfl
                  rotate_left
                  ·simp only [Act.put, List.setIfInBounds_toArray, List.set_cons_zero, List.set_cons_succ, i64_w, i32_w]
                   rfl
                  refine pure_ (i := 1) (N := some 194) (v := ?_) (a' := ?_) #[true, true, false, false, false, false, false, false, false, false, false, false, false, false, false, false, false, false, false, false, false, false, false, false, false, false] rfl rfl (any_of HT_.out (by kernel_rfl)) (fun _ _ _ h => h) (Or.inl ⟨by rfl, ?_⟩) ?_ ?_
                  rotate_left
                  ·intro w'
                   go_simp
                   with_reducible rfl
                  rotate_left
                  ·simp only [Act.put, List.setIfInBounds_toArray, List.set_cons_zero, List.set_cons_succ, i64_w, i32_w]
                   rfl
                  refine pure_ (i := 2) (N := some 195) (v := ?_) (a' := ?_) #[true, true, true, false, false, false, false, false, false, false, false, false, false, false, false, false, false, false, false, false, false, false, false, false, false, false] rfl rfl (any_of HT_.out (by kernel_rfl)) (fun _ _ _ h => h) (Or.inl ⟨by rfl, ?_⟩) ?_ ?_
                  rotate_left
                  ·intro w'
                   go_simp
                   with_reducible rfl
                  rotate_left
                  ·simp only [Act.put, List.setIfInBounds_toArray, List.set_cons_zero, List.set_cons_succ, i64_w, i32_w]
                   rfl
                  refine pure_ (i := 4) (N := some 197) (v := ?_) (a' := ?_) #[true, true, true, false, true, false, false, false, false, false, false, false, false, false, false, false, false, false, false, false, false, false, false, false, false, false] rfl rfl (any_of HT_.out (by kernel_rfl)) (fun _ _ _ h => h) (Or.inl ⟨by rfl, ?_⟩) ?_ ?_
                  rotate_left
                  ·intro w'
                   go_simp
                   with_reducible rfl
                  rotate_left
                  ·simp only [Act.put, List.setIfInBounds_toArray, List.set_cons_zero, List.set_cons_succ, i64_w, i32_w]
                   rfl
                  refine pure_ (i := 5) (N := some 198) (v := ?_) (a' := ?_) #[true, true, true, false, true, true, false, false, false, false, false, false, false, false, false, false, false, false, false, false, false, false, false, false, false, false] rfl rfl (any_of HT_.out (by kernel_rfl)) (fun _ _ _ h => h) (Or.inl ⟨by rfl, ?_⟩) ?_ ?_
                  rotate_left
                  ·intro w'
                   go_simp
                   with_reducible rfl
                  rotate_left
                  ·simp only [Act.put, List.setIfInBounds_toArray, List.set_cons_zero, List.set_cons_succ, i64_w, i32_w]
                   rfl
                  refine take_ (i := 3) (N := some 196) (v := ?_) (a' := ?_) #[true, true, true, true, true, true, false, false, false, false, false, false, false, false, false, false, false, false, false, false, false, false, false, false, false, false] rfl rfl (take_ofW HT_.out HW_.out (by kernel_rfl)) (fun _ _ _ h => h) (Or.inl ⟨by rfl, ?_⟩) hHeld ?_ ?_
                  rotate_left
                  ·rintro w' ⟨s0, s1, s2, s3, s4, s5, s6, s7, s8, s9, s10, s11, s12, s13, s14, s15, s16⟩
                   go_simp
                   with_reducible rfl
                  rotate_left
                  ·simp only [Act.put, List.setIfInBounds_toArray, List.set_cons_zero, List.set_cons_succ, i64_w, i32_w]
                   rfl
                  refine pure_ (i := 6) (N := some 199) (v := ?_) (a' := ?_) #[true, true, true, true, true, true, true, false, false, false, false, false, false, false, false, false, false, false, false, false, false, false, false, false, false, false] rfl rfl (any_of HT_.out (by kernel_rfl)) (fun _ _ _ h => h) (Or.inl ⟨by rfl, ?_⟩) ?_ ?_
                  rotate_left
                  ·intro w'
                   go_simp
                   with_reducible rfl
                  rotate_left
                  ·simp only [Act.put, List.setIfInBounds_toArray, List.set_cons_zero, List.set_cons_succ, i64_w, i32_w]
                   rfl
                  refine pure_ (i := 7) (N := some 200) (v := ?_) (a' := ?_) #[true, true, true, true, true, true, true, true, false, false, false, false, false, false, false, false, false, false, false, false, false, false, false, false, false, false] rfl rfl (any_of HT_.out (by kernel_rfl)) (fun _ _ _ h => h) (Or.inl ⟨by rfl, ?_⟩) ?_ ?_
                  rotate_left
                  ·intro w'
                   go_simp
                   with_reducible rfl
                  rotate_left
                  ·simp only [Act.put, List.setIfInBounds_toArray, List.set_cons_zero, List.set_cons_succ, i64_w, i32_w]
                   rfl
                  refine pure_ (i := 8) (N := some 201) (v := ?_) (a' := ?_) #[true, true, true, true, true, true, true, true, true, false, false, false, false, false, false, false, false, false, false, false, false, false, false, false, false, false] rfl rfl (any_of HT_.out (by kernel_rfl)) (fun _ _ _ h => h) (Or.inl ⟨by rfl, ?_⟩) ?_ ?_
                  rotate_left
                  ·intro w'
                   go_simp
                   with_reducible rfl
                  rotate_left
                  ·simp only [Act.put, List.setIfInBounds_toArray, List.set_cons_zero, List.set_cons_succ, i64_w, i32_w]
                   rfl
                  refine pure_ (i := 9) (N := some 202) (v := ?_) (a' := ?_) #[true, true, true, true, true, true, true, true, true, true, false, false, false, false, false, false, false, false, false, false, false, false, false, false, false, false] rfl rfl (any_of HT_.out (by kernel_rfl)) (fun _ _ _ h => h) (Or.inl ⟨by rfl, ?_⟩) ?_ ?_
                  rotate_left
                  ·intro w'
                   go_simp
                   with_reducible rfl
                  rotate_left
                  ·simp only [Act.put, List.setIfInBounds_toArray, List.set_cons_zero, List.set_cons_succ, i64_w, i32_w]
                   rfl
                  refine pure_ (i := 11) (N := some 204) (v := ?_) (a' := ?_) #[true, true, true, true, true, true, true, true, true, true, false, true, false, false, false, false, false, false, false, false, false, false, false, false, false, false] rfl rfl (any_of HT_.out (by kernel_rfl)) (fun _ _ _ h => h) (Or.inl ⟨by rfl, ?_⟩) ?_ ?_
                  rotate_left
                  ·intro w'
                   go_simp
                   with_reducible rfl
                  rotate_left
                  ·simp only [Act.put, List.setIfInBounds_toArray, List.set_cons_zero, List.set_cons_succ, i64_w, i32_w]
                   rfl
                  refine pure_ (i := 12) (N := some 205) (v := ?_) (a' := ?_) #[true, true, true, true, true, true, true, true, true, true, false, true, true, false, false, false, false, false, false, false, false, false, false, false, false, false] rfl rfl (any_of HT_.out (by kernel_rfl)) (fun _ _ _ h => h) (Or.inl ⟨by rfl, ?_⟩) ?_ ?_
                  rotate_left
                  ·intro w'
                   go_simp
                   with_reducible rfl
                  rotate_left
                  ·simp only [Act.put, List.setIfInBounds_toArray, List.set_cons_zero, List.set_cons_succ, i64_w, i32_w]
                   rfl
                  refine take_ (i := 10) (N := some 203) (v := ?_) (a' := ?_) #[true, true, true, true, true, true, true, true, true, true, true, true, true, false, false, false, false, false, false, false, false, false, false, false, false, false] rfl rfl (take_ofW HT_.out HW_.out (by kernel_rfl)) (fun _ _ _ h => h) (Or.inl ⟨by rfl, ?_⟩) hHeld ?_ ?_
                  rotate_left
                  ·rintro w' ⟨s0, s1, s2, s3, s4, s5, s6, s7, s8, s9, s10, s11, s12, s13, s14, s15, s16⟩
                   go_simp
                   with_reducible rfl
                  rotate_left
                  ·simp only [Act.put, List.setIfInBounds_toArray, List.set_cons_zero, List.set_cons_succ, i64_w, i32_w]
                   rfl
                  refine pure_ (i := 13) (N := some 206) (v := ?_) (a' := ?_) #[true, true, true, true, true, true, true, true, true, true, true, true, true, true, false, false, false, false, false, false, false, false, false, false, false, false] rfl rfl (any_of HT_.out (by kernel_rfl)) (fun _ _ _ h => h) (Or.inl ⟨by rfl, ?_⟩) ?_ ?_
                  rotate_left
                  ·intro w'
                   go_simp
                   with_reducible rfl
                  rotate_left
                  ·simp only [Act.put, List.setIfInBounds_toArray, List.set_cons_zero, List.set_cons_succ, i64_w, i32_w]
                   rfl
                  refine pure_ (i := 14) (N := some 207) (v := ?_) (a' := ?_) #[true, true, true, true, true, true, true, true, true, true, true, true, true, true, true, false, false, false, false, false, false, false, false, false, false, false] rfl rfl (any_of HT_.out (by kernel_rfl)) (fun _ _ _ h => h) (Or.inl ⟨by rfl, ?_⟩) ?_ ?_
                  rotate_left
                  ·intro w'
                   go_simp
                   with_reducible rfl
                  rotate_left
                  ·simp only [Act.put, List.setIfInBounds_toArray, List.set_cons_zero, List.set_cons_succ, i64_w, i32_w]
                   rfl
                  refine pure_ (i := 15) (N := some 208) (v := ?_) (a' := ?_) #[true, true, true, true, true, true, true, true, true, true, true, true, true, true, true, true, false, false, false, false, false, false, false, false, false, false] rfl rfl (any_of HT_.out (by kernel_rfl)) (fun _ _ _ h => h) (Or.inl ⟨by rfl, ?_⟩) ?_ ?_
                  rotate_left
                  ·intro w'
                   go_simp
                   with_reducible rfl
                  rotate_left
                  ·simp only [Act.put, List.setIfInBounds_toArray, List.set_cons_zero, List.set_cons_succ, i64_w, i32_w]
                   rfl
                  refine pure_ (i := 16) (N := some 209) (v := ?_) (a' := ?_) #[true, true, true, true, true, true, true, true, true, true, true, true, true, true, true, true, true, false, false, false, false, false, false, false, false, false] rfl rfl (any_of HT_.out (by kernel_rfl)) (fun _ _ _ h => h) (Or.inl ⟨by rfl, ?_⟩) ?_ ?_
                  rotate_left
                  ·intro w'
                   go_simp
                   with_reducible rfl
                  rotate_left
                  ·simp only [Act.put, List.setIfInBounds_toArray, List.set_cons_zero, List.set_cons_succ, i64_w, i32_w]
                   rfl
                  refine pure_ (i := 18) (N := some 211) (v := ?_) (a' := ?_) #[true, true, true, true, true, true, true, true, true, true, true, true, true, true, true, true, true, false, true, false, false, false, false, false, false, false] rfl rfl (any_of HT_.out (by kernel_rfl)) (fun _ _ _ h => h) (Or.inl ⟨by rfl, ?_⟩) ?_ ?_
                  rotate_left
                  ·intro w'
                   go_simp
                   with_reducible rfl
                  rotate_left
                  ·simp only [Act.put, List.setIfInBounds_toArray, List.set_cons_zero, List.set_cons_succ, i64_w, i32_w]
                   rfl
                  refine pure_ (i := 19) (N := some 212) (v := ?_) (a' := ?_) #[true, true, true, true, true, true, true, true, true, true, true, true, true, true, true, true, true, false, true, true, false, false, false, false, false, false] rfl rfl (any_of HT_.out (by kernel_rfl)) (fun _ _ _ h => h) (Or.inl ⟨by rfl, ?_⟩) ?_ ?_
                  rotate_left
                  ·intro w'
                   go_simp
                   with_reducible rfl
                  rotate_left
                  ·simp only [Act.put, List.setIfInBounds_toArray, List.set_cons_zero, List.set_cons_succ, i64_w, i32_w]
                   rfl
                  refine take_ (i := 17) (N := some 210) (v := ?_) (a' := ?_) #[true, true, true, true, true, true, true, true, true, true, true, true, true, true, true, true, true, true, true, true, false, false, false, false, false, false] rfl rfl (take_ofW HT_.out HW_.out (by kernel_rfl)) (fun _ _ _ h => h) (Or.inl ⟨by rfl, ?_⟩) hHeld ?_ ?_
                  rotate_left
                  ·rintro w' ⟨s0, s1, s2, s3, s4, s5, s6, s7, s8, s9, s10, s11, s12, s13, s14, s15, s16⟩
                   go_simp
                   with_reducible rfl
                  rotate_left
                  ·simp only [Act.put, List.setIfInBounds_toArray, List.set_cons_zero, List.set_cons_succ, i64_w, i32_w]
                   rfl
                  refine take_ (i := 20) (N := some 213) (v := ?_) (a' := ?_) #[true, true, true, true, true, true, true, true, true, true, true, true, true, true, true, true, true, true, true, true, true, false, false, false, false, false] rfl rfl (take_ofW HT_.out HW_.out (by kernel_rfl)) (fun _ _ _ h => h) (Or.inl ⟨by rfl, ?_⟩) hHeld ?_ ?_
                  rotate_left
                  ·rintro w' ⟨s0, s1, s2, s3, s4, s5, s6, s7, s8, s9, s10, s11, s12, s13, s14, s15, s16⟩
                   go_simp
                   with_reducible rfl
                  rotate_left
                  ·simp only [Act.put, List.setIfInBounds_toArray, List.set_cons_zero, List.set_cons_succ, i64_w, i32_w]
                   rfl
                  refine pure_ (i := 21) (N := some 214) (v := ?_) (a' := ?_) #[true, true, true, true, true, true, true, true, true, true, true, true, true, true, true, true, true, true, true, true, true, true, false, false, false, false] rfl rfl (any_of HT_.out (by kernel_rfl)) (fun _ _ _ h => h) (Or.inl ⟨by rfl, ?_⟩) ?_ ?_
                  rotate_left
                  ·intro w'
                   go_simp
                   with_reducible rfl
                  rotate_left
                  ·simp only [Act.put, List.setIfInBounds_toArray, List.set_cons_zero, List.set_cons_succ, i64_w, i32_w]
                   rfl
                  refine take_ (i := 22) (N := some 215) (v := ?_) (a' := ?_) #[true, true, true, true, true, true, true, true, true, true, true, true, true, true, true, true, true, true, true, true, true, true, true, false, false, false] rfl rfl (take_ofW HT_.out HW_.out (by kernel_rfl)) (fun _ _ _ h => h) (Or.inl ⟨by rfl, ?_⟩) hHeld ?_ ?_
                  rotate_left
                  ·rintro w' ⟨s0, s1, s2, s3, s4, s5, s6, s7, s8, s9, s10, s11, s12, s13, s14, s15, s16⟩
                   go_simp
                   with_reducible rfl
                  rotate_left
                  ·simp only [Act.put, List.setIfInBounds_toArray, List.set_cons_zero, List.set_cons_succ, i64_w, i32_w]
                   rfl
                  refine pure_ (i := 23) (N := some 216) (v := ?_) (a' := ?_) #[true, true, true, true, true, true, true, true, true, true, true, true, true, true, true, true, true, true, true, true, true, true, true, true, false, false] rfl rfl (any_of HT_.out (by kernel_rfl)) (fun _ _ _ h => h) (Or.inl ⟨by rfl, ?_⟩) ?_ ?_
                  rotate_left
                  ·intro w'
                   go_simp
                   with_reducible rfl
                  rotate_left
                  ·simp only [Act.put, List.setIfInBounds_toArray, List.set_cons_zero, List.set_cons_succ, i64_w, i32_w]
                   rfl
                  refine pure_ (i := 24) (N := some 217) (v := ?_) (a' := ?_) #[true, true, true, true, true, true, true, true, true, true, true, true, true, true, true, true, true, true, true, true, true, true, true, true, true, false] rfl rfl (any_of HT_.out (by kernel_rfl)) (fun _ _ _ h => h) (Or.inl ⟨by rfl, ?_⟩) ?_ ?_
                  rotate_left
                  ·intro w'
                   go_simp
                   with_reducible rfl
                  rotate_left
                  ·simp only [Act.put, List.setIfInBounds_toArray, List.set_cons_zero, List.set_cons_succ, i64_w, i32_w]
                   rfl
                  refine pure_ (i := 25) (N := some 4) (v := ?_) (a' := ?_) #[true, true, true, true, true, true, true, true, true, true, true, true, true, true, true, true, true, true, true, true, true, true, true, true, true, true] rfl rfl (any_of HT_.out (by kernel_rfl)) (fun _ _ _ h => h) (Or.inl ⟨by rfl, ?_⟩) ?_ ?_
                  rotate_left
                  ·intro w'
                   go_simp
                   with_reducible rfl
                  rotate_left
                  ·simp only [Act.put, List.setIfInBounds_toArray, List.set_cons_zero, List.set_cons_succ, i64_w, i32_w]
                   rfl
                  refine done_ (done_of HT_.out (by kernel_rfl)) ?_
                  try go_wp2
                  go_ret
                  exact ⟨by first | rfl | (simp [errW_none, errW_some] <;> rfl) | (simp [*, errW_none, errW_some] <;> rfl), by repeat (first | (with_reducible first | exact HB.out | apply below_alloc | apply pw_below_drewN | apply below_drew1 | refine below_set ?_ GE342.out) | exact HB.out)⟩
                 ·rw [if_neg c75] at H
                  exact absurd H (by simp)
                ·rw [if_neg c74] at H
                 have c74b0 : decide (t327 < (l0.length : Int)) = false := decide_eq_false c74
                 clear c74
                 exact absurd H (by simp)
               ·rw [if_neg c73] at H
                have c73b0 : (t327 == (l1.length : Int)) = false := beq_eq_false_iff_ne.mpr c73
                have c73b1 : (t327 != (l1.length : Int)) = true := bne_iff_ne.mpr c73
                exact absurd H (by simp)
              ·rw [if_neg c72] at H
               exact absurd H (by simp)
 ·replace c4 := Bool.eq_false_iff.mpr c4
  subst c4
  have H1 : (none) = some r := by rw [if_neg (show ¬ (false = true) by decide)] at H; exact H
  clear H
  have H := H1
  clear H1
  exact absurd H (by simp)

end Go.Proofs.YtcbjbgleflbpmaaDoor.Print
