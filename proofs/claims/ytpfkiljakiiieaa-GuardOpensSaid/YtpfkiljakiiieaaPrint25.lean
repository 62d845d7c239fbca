-- PRINTED by print.py (a twelfth state) out of the translation. Not trusted: Lean checks it.
import Derived.Test.YtpfkiljakiiieaaPrint0
import Derived.Test.YtpfkiljakiiieaaPrint1
import Derived.Test.YtpfkiljakiiieaaPrint12
import Derived.Test.YtpfkiljakiiieaaPrint18
import Derived.Test.YtpfkiljakiiieaaPrint20
import Derived.Test.YtpfkiljakiiieaaPrint24
namespace Go.Proofs.Ytpfkiljakiiieaa.Print
open Go.RowKit Go.Proofs.YtpfkiljakiiieaaW.PrintWords Go.Proofs.YtpfkiljakiiieaaW.PrintLast Go.Proofs.YtpfkiljakiiieaaW.PrintMore Go.Proofs.YtpfkiljakiiieaaX
attribute [local go_sem] max2_int min2_int max_two min_two max_three min_three max_four min_four   -- for this text's walks alone
set_option linter.unusedVariables false
set_option linter.unusedSimpArgs false

attribute [local go_sem high] eqA55
/-! ### palletlaw12_GuardOpens: function 11 -/
mutual
def palletlaw12_GuardOpens.j0 : Nat → Int → Int → Int → Int → Bool → Int → Int → Bool → Bool → Bool → Int → Int → Int → Int → Int → Int → Int → Option (Bool)
 | 0, _, _, _, _, _, _, _, _, _, _, _, _, _, _, _, _, _ => none
 | k + 1, x2, x3, x4, x5, x13, x14, x15, x60, x391000, x391001, x391002, x391003, x392000, x392001, x392002, x392003, x392004 => if x60 = true then (some x13) else (if (wrap64 ((wrap64 (x15 - x14)) + 1)) = 0 then (none) else ((some (([x14, wrap64 (x14 + (Int.tmod (wrap64 ((wrap64 ((wrap64 ((Int.tmod x5 (wrap64 ((wrap64 (x15 - x14)) + 1))) + x15)) - x14)) + 1)) (wrap64 ((wrap64 (x15 - x14)) + 1)))), x15] : List Int) : List Int)).bind fun y400 => (palletlaw12_GuardOpens.l0 k x2 x3 x4 x13 x14 x15 y400 (y400.length : Int) 0 x391000 x391001 x391002 x391003 x392000 x392001 x392002 x392003 x392004)))
def palletlaw12_GuardOpens.l0 : Nat → Int → Int → Int → Bool → Int → Int → List Int → Int → Int → Bool → Bool → Int → Int → Int → Int → Int → Int → Int → Option (Bool)
 | 0, _, _, _, _, _, _, _, _, _, _, _, _, _, _, _, _, _, _ => none
 | k + 1, x2, x3, x4, x13, x14, x15, x83, x84, x85, x391000, x391001, x391002, x391003, x392000, x392001, x392002, x392003, x392004 => if x85 < x84 then (if 0 ≤ x85 then (if x85 < (x83.length : Int) then ((guard_Pass.f k x391000 x391001 x391002 x391003 x392000 x392001 x392002 x392003 x392004 x2 x3 0 0 0 0 (rd x83 x85)).bind fun bt404 => (if bt404.2.2.2.2.1 = true then (if bt404.2.2.2.2.2 = 0 then (if bt404.2.2.1 ≤ x391002 then (palletlaw12_GuardOpens.j2 k x2 x3 x4 x13 x14 x15 (rd x83 x85) x83 x84 x85 true x391000 x391001 x391002 x391003 x392000 x392001 x392002 x392003 x392004) else (palletlaw12_GuardOpens.j2 k x2 x3 x4 x13 x14 x15 (rd x83 x85) x83 x84 x85 (bt404.2.2.2.1 != (wrap64 ((rd x83 x85) - (wrap64 (x392002 * x2))))) x391000 x391001 x391002 x391003 x392000 x392001 x392002 x392003 x392004)) else (palletlaw12_GuardOpens.j2 k x2 x3 x4 x13 x14 x15 (rd x83 x85) x83 x84 x85 true x391000 x391001 x391002 x391003 x392000 x392001 x392002 x392003 x392004)) else (palletlaw12_GuardOpens.j2 k x2 x3 x4 x13 x14 x15 (rd x83 x85) x83 x84 x85 true x391000 x391001 x391002 x391003 x392000 x392001 x392002 x392003 x392004))) else (none)) else (none)) else ((some (([wrap64 (x14 - 1), wrap64 (x15 + 1)] : List Int) : List Int)).bind fun y418 => (palletlaw12_GuardOpens.l1 k x2 x3 x13 y418 (y418.length : Int) 0 x391000 x391001 x391002 x391003 x392000 x392001 x392002 x392003 x392004))
def palletlaw12_GuardOpens.j2 : Nat → Int → Int → Int → Bool → Int → Int → Int → List Int → Int → Int → Bool → Bool → Bool → Int → Int → Int → Int → Int → Int → Int → Option (Bool)
 | 0, _, _, _, _, _, _, _, _, _, _, _, _, _, _, _, _, _, _, _, _ => none
 | k + 1, x2, x3, x4, x13, x14, x15, x18, x83, x84, x85, x123, x391000, x391001, x391002, x391003, x392000, x392001, x392002, x392003, x392004 => if x123 = true then (some false) else ((guard_Pass.f k x391000 x391001 x391002 x391003 x392000 x392001 x392002 x392003 x392004 x2 x4 0 0 0 0 x18).bind fun bt411 => (if x4 = x3 then (palletlaw12_GuardOpens.l0 k x2 x3 x4 x13 x14 x15 x83 x84 (wrap64 (x85 + 1)) x391000 x391001 x391002 x391003 x392000 x392001 x392002 x392003 x392004) else (if bt411.2.2.2.2.1 = true then (some false) else (if bt411.2.2.2.2.2 = 0 then (if (!(bt411.1 == x391000) || (!(bt411.2.1 == x391001) || (!(bt411.2.2.1 == x391002) || (!(bt411.2.2.2.1 == x391003))))) = true then (some false) else (palletlaw12_GuardOpens.l0 k x2 x3 x4 x13 x14 x15 x83 x84 (wrap64 (x85 + 1)) x391000 x391001 x391002 x391003 x392000 x392001 x392002 x392003 x392004)) else (palletlaw12_GuardOpens.l0 k x2 x3 x4 x13 x14 x15 x83 x84 (wrap64 (x85 + 1)) x391000 x391001 x391002 x391003 x392000 x392001 x392002 x392003 x392004)))))
def palletlaw12_GuardOpens.l1 : Nat → Int → Int → Bool → List Int → Int → Int → Bool → Bool → Int → Int → Int → Int → Int → Int → Int → Option (Bool)
 | 0, _, _, _, _, _, _, _, _, _, _, _, _, _, _, _ => none
 | k + 1, x2, x3, x13, x155, x156, x157, x391000, x391001, x391002, x391003, x392000, x392001, x392002, x392003, x392004 => if x157 < x156 then (if 0 ≤ x157 then (if x157 < (x155.length : Int) then ((guard_Pass.f k x391000 x391001 x391002 x391003 x392000 x392001 x392002 x392003 x392004 x2 x3 0 0 0 0 (rd x155 x157)).bind fun bt422 => (if bt422.2.2.2.2.1 = true then (some false) else (if bt422.2.2.2.2.2 = 0 then (if (!(bt422.1 == x391000) || (!(bt422.2.1 == x391001) || (!(bt422.2.2.1 == x391002) || (!(bt422.2.2.2.1 == x391003))))) = true then (some false) else (palletlaw12_GuardOpens.l1 k x2 x3 x13 x155 x156 (wrap64 (x157 + 1)) x391000 x391001 x391002 x391003 x392000 x392001 x392002 x392003 x392004)) else (some false)))) else (none)) else (none)) else (some x13)
end
def palletlaw12_GuardOpens.f (k : Nat) (a0_0 : Bool) (a0_1 : Bool) (a0_2 : Int) (a0_3 : Int) (a1_0 : Int) (a1_1 : Int) (a1_2 : Int) (a1_3 : Int) (a1_4 : Int) (a2 : Int) (a3 : Int) (a4 : Int) (a5 : Int) : Option (Bool) := (palletlaw12_live.f k).bind fun t392 => (if t392 = true then ((guard_Opens.f k true a0_1 a0_2 a0_3 a1_0 a1_1 a1_2 a1_3 a1_4 a2 a3).bind fun bt393 => (if bt393.2.2 = 0 then (if bt393.1 < 1 then (palletlaw12_GuardOpens.j0 k a2 a3 a4 a5 t392 bt393.1 bt393.2.1 true true a0_1 a0_2 a0_3 a1_0 a1_1 a1_2 a1_3 a1_4) else (if bt393.2.1 < bt393.1 then (palletlaw12_GuardOpens.j0 k a2 a3 a4 a5 t392 bt393.1 bt393.2.1 true true a0_1 a0_2 a0_3 a1_0 a1_1 a1_2 a1_3 a1_4) else ((palletref01_May.f k (([wrap64 (bt393.2.1 + 1)] : List Int))).bind fun t399 => (palletlaw12_GuardOpens.j0 k a2 a3 a4 a5 t392 bt393.1 bt393.2.1 (!t399) true a0_1 a0_2 a0_3 a1_0 a1_1 a1_2 a1_3 a1_4)))) else (palletlaw12_GuardOpens.j0 k a2 a3 a4 a5 t392 bt393.1 bt393.2.1 true true a0_1 a0_2 a0_3 a1_0 a1_1 a1_2 a1_3 a1_4))) else (some false))
theorem palletlaw12_GuardOpens.mono_l : ∀ k, (∀ y0 y1 y2 y3 y4 y5 y6 y7 y8 y9 y10 y11 y12 y13 y14 y15 y16, LeO (palletlaw12_GuardOpens.j0 k y0 y1 y2 y3 y4 y5 y6 y7 y8 y9 y10 y11 y12 y13 y14 y15 y16) (palletlaw12_GuardOpens.j0 (k + 1) y0 y1 y2 y3 y4 y5 y6 y7 y8 y9 y10 y11 y12 y13 y14 y15 y16)) ∧ (∀ y0 y1 y2 y3 y4 y5 y6 y7 y8 y9 y10 y11 y12 y13 y14 y15 y16 y17, LeO (palletlaw12_GuardOpens.l0 k y0 y1 y2 y3 y4 y5 y6 y7 y8 y9 y10 y11 y12 y13 y14 y15 y16 y17) (palletlaw12_GuardOpens.l0 (k + 1) y0 y1 y2 y3 y4 y5 y6 y7 y8 y9 y10 y11 y12 y13 y14 y15 y16 y17)) ∧ (∀ y0 y1 y2 y3 y4 y5 y6 y7 y8 y9 y10 y11 y12 y13 y14 y15 y16 y17 y18 y19, LeO (palletlaw12_GuardOpens.j2 k y0 y1 y2 y3 y4 y5 y6 y7 y8 y9 y10 y11 y12 y13 y14 y15 y16 y17 y18 y19) (palletlaw12_GuardOpens.j2 (k + 1) y0 y1 y2 y3 y4 y5 y6 y7 y8 y9 y10 y11 y12 y13 y14 y15 y16 y17 y18 y19)) ∧ (∀ y0 y1 y2 y3 y4 y5 y6 y7 y8 y9 y10 y11 y12 y13 y14, LeO (palletlaw12_GuardOpens.l1 k y0 y1 y2 y3 y4 y5 y6 y7 y8 y9 y10 y11 y12 y13 y14) (palletlaw12_GuardOpens.l1 (k + 1) y0 y1 y2 y3 y4 y5 y6 y7 y8 y9 y10 y11 y12 y13 y14))
 | 0 => ⟨fun _ _ _ _ _ _ _ _ _ _ _ _ _ _ _ _ _ r h => by simp [palletlaw12_GuardOpens.j0] at h, fun _ _ _ _ _ _ _ _ _ _ _ _ _ _ _ _ _ _ r h => by simp [palletlaw12_GuardOpens.l0] at h, fun _ _ _ _ _ _ _ _ _ _ _ _ _ _ _ _ _ _ _ _ r h => by simp [palletlaw12_GuardOpens.j2] at h, fun _ _ _ _ _ _ _ _ _ _ _ _ _ _ _ r h => by simp [palletlaw12_GuardOpens.l1] at h⟩
 | k + 1 => by
  obtain ⟨ih0, ih1, ih2, ih3⟩ := palletlaw12_GuardOpens.mono_l k
  refine ⟨?_, ?_, ?_, ?_⟩
  ·intro y0 y1 y2 y3 y4 y5 y6 y7 y8 y9 y10 y11 y12 y13 y14 y15 y16
   unfold palletlaw12_GuardOpens.j0
   repeat' first
   | (with_reducible exact ih0 _ _ _ _ _ _ _ _ _ _ _ _ _ _ _ _ _)
   | (with_reducible exact ih1 _ _ _ _ _ _ _ _ _ _ _ _ _ _ _ _ _ _)
   | (with_reducible exact ih2 _ _ _ _ _ _ _ _ _ _ _ _ _ _ _ _ _ _ _ _)
   | (with_reducible exact ih3 _ _ _ _ _ _ _ _ _ _ _ _ _ _ _)
   | (with_reducible exact guard_Opens.mono _ _ _ _ _ _ _ _ _ _ _ _)
   | (with_reducible exact guard_Pass.mono _ _ _ _ _ _ _ _ _ _ _ _ _ _ _ _ _)
   | (with_reducible exact palletlaw12_live.mono _)
   | (with_reducible exact palletref01_May.mono _ _)
   | (with_reducible exact LeO.refl _)
   | (with_reducible exact LeO.none _)
   | (with_reducible refine LeO.ite ?_ ?_)
   | (with_reducible refine LeO.bind ?_ (fun _ => ?_))
   | exact ih0 _ _ _ _ _ _ _ _ _ _ _ _ _ _ _ _ _
   | exact ih1 _ _ _ _ _ _ _ _ _ _ _ _ _ _ _ _ _ _
   | exact ih2 _ _ _ _ _ _ _ _ _ _ _ _ _ _ _ _ _ _ _ _
   | exact ih3 _ _ _ _ _ _ _ _ _ _ _ _ _ _ _
   | exact guard_Opens.mono _ _ _ _ _ _ _ _ _ _ _ _
   | exact guard_Pass.mono _ _ _ _ _ _ _ _ _ _ _ _ _ _ _ _ _
   | exact palletlaw12_live.mono _
   | exact palletref01_May.mono _ _
   | exact LeO.none _
   | refine LeO.ite ?_ ?_
   | refine LeO.bind ?_ (fun _ => ?_)
  ·intro y0 y1 y2 y3 y4 y5 y6 y7 y8 y9 y10 y11 y12 y13 y14 y15 y16 y17
   unfold palletlaw12_GuardOpens.l0
   repeat' first
   | (with_reducible exact ih0 _ _ _ _ _ _ _ _ _ _ _ _ _ _ _ _ _)
   | (with_reducible exact ih1 _ _ _ _ _ _ _ _ _ _ _ _ _ _ _ _ _ _)
   | (with_reducible exact ih2 _ _ _ _ _ _ _ _ _ _ _ _ _ _ _ _ _ _ _ _)
   | (with_reducible exact ih3 _ _ _ _ _ _ _ _ _ _ _ _ _ _ _)
   | (with_reducible exact guard_Opens.mono _ _ _ _ _ _ _ _ _ _ _ _)
   | (with_reducible exact guard_Pass.mono _ _ _ _ _ _ _ _ _ _ _ _ _ _ _ _ _)
   | (with_reducible exact palletlaw12_live.mono _)
   | (with_reducible exact palletref01_May.mono _ _)
   | (with_reducible exact LeO.refl _)
   | (with_reducible exact LeO.none _)
   | (with_reducible refine LeO.ite ?_ ?_)
   | (with_reducible refine LeO.bind ?_ (fun _ => ?_))
   | exact ih0 _ _ _ _ _ _ _ _ _ _ _ _ _ _ _ _ _
   | exact ih1 _ _ _ _ _ _ _ _ _ _ _ _ _ _ _ _ _ _
   | exact ih2 _ _ _ _ _ _ _ _ _ _ _ _ _ _ _ _ _ _ _ _
   | exact ih3 _ _ _ _ _ _ _ _ _ _ _ _ _ _ _
   | exact guard_Opens.mono _ _ _ _ _ _ _ _ _ _ _ _
   | exact guard_Pass.mono _ _ _ _ _ _ _ _ _ _ _ _ _ _ _ _ _
   | exact palletlaw12_live.mono _
   | exact palletref01_May.mono _ _
   | exact LeO.none _
   | refine LeO.ite ?_ ?_
   | refine LeO.bind ?_ (fun _ => ?_)
  ·intro y0 y1 y2 y3 y4 y5 y6 y7 y8 y9 y10 y11 y12 y13 y14 y15 y16 y17 y18 y19
   unfold palletlaw12_GuardOpens.j2
   repeat' first
   | (with_reducible exact ih0 _ _ _ _ _ _ _ _ _ _ _ _ _ _ _ _ _)
   | (with_reducible exact ih1 _ _ _ _ _ _ _ _ _ _ _ _ _ _ _ _ _ _)
   | (with_reducible exact ih2 _ _ _ _ _ _ _ _ _ _ _ _ _ _ _ _ _ _ _ _)
   | (with_reducible exact ih3 _ _ _ _ _ _ _ _ _ _ _ _ _ _ _)
   | (with_reducible exact guard_Opens.mono _ _ _ _ _ _ _ _ _ _ _ _)
   | (with_reducible exact guard_Pass.mono _ _ _ _ _ _ _ _ _ _ _ _ _ _ _ _ _)
   | (with_reducible exact palletlaw12_live.mono _)
   | (with_reducible exact palletref01_May.mono _ _)
   | (with_reducible exact LeO.refl _)
   | (with_reducible exact LeO.none _)
   | (with_reducible refine LeO.ite ?_ ?_)
   | (with_reducible refine LeO.bind ?_ (fun _ => ?_))
   | exact ih0 _ _ _ _ _ _ _ _ _ _ _ _ _ _ _ _ _
   | exact ih1 _ _ _ _ _ _ _ _ _ _ _ _ _ _ _ _ _ _
   | exact ih2 _ _ _ _ _ _ _ _ _ _ _ _ _ _ _ _ _ _ _ _
   | exact ih3 _ _ _ _ _ _ _ _ _ _ _ _ _ _ _
   | exact guard_Opens.mono _ _ _ _ _ _ _ _ _ _ _ _
   | exact guard_Pass.mono _ _ _ _ _ _ _ _ _ _ _ _ _ _ _ _ _
   | exact palletlaw12_live.mono _
   | exact palletref01_May.mono _ _
   | exact LeO.none _
   | refine LeO.ite ?_ ?_
   | refine LeO.bind ?_ (fun _ => ?_)
  ·intro y0 y1 y2 y3 y4 y5 y6 y7 y8 y9 y10 y11 y12 y13 y14
   unfold palletlaw12_GuardOpens.l1
   repeat' first
   | (with_reducible exact ih0 _ _ _ _ _ _ _ _ _ _ _ _ _ _ _ _ _)
   | (with_reducible exact ih1 _ _ _ _ _ _ _ _ _ _ _ _ _ _ _ _ _ _)
   | (with_reducible exact ih2 _ _ _ _ _ _ _ _ _ _ _ _ _ _ _ _ _ _ _ _)
   | (with_reducible exact ih3 _ _ _ _ _ _ _ _ _ _ _ _ _ _ _)
   | (with_reducible exact guard_Opens.mono _ _ _ _ _ _ _ _ _ _ _ _)
   | (with_reducible exact guard_Pass.mono _ _ _ _ _ _ _ _ _ _ _ _ _ _ _ _ _)
   | (with_reducible exact palletlaw12_live.mono _)
   | (with_reducible exact palletref01_May.mono _ _)
   | (with_reducible exact LeO.refl _)
   | (with_reducible exact LeO.none _)
   | (with_reducible refine LeO.ite ?_ ?_)
   | (with_reducible refine LeO.bind ?_ (fun _ => ?_))
   | exact ih0 _ _ _ _ _ _ _ _ _ _ _ _ _ _ _ _ _
   | exact ih1 _ _ _ _ _ _ _ _ _ _ _ _ _ _ _ _ _ _
   | exact ih2 _ _ _ _ _ _ _ _ _ _ _ _ _ _ _ _ _ _ _ _
   | exact ih3 _ _ _ _ _ _ _ _ _ _ _ _ _ _ _
   | exact guard_Opens.mono _ _ _ _ _ _ _ _ _ _ _ _
   | exact guard_Pass.mono _ _ _ _ _ _ _ _ _ _ _ _ _ _ _ _ _
   | exact palletlaw12_live.mono _
   | exact palletref01_May.mono _ _
   | exact LeO.none _
   | refine LeO.ite ?_ ?_
   | refine LeO.bind ?_ (fun _ => ?_)
theorem palletlaw12_GuardOpens.mono : ∀ a0 a1 a2 a3 a4 a5 a6 a7 a8 a9 a10 a11 a12 k, LeO (palletlaw12_GuardOpens.f k a0 a1 a2 a3 a4 a5 a6 a7 a8 a9 a10 a11 a12) (palletlaw12_GuardOpens.f (k + 1) a0 a1 a2 a3 a4 a5 a6 a7 a8 a9 a10 a11 a12) := by
 intro a0 a1 a2 a3 a4 a5 a6 a7 a8 a9 a10 a11 a12 k
 obtain ⟨ih0, ih1, ih2, ih3⟩ := palletlaw12_GuardOpens.mono_l k
 unfold palletlaw12_GuardOpens.f
 repeat' first
   | (with_reducible exact ih0 _ _ _ _ _ _ _ _ _ _ _ _ _ _ _ _ _)
   | (with_reducible exact ih1 _ _ _ _ _ _ _ _ _ _ _ _ _ _ _ _ _ _)
   | (with_reducible exact ih2 _ _ _ _ _ _ _ _ _ _ _ _ _ _ _ _ _ _ _ _)
   | (with_reducible exact ih3 _ _ _ _ _ _ _ _ _ _ _ _ _ _ _)
   | (with_reducible exact guard_Opens.mono _ _ _ _ _ _ _ _ _ _ _ _)
   | (with_reducible exact guard_Pass.mono _ _ _ _ _ _ _ _ _ _ _ _ _ _ _ _ _)
   | (with_reducible exact palletlaw12_live.mono _)
   | (with_reducible exact palletref01_May.mono _ _)
   | (with_reducible exact LeO.refl _)
   | (with_reducible exact LeO.none _)
   | (with_reducible refine LeO.ite ?_ ?_)
   | (with_reducible refine LeO.bind ?_ (fun _ => ?_))
   | exact ih0 _ _ _ _ _ _ _ _ _ _ _ _ _ _ _ _ _
   | exact ih1 _ _ _ _ _ _ _ _ _ _ _ _ _ _ _ _ _ _
   | exact ih2 _ _ _ _ _ _ _ _ _ _ _ _ _ _ _ _ _ _ _ _
   | exact ih3 _ _ _ _ _ _ _ _ _ _ _ _ _ _ _
   | exact guard_Opens.mono _ _ _ _ _ _ _ _ _ _ _ _
   | exact guard_Pass.mono _ _ _ _ _ _ _ _ _ _ _ _ _ _ _ _ _
   | exact palletlaw12_live.mono _
   | exact palletref01_May.mono _ _
   | exact LeO.none _
   | refine LeO.ite ?_ ?_
   | refine LeO.bind ?_ (fun _ => ?_)
set_option maxHeartbeats 8000000 in
set_option maxRecDepth 100000 in
theorem palletlaw12_GuardOpens.calls (k : Nat) (a0_0 : Bool) (a0_1 : Bool) (a0_2 : Int) (a0_3 : Int) (a1_0 : Int) (a1_1 : Int) (a1_2 : Int) (a1_3 : Int) (a1_4 : Int) (a2 : Int) (a3 : Int) (a4 : Int) (a5 : Int) (r : Bool) (w : World) (hr_ : Aside0 (r = true)) (h : palletlaw12_GuardOpens.f k a0_0 a0_1 a0_2 a0_3 a1_0 a1_1 a1_2 a1_3 a1_4 a2 a3 a4 a5 = some r) :
  Calls Try.prog 11 #[.agg #[.bool a0_0, .bool a0_1, .int .u64 a0_2, .int .i64 a0_3], .agg #[.int .i64 a1_0, .int .i64 a1_1, .int .i64 a1_2, .int .i64 a1_3, .int .i64 a1_4], .int .i64 a2, .int .i64 a3, .int .i64 a4, .int .i64 a5] w fun e w' => e = .returned (.bool r) ∧ Below w.heap.size w w' := by
 have hu55 := Try.underlying55
 have hu23 := Try.underlying23
 have hu52 := Try.underlying52
 have HB := Aside0.mk (Below.refl w.heap.size w)
 have H : ((palletlaw12_live.f k).bind fun t392 => (if t392 = true then ((guard_Opens.f k true a0_1 a0_2 a0_3 a1_0 a1_1 a1_2 a1_3 a1_4 a2 a3).bind fun bt393 => (if bt393.2.2 = 0 then (if bt393.1 < 1 then (palletlaw12_GuardOpens.j0 k a2 a3 a4 a5 t392 bt393.1 bt393.2.1 true true a0_1 a0_2 a0_3 a1_0 a1_1 a1_2 a1_3 a1_4) else (if bt393.2.1 < bt393.1 then (palletlaw12_GuardOpens.j0 k a2 a3 a4 a5 t392 bt393.1 bt393.2.1 true true a0_1 a0_2 a0_3 a1_0 a1_1 a1_2 a1_3 a1_4) else ((palletref01_May.f k (([wrap64 (bt393.2.1 + 1)] : List Int))).bind fun t399 => (palletlaw12_GuardOpens.j0 k a2 a3 a4 a5 t392 bt393.1 bt393.2.1 (!t399) true a0_1 a0_2 a0_3 a1_0 a1_1 a1_2 a1_3 a1_4)))) else (palletlaw12_GuardOpens.j0 k a2 a3 a4 a5 t392 bt393.1 bt393.2.1 true true a0_1 a0_2 a0_3 a1_0 a1_1 a1_2 a1_3 a1_4))) else (some false))) = some r := h
 clear h
 replace H := Option.bind_eq_some_iff.mp H
 obtain ⟨t392, A70, H⟩ := H
 replace H : (if t392 = true then ((guard_Opens.f k true a0_1 a0_2 a0_3 a1_0 a1_1 a1_2 a1_3 a1_4 a2 a3).bind fun bt393 => (if bt393.2.2 = 0 then (if bt393.1 < 1 then (palletlaw12_GuardOpens.j0 k a2 a3 a4 a5 t392 bt393.1 bt393.2.1 true true a0_1 a0_2 a0_3 a1_0 a1_1 a1_2 a1_3 a1_4) else (if bt393.2.1 < bt393.1 then (palletlaw12_GuardOpens.j0 k a2 a3 a4 a5 t392 bt393.1 bt393.2.1 true true a0_1 a0_2 a0_3 a1_0 a1_1 a1_2 a1_3 a1_4) else ((palletref01_May.f k (([wrap64 (bt393.2.1 + 1)] : List Int))).bind fun t399 => (palletlaw12_GuardOpens.j0 k a2 a3 a4 a5 t392 bt393.1 bt393.2.1 (!t399) true a0_1 a0_2 a0_3 a1_0 a1_1 a1_2 a1_3 a1_4)))) else (palletlaw12_GuardOpens.j0 k a2 a3 a4 a5 t392 bt393.1 bt393.2.1 true true a0_1 a0_2 a0_3 a1_0 a1_1 a1_2 a1_3 a1_4))) else (some false)) = some r := H
 have A7 := Aside0.mk A70
 clear A70
 by_cases c8 : t392 = true
 ·subst c8
  have H1 : ((guard_Opens.f k true a0_1 a0_2 a0_3 a1_0 a1_1 a1_2 a1_3 a1_4 a2 a3).bind fun bt393 => (if bt393.2.2 = 0 then (if bt393.1 < 1 then (palletlaw12_GuardOpens.j0 k a2 a3 a4 a5 true bt393.1 bt393.2.1 true true a0_1 a0_2 a0_3 a1_0 a1_1 a1_2 a1_3 a1_4) else (if bt393.2.1 < bt393.1 then (palletlaw12_GuardOpens.j0 k a2 a3 a4 a5 true bt393.1 bt393.2.1 true true a0_1 a0_2 a0_3 a1_0 a1_1 a1_2 a1_3 a1_4) else ((palletref01_May.f k (([wrap64 (bt393.2.1 + 1)] : List Int))).bind fun t399 => (palletlaw12_GuardOpens.j0 k a2 a3 a4 a5 true bt393.1 bt393.2.1 (!t399) true a0_1 a0_2 a0_3 a1_0 a1_1 a1_2 a1_3 a1_4)))) else (palletlaw12_GuardOpens.j0 k a2 a3 a4 a5 true bt393.1 bt393.2.1 true true a0_1 a0_2 a0_3 a1_0 a1_1 a1_2 a1_3 a1_4))) = some r := by rw [if_pos rfl] at H; exact H
  clear H
  have H := H1
  clear H1
  replace H := Option.bind_eq_some_iff.mp H
  obtain ⟨⟨t393, t394, t395⟩, A90, H⟩ := H
  replace H : (if t395 = 0 then (if t393 < 1 then (palletlaw12_GuardOpens.j0 k a2 a3 a4 a5 true t393 t394 true true a0_1 a0_2 a0_3 a1_0 a1_1 a1_2 a1_3 a1_4) else (if t394 < t393 then (palletlaw12_GuardOpens.j0 k a2 a3 a4 a5 true t393 t394 true true a0_1 a0_2 a0_3 a1_0 a1_1 a1_2 a1_3 a1_4) else ((palletref01_May.f k (([wrap64 (t394 + 1)] : List Int))).bind fun t399 => (palletlaw12_GuardOpens.j0 k a2 a3 a4 a5 true t393 t394 (!t399) true a0_1 a0_2 a0_3 a1_0 a1_1 a1_2 a1_3 a1_4)))) else (palletlaw12_GuardOpens.j0 k a2 a3 a4 a5 true t393 t394 true true a0_1 a0_2 a0_3 a1_0 a1_1 a1_2 a1_3 a1_4)) = some r := H
  have A9 := Aside0.mk A90
  clear A90
  have HC10 := Aside0.mk H
  clear H
  go_enter Try.func11, Try.ntmps11
  go_upto_region 6 with (first | ((with_reducible refine gate_dst (N := 6) rfl ?_); (try (refine gate_guard (by rfl) ?_; dsimp only)); refine box_event ?hg (N := 6) ?hd (cs := #[.bool a0_0, .bool a0_1, .int .u64 a0_2, .int .i64 a0_3]) (t := 55) ?hr ?_; (case hd => rfl); (case hg => rfl); (case hr => first | (go_simp; done) | (go_simp; rfl)); intro gb390 hg w11 hbox hb; have n0_ := Aside0.mk (below_step (by repeat (first | (with_reducible first | exact HB.out | apply below_alloc | apply pw_below_drewN | apply below_drew1) | exact HB.out)) hb); have n1_ := Aside0.mk (hbox); have n2_ := Aside0.mk ((by rw [hg]; exact (below_size (by repeat (first | (with_reducible first | exact HB.out | apply below_alloc | apply pw_below_drewN | apply below_drew1) | exact HB.out))) : w.heap.size ≤ gb390)); have n3_ := Aside0.mk ((by rw [hg]; exact (below_size (by repeat (first | (with_reducible first | exact HB.out | apply below_alloc | apply pw_below_drewN | apply below_drew1) | exact HB.out))) : w.heap.size ≤ gb390)); clear HB; have HB := n0_; have BK390 := n1_; have GW390 := n2_; have GE390 := n3_; clear n0_ n1_ n2_ n3_; clear hb hbox hg) | ((with_reducible refine gate_dst (N := 7) rfl ?_); (try (refine gate_guard (by rfl) ?_; dsimp only)); refine box_event ?hg (N := 7) ?hd (cs := #[.int .i64 a1_0, .int .i64 a1_1, .int .i64 a1_2, .int .i64 a1_3, .int .i64 a1_4]) (t := 23) ?hr ?_; (case hd => rfl); (case hg => rfl); (case hr => first | (go_simp; done) | (go_simp; rfl)); intro gb391 hg w12 hbox hb; have n0_ := Aside0.mk (blk_below (g := gb390) (o := .cells #[.bool a0_0, .bool a0_1, .int .u64 a0_2, .int .i64 a0_3] 55 (0, 0)) (by (with_reducible repeat (first | refine blk_drewN ?_ _ | refine blk_drew ?_ | refine blk_alloc ?_ _)); exact BK390.out) hb); have n1_ := Aside0.mk (below_step (by repeat (first | (with_reducible first | exact HB.out | apply below_alloc | apply pw_below_drewN | apply below_drew1 | refine below_set ?_ GE390.out) | exact HB.out)) hb); have n2_ := Aside0.mk (hbox); have n3_ := Aside0.mk ((by rw [hg]; exact (below_size (by repeat (first | (with_reducible first | exact HB.out | apply below_alloc | apply pw_below_drewN | apply below_drew1 | refine below_set ?_ GE390.out) | exact HB.out))) : w.heap.size ≤ gb391)); have n4_ := Aside0.mk ((by rw [hg]; exact (below_size (by repeat (first | (with_reducible first | exact HB.out | apply below_alloc | apply pw_below_drewN | apply below_drew1 | refine below_set ?_ GE390.out) | exact HB.out))) : w.heap.size ≤ gb391)); have n5_ := Aside0.mk ((by rw [hg]; exact Nat.ne_of_lt (blk_lt (g := gb390) (o := .cells #[.bool a0_0, .bool a0_1, .int .u64 a0_2, .int .i64 a0_3] 55 (0, 0)) (by (with_reducible repeat (first | refine blk_drewN ?_ _ | refine blk_drew ?_ | refine blk_alloc ?_ _)); exact BK390.out)) : gb390 ≠ gb391)); have n6_ := Aside0.mk ((by rw [hg]; exact Nat.ne_of_gt (blk_lt (g := gb390) (o := .cells #[.bool a0_0, .bool a0_1, .int .u64 a0_2, .int .i64 a0_3] 55 (0, 0)) (by (with_reducible repeat (first | refine blk_drewN ?_ _ | refine blk_drew ?_ | refine blk_alloc ?_ _)); exact BK390.out)) : gb391 ≠ gb390)); clear BK390; clear HB; have BK390 := n0_; have HB := n1_; have BK391 := n2_; have GW391 := n3_; have GE391 := n4_; have NB390_391 := n5_; have NB391_390 := n6_; clear n0_ n1_ n2_ n3_ n4_ n5_ n6_; clear hb hbox hg) | ((with_reducible refine gate_callee (f := 21) rfl ?_); refine goesL_ (some 30) rfl rfl Try.func21 (by kernel_rfl) rfl #[] rfl (by (try simp only [List.map_toArray, List.map_cons, List.map_nil]); first | done | rfl | (simp only [List.length_drop, List.length_take]; rfl)) ?_; (with_reducible refine (palletlaw12_live.calls k  true _ A7.out).mono ?_); rintro e w13 ⟨rfl, hb⟩; refine ⟨_, rfl, ?_⟩; have n0_ := Aside0.mk (blk_below (g := gb390) (o := .cells #[.bool a0_0, .bool a0_1, .int .u64 a0_2, .int .i64 a0_3] 55 (0, 0)) (by (with_reducible repeat (first | refine blk_drewN ?_ _ | refine blk_drew ?_ | refine blk_alloc ?_ _)); exact BK390.out) hb); have n1_ := Aside0.mk (blk_below (g := gb391) (o := .cells #[.int .i64 a1_0, .int .i64 a1_1, .int .i64 a1_2, .int .i64 a1_3, .int .i64 a1_4] 23 (0, 0)) (by (with_reducible repeat (first | refine blk_drewN ?_ _ | refine blk_drew ?_ | refine blk_alloc ?_ _)); exact BK391.out) hb); have n2_ := Aside0.mk (below_step (by repeat (first | (with_reducible first | exact HB.out | apply below_alloc | apply pw_below_drewN | apply below_drew1 | refine below_set ?_ GE390.out | refine below_set ?_ GE391.out) | exact HB.out)) hb); clear BK390; clear BK391; clear HB; have BK390 := n0_; have BK391 := n1_; have HB := n2_; clear n0_ n1_ n2_; (try clear hb); (try clear hb2); (try clear hk); (try clear hi); have hnb14 := NB390_391.out; have hnc14 := NB391_390.out; have hcz15_0 : w13.cell? ⟨gb390, 0, none⟩ = some (.bool a0_0) := (blk_cell BK390.out 0).trans rfl; have hcz15_1 : w13.cell? ⟨gb390, 1, none⟩ = some (.bool a0_1) := (blk_cell BK390.out 1).trans rfl; have hcz15_2 : w13.cell? ⟨gb390, 2, none⟩ = some (.int .u64 a0_2) := (blk_cell BK390.out 2).trans rfl; have hcz15_3 : w13.cell? ⟨gb390, 3, none⟩ = some (.int .i64 a0_3) := (blk_cell BK390.out 3).trans rfl; have hfz15_0 := blk_frozen BK390.out 0; have hfz15_1 := blk_frozen BK390.out 1; have hfz15_2 := blk_frozen BK390.out 2; have hfz15_3 := blk_frozen BK390.out 3; have hcz16_0 : w13.cell? ⟨gb391, 0, none⟩ = some (.int .i64 a1_0) := (blk_cell BK391.out 0).trans rfl; have hcz16_1 : w13.cell? ⟨gb391, 1, none⟩ = some (.int .i64 a1_1) := (blk_cell BK391.out 1).trans rfl; have hcz16_2 : w13.cell? ⟨gb391, 2, none⟩ = some (.int .i64 a1_2) := (blk_cell BK391.out 2).trans rfl; have hcz16_3 : w13.cell? ⟨gb391, 3, none⟩ = some (.int .i64 a1_3) := (blk_cell BK391.out 3).trans rfl; have hcz16_4 : w13.cell? ⟨gb391, 4, none⟩ = some (.int .i64 a1_4) := (blk_cell BK391.out 4).trans rfl; have hfz16_0 := blk_frozen BK391.out 0; have hfz16_1 := blk_frozen BK391.out 1; have hfz16_2 := blk_frozen BK391.out 2; have hfz16_3 := blk_frozen BK391.out 3; have hfz16_4 := blk_frozen BK391.out 4) | ((with_reducible refine gate_callee (f := 29) rfl ?_); refine goesL_ (some 39) rfl rfl Try.func29 (by kernel_rfl) rfl #[.agg #[.bool true, .bool a0_1, .int .u64 a0_2, .int .i64 a0_3], .agg #[.int .i64 a1_0, .int .i64 a1_1, .int .i64 a1_2, .int .i64 a1_3, .int .i64 a1_4], .int .i64 a2, .int .i64 a3] rfl (by (try simp only [List.map_toArray, List.map_cons, List.map_nil]); first | done | rfl | (simp only [List.length_drop, List.length_take]; rfl)) ?_; (with_reducible refine (guard_Opens.calls k true a0_1 a0_2 a0_3 a1_0 a1_1 a1_2 a1_3 a1_4 a2 a3 t393 t394 t395 _ A9.out).mono ?_); rintro e w17 ⟨rfl, hb⟩; refine ⟨_, rfl, ?_⟩; have n0_ := Aside0.mk (blk_below (g := gb390) (o := .cells #[.bool true, .bool a0_1, .int .u64 a0_2, .int .i64 a0_3] 55 (0, 0)) (by (with_reducible repeat (first | refine blk_drewN ?_ _ | refine blk_drew ?_ | refine blk_alloc ?_ _)); refine blk_put (cs := #[.bool a0_0, .bool a0_1, .int .u64 a0_2, .int .i64 a0_3]) ?_ 0 _ rfl; (with_reducible repeat (first | refine blk_drewN ?_ _ | refine blk_drew ?_ | refine blk_alloc ?_ _)); exact BK390.out) hb); have n1_ := Aside0.mk (blk_below (g := gb391) (o := .cells #[.int .i64 a1_0, .int .i64 a1_1, .int .i64 a1_2, .int .i64 a1_3, .int .i64 a1_4] 23 (0, 0)) (by (with_reducible repeat (first | refine blk_drewN ?_ _ | refine blk_drew ?_ | refine blk_alloc ?_ _)); refine blk_far ?_ NB391_390.out _; (with_reducible repeat (first | refine blk_drewN ?_ _ | refine blk_drew ?_ | refine blk_alloc ?_ _)); exact BK391.out) hb); have n2_ := Aside0.mk (below_step (by repeat (first | (with_reducible first | exact HB.out | apply below_alloc | apply pw_below_drewN | apply below_drew1 | refine below_set ?_ GE390.out | refine below_set ?_ GE391.out) | exact HB.out)) hb); clear BK390; clear BK391; clear HB; have BK390 := n0_; have BK391 := n1_; have HB := n2_; clear n0_ n1_ n2_; (try clear hb); (try clear hb2); (try clear hk); (try clear hi)))
  (try simp only [Act.put, List.setIfInBounds_toArray, List.set_cons_zero, List.set_cons_succ])
  go_cut [60] (fun v60 wc => ∃ (kq : Nat) (x60_9 : Bool), v60 = .bool x60_9 ∧ Aside0 (palletlaw12_GuardOpens.j0 kq a2 a3 a4 a5 true t393 t394 x60_9 true a0_1 a0_2 a0_3 a1_0 a1_1 a1_2 a1_3 a1_4 = some r) ∧ Aside0 (kq ≤ k) ∧ Aside0 (wc.heap[gb390]? = some (.cells #[.bool true, .bool a0_1, .int .u64 a0_2, .int .i64 a0_3] 55 (0, 0))) ∧ Aside0 (wc.heap[gb391]? = some (.cells #[.int .i64 a1_0, .int .i64 a1_1, .int .i64 a1_2, .int .i64 a1_3, .int .i64 a1_4] 23 (0, 0))) ∧ Aside0 (Below w.heap.size w wc))
  case first =>
   have H := HC10.out
   clear HC10
   by_cases c18 : t395 = 0
   ·rw [if_pos c18] at H
    have c18b0 : (t395 == 0) = true := beq_iff_eq.mpr c18
    have c18b1 : (t395 != 0) = false := bne_eq_false_iff_eq.mpr c18
    clear c18
    (first | rw [c18b0] | (simp only [i64_w, i32_w]; rw [c18b0]) | skip)
    by_cases c19 : t393 < 1
    ·rw [if_pos c19] at H
     have c19b0 : decide (t393 < 1) = true := decide_eq_true c19
     clear c19
     have H' := Aside0.mk H
     clear H
     go_wp2
     go_meet
     case rel => exact ⟨_, (true), (by first | rfl | (simp; done) | (simp [*]; done)), H', ⟨by first | omega | exact Nat.le_refl _⟩, ⟨by (with_reducible repeat (first | refine blk_drewN ?_ _ | refine blk_drew ?_ | refine blk_alloc ?_ _)); exact BK390.out⟩, ⟨by (with_reducible repeat (first | refine blk_drewN ?_ _ | refine blk_drew ?_ | refine blk_alloc ?_ _)); exact BK391.out⟩, ⟨by repeat (first | (with_reducible first | exact HB.out | apply below_alloc | apply pw_below_drewN | apply below_drew1 | refine below_set ?_ GE390.out | refine below_set ?_ GE391.out) | exact HB.out)⟩⟩
    ·rw [if_neg c19] at H
     have c19b0 : decide (t393 < 1) = false := decide_eq_false c19
     clear c19
     by_cases c20 : t394 < t393
     ·rw [if_pos c20] at H
      have c20b0 : decide (t394 < t393) = true := decide_eq_true c20
      clear c20
      have H' := Aside0.mk H
      clear H
      go_wp2
      go_meet
      case rel => exact ⟨_, (true), (by first | rfl | (simp; done) | (simp [*]; done)), H', ⟨by first | omega | exact Nat.le_refl _⟩, ⟨by (with_reducible repeat (first | refine blk_drewN ?_ _ | refine blk_drew ?_ | refine blk_alloc ?_ _)); exact BK390.out⟩, ⟨by (with_reducible repeat (first | refine blk_drewN ?_ _ | refine blk_drew ?_ | refine blk_alloc ?_ _)); exact BK391.out⟩, ⟨by repeat (first | (with_reducible first | exact HB.out | apply below_alloc | apply pw_below_drewN | apply below_drew1 | refine below_set ?_ GE390.out | refine below_set ?_ GE391.out) | exact HB.out)⟩⟩
     ·rw [if_neg c20] at H
      have c20b0 : decide (t394 < t393) = false := decide_eq_false c20
      clear c20
      obtain ⟨y396, hy396⟩ : ∃ y_ : List Int, y_ = (([wrap64 (t394 + 1)] : List Int)) := ⟨_, rfl⟩
      replace H : ((palletref01_May.f k y396).bind fun t399 => (palletlaw12_GuardOpens.j0 k a2 a3 a4 a5 true t393 t394 (!t399) true a0_1 a0_2 a0_3 a1_0 a1_1 a1_2 a1_3 a1_4)) = some r := by first | (rw [hy396]; with_reducible exact H) | (have H2_ := (Option.bind_some _ _).symm.trans H; rw [hy396]; with_reducible exact H2_) | (have H2_ := (Option.bind_some _ _).symm.trans H; with_reducible exact H2_) | with_reducible exact H | (rw [hy396]; exact H) | exact H
      have Ny396 := Aside0.mk hy396
      clear hy396
      replace H := Option.bind_eq_some_iff.mp H
      obtain ⟨t399, A210, H⟩ := H
      replace H : (palletlaw12_GuardOpens.j0 k a2 a3 a4 a5 true t393 t394 (!t399) true a0_1 a0_2 a0_3 a1_0 a1_1 a1_2 a1_3 a1_4) = some r := H
      have A21 := Aside0.mk A210
      clear A210
      have H' := Aside0.mk H
      clear H
      go_wp2_with (first | ((with_reducible refine gate_dst (N := 57) rfl ?_); (try (refine gate_guard (by rfl) ?_; dsimp only)); refine Kd.R_lit (Kd.int .i64) _ 2 ?hg (N := 57) ?hd (xs := ([wrap64 (t394 + 1)] : List Int)) (inner := [.int .i64 (wrap64 (t394 + 1))]) (ok := fun _ => True) (okp := fun _ => True) ?hr ?hp (fun _ hk => hk) trivial (Below.refl _ _) (Nat.le_refl _) (by simp) ?_; (case hd => rfl); (case hg => rfl); (case hr => first | (go_simp; done) | (go_simp; rfl)); (case hp => exact (Reps.one (show Kd.M (Kd.int .i64) _ _ _ (wrap64 (t394 + 1)) [.int .i64 (wrap64 (t394 + 1))] from rfl) (Reps.none _ _))); intro v397 w22 ho23 hb hg_ hnew_; clear hg_ hnew_; (first | rw [← Ny396.out] at ho23 | (simp only [Int.reduceToNat] at ho23; rw [← Ny396.out] at ho23)); have n0_ := Aside0.mk (Kd.R_lower ho23 (below_size (by repeat (first | (with_reducible first | exact HB.out | apply below_alloc | apply pw_below_drewN | apply below_drew1 | refine below_set ?_ GE390.out | refine below_set ?_ GE391.out) | exact HB.out)))); have n1_ := Aside0.mk (blk_below (g := gb390) (o := .cells #[.bool true, .bool a0_1, .int .u64 a0_2, .int .i64 a0_3] 55 (0, 0)) (by (with_reducible repeat (first | refine blk_drewN ?_ _ | refine blk_drew ?_ | refine blk_alloc ?_ _)); exact BK390.out) hb); have n2_ := Aside0.mk (blk_below (g := gb391) (o := .cells #[.int .i64 a1_0, .int .i64 a1_1, .int .i64 a1_2, .int .i64 a1_3, .int .i64 a1_4] 23 (0, 0)) (by (with_reducible repeat (first | refine blk_drewN ?_ _ | refine blk_drew ?_ | refine blk_alloc ?_ _)); exact BK391.out) hb); have n3_ := Aside0.mk (below_step (by repeat (first | (with_reducible first | exact HB.out | apply below_alloc | apply pw_below_drewN | apply below_drew1 | refine below_set ?_ GE390.out | refine below_set ?_ GE391.out) | exact HB.out)) hb); clear BK390; clear BK391; clear HB; have HO398 := n0_; have BK390 := n1_; have BK391 := n2_; have HB := n3_; clear n0_ n1_ n2_ n3_; clear hb ho23; obtain ⟨Ao24, co24, eo24⟩ := Kd.R_slice HO398.out; subst eo24) | (go_at_call 26; (with_reducible refine (palletref01_May.calls k _ _ y396 t399 _ ?side1 ?side2 A21.out).mono ?_); (case side1 => repeat (first | exact (Kd.R_reads' HO398.out).2.2 | (with_reducible refine Kd.C_alloc ?_ _) | (with_reducible refine Kd.C_drewN ?_ _) | (with_reducible refine Kd.C_drew ?_))); (case side2 => exact (Kd.R_reads' HO398.out).2.1); rintro e w' ⟨rfl, ⟨nd, rfl⟩⟩))
      go_meet
      case rel => exact ⟨_, (!t399), (by first | rfl | (simp; done) | (simp [*]; done)), H', ⟨by first | omega | exact Nat.le_refl _⟩, ⟨by (with_reducible repeat (first | refine blk_drewN ?_ _ | refine blk_drew ?_ | refine blk_alloc ?_ _)); exact BK390.out⟩, ⟨by (with_reducible repeat (first | refine blk_drewN ?_ _ | refine blk_drew ?_ | refine blk_alloc ?_ _)); exact BK391.out⟩, ⟨by repeat (first | (with_reducible first | exact HB.out | apply below_alloc | apply pw_below_drewN | apply below_drew1 | refine below_set ?_ GE390.out | refine below_set ?_ GE391.out) | exact HB.out)⟩⟩
   ·rw [if_neg c18] at H
    have c18b0 : (t395 == 0) = false := beq_eq_false_iff_ne.mpr c18
    have c18b1 : (t395 != 0) = true := bne_iff_ne.mpr c18
    (first | rw [c18b0] | (simp only [i64_w, i32_w]; rw [c18b0]) | skip)
    have H' := Aside0.mk H
    clear H
    go_wp2
    go_meet
    case rel => exact ⟨_, (true), (by first | rfl | (simp; done) | (simp [*]; done)), H', ⟨by first | omega | exact Nat.le_refl _⟩, ⟨by (with_reducible repeat (first | refine blk_drewN ?_ _ | refine blk_drew ?_ | refine blk_alloc ?_ _)); exact BK390.out⟩, ⟨by (with_reducible repeat (first | refine blk_drewN ?_ _ | refine blk_drew ?_ | refine blk_alloc ?_ _)); exact BK391.out⟩, ⟨by repeat (first | (with_reducible first | exact HB.out | apply below_alloc | apply pw_below_drewN | apply below_drew1 | refine below_set ?_ GE390.out | refine below_set ?_ GE391.out) | exact HB.out)⟩⟩
  case rest =>
   clear HC10
   try clear c1
   try clear c2
   try clear p2
   try clear p6
   try clear c8
   try clear c11
   try clear c14
   try clear c18
   try clear c18b0
   try clear c18b1
   try clear c19
   try clear c19b0
   try clear c20
   try clear c20b0
   try clear c21
   try clear hcz15_0
   try clear hcz15_1
   try clear hcz15_2
   try clear hcz15_3
   try clear hcz16_0
   try clear hcz16_1
   try clear hcz16_2
   try clear hcz16_3
   try clear hcz16_4
   try clear hfz15_0
   try clear hfz15_1
   try clear hfz15_2
   try clear hfz15_3
   try clear hfz16_0
   try clear hfz16_1
   try clear hfz16_2
   try clear hfz16_3
   try clear hfz16_4
   obtain ⟨kq, x60_9, rfl, HA, HJ9, BK390, BK391, HB⟩ := hcut
   cases kq with
   | zero => exact absurd HA.out (by simp [palletlaw12_GuardOpens.j0])
   | succ kj9 =>
    have H := HA.out
    clear HA
    simp only [palletlaw12_GuardOpens.j0] at H
    by_cases c25 : x60_9 = true
    ·subst c25
     have H1 : (some true) = some r := by rw [if_pos rfl] at H; exact H
     clear H
     have H := H1
     clear H1
     obtain rfl := Option.some.inj H
     go_wp2
     go_ret
     exact ⟨by first | rfl | (simp [errW_none, errW_some] <;> rfl) | (simp [*, errW_none, errW_some] <;> rfl), by repeat (first | (with_reducible first | exact HB.out | apply below_alloc | apply pw_below_drewN | apply below_drew1 | refine below_set ?_ GE390.out | refine below_set ?_ GE391.out) | exact HB.out)⟩
    ·replace c25 := Bool.eq_false_iff.mpr c25
     subst c25
     have H1 : (if (wrap64 ((wrap64 (t394 - t393)) + 1)) = 0 then (none) else ((some (([t393, wrap64 (t393 + (Int.tmod (wrap64 ((wrap64 ((wrap64 ((Int.tmod a5 (wrap64 ((wrap64 (t394 - t393)) + 1))) + t394)) - t393)) + 1)) (wrap64 ((wrap64 (t394 - t393)) + 1)))), t394] : List Int) : List Int)).bind fun y400 => (palletlaw12_GuardOpens.l0 kj9 a2 a3 a4 true t393 t394 y400 (y400.length : Int) 0 true a0_1 a0_2 a0_3 a1_0 a1_1 a1_2 a1_3 a1_4))) = some r := by rw [if_neg (show ¬ (false = true) by decide)] at H; exact H
     clear H
     have H := H1
     clear H1
     by_cases c26 : (wrap64 ((wrap64 (t394 - t393)) + 1)) = 0
     ·rw [if_pos c26] at H
      exact absurd H (by simp)
     ·rw [if_neg c26] at H
      have c26b0 : ((wrap64 ((wrap64 (t394 - t393)) + 1)) == 0) = false := beq_eq_false_iff_ne.mpr c26
      have c26b1 : ((wrap64 ((wrap64 (t394 - t393)) + 1)) != 0) = true := bne_iff_ne.mpr c26
      obtain ⟨y400, hy400⟩ : ∃ y_ : List Int, y_ = (([t393, wrap64 (t393 + (Int.tmod (wrap64 ((wrap64 ((wrap64 ((Int.tmod a5 (wrap64 ((wrap64 (t394 - t393)) + 1))) + t394)) - t393)) + 1)) (wrap64 ((wrap64 (t394 - t393)) + 1)))), t394] : List Int)) := ⟨_, rfl⟩
      replace H : (palletlaw12_GuardOpens.l0 kj9 a2 a3 a4 true t393 t394 y400 (y400.length : Int) 0 true a0_1 a0_2 a0_3 a1_0 a1_1 a1_2 a1_3 a1_4) = some r := by first | (rw [hy400]; with_reducible exact H) | (have H2_ := (Option.bind_some _ _).symm.trans H; rw [hy400]; with_reducible exact H2_) | (have H2_ := (Option.bind_some _ _).symm.trans H; with_reducible exact H2_) | with_reducible exact H | (rw [hy400]; exact H) | exact H
      have Ny400 := Aside0.mk hy400
      clear hy400
      have H' := Aside0.mk H
      clear H
      go_wp2_with (first | ((with_reducible refine gate_dst (N := 83) rfl ?_); (try (refine gate_guard (by rfl) ?_; dsimp only)); refine Kd.R_lit (Kd.int .i64) _ 2 ?hg (N := 83) ?hd (xs := ([t393, wrap64 (t393 + (Int.tmod (wrap64 ((wrap64 ((wrap64 ((Int.tmod a5 (wrap64 ((wrap64 (t394 - t393)) + 1))) + t394)) - t393)) + 1)) (wrap64 ((wrap64 (t394 - t393)) + 1)))), t394] : List Int)) (inner := [.int .i64 t393, .int .i64 (wrap64 (t393 + (Int.tmod (wrap64 ((wrap64 ((wrap64 ((Int.tmod a5 (wrap64 ((wrap64 (t394 - t393)) + 1))) + t394)) - t393)) + 1)) (wrap64 ((wrap64 (t394 - t393)) + 1))))), .int .i64 t394]) (ok := fun _ => True) (okp := fun _ => True) ?hr ?hp (fun _ hk => hk) trivial (Below.refl _ _) (Nat.le_refl _) (by simp) ?_; (case hd => rfl); (case hg => rfl); (case hr => first | (go_simp; done) | (go_simp; rfl)); (case hp => exact (Reps.one (show Kd.M (Kd.int .i64) _ _ _ t393 [.int .i64 t393] from rfl) (Reps.one (show Kd.M (Kd.int .i64) _ _ _ (wrap64 (t393 + (Int.tmod (wrap64 ((wrap64 ((wrap64 ((Int.tmod a5 (wrap64 ((wrap64 (t394 - t393)) + 1))) + t394)) - t393)) + 1)) (wrap64 ((wrap64 (t394 - t393)) + 1))))) [.int .i64 (wrap64 (t393 + (Int.tmod (wrap64 ((wrap64 ((wrap64 ((Int.tmod a5 (wrap64 ((wrap64 (t394 - t393)) + 1))) + t394)) - t393)) + 1)) (wrap64 ((wrap64 (t394 - t393)) + 1)))))] from rfl) (Reps.one (show Kd.M (Kd.int .i64) _ _ _ t394 [.int .i64 t394] from rfl) (Reps.none _ _))))); intro v401 w27 ho28 hb hg_ hnew_; clear hg_ hnew_; (first | rw [← Ny400.out] at ho28 | (simp only [Int.reduceToNat] at ho28; rw [← Ny400.out] at ho28)); have n0_ := Aside0.mk (Kd.R_lower ho28 (below_size (by repeat (first | (with_reducible first | exact HB.out | apply below_alloc | apply pw_below_drewN | apply below_drew1 | refine below_set ?_ GE390.out | refine below_set ?_ GE391.out) | exact HB.out)))); have n1_ := Aside0.mk (blk_below (g := gb390) (o := .cells #[.bool true, .bool a0_1, .int .u64 a0_2, .int .i64 a0_3] 55 (0, 0)) (by (with_reducible repeat (first | refine blk_drewN ?_ _ | refine blk_drew ?_ | refine blk_alloc ?_ _)); exact BK390.out) hb); have n2_ := Aside0.mk (blk_below (g := gb391) (o := .cells #[.int .i64 a1_0, .int .i64 a1_1, .int .i64 a1_2, .int .i64 a1_3, .int .i64 a1_4] 23 (0, 0)) (by (with_reducible repeat (first | refine blk_drewN ?_ _ | refine blk_drew ?_ | refine blk_alloc ?_ _)); exact BK391.out) hb); have n3_ := Aside0.mk (below_step (by repeat (first | (with_reducible first | exact HB.out | apply below_alloc | apply pw_below_drewN | apply below_drew1 | refine below_set ?_ GE390.out | refine below_set ?_ GE391.out) | exact HB.out)) hb); clear BK390; clear BK391; clear HB; have HO402 := n0_; have BK390 := n1_; have BK391 := n2_; have HB := n3_; clear n0_ n1_ n2_ n3_; clear hb ho28; obtain ⟨Ao29, co29, eo29⟩ := Kd.R_slice HO402.out; subst eo29))
      go_loopg [85] kj9 (fun kq v85 w' => ∃ (x85_2 : Int), v85 = .int .i64 x85_2 ∧ Aside0 (palletlaw12_GuardOpens.l0 kq a2 a3 a4 true t393 t394 y400 (y400.length : Int) x85_2 true a0_1 a0_2 a0_3 a1_0 a1_1 a1_2 a1_3 a1_4 = some r) ∧ Aside0 (kq ≤ kj9) ∧ Aside0 (Kd.R (Kd.int .i64) 2 w' w.heap.size (fun _ => True) (.slice Ao29 y400.length co29) y400) ∧ Aside0 (w'.heap[gb390]? = some (.cells #[.bool true, .bool a0_1, .int .u64 a0_2, .int .i64 a0_3] 55 (0, 0))) ∧ Aside0 (w'.heap[gb391]? = some (.cells #[.int .i64 a1_0, .int .i64 a1_1, .int .i64 a1_2, .int .i64 a1_3, .int .i64 a1_4] 23 (0, 0))) ∧ Aside0 (Below w.heap.size w w'))
      case atStart => exact ⟨(0), (by first | rfl | (simp; done) | (simp [*]; done)), H', ⟨Nat.le_refl _⟩, ⟨by (with_reducible repeat (first | apply Kd.R_alloc | apply Kd.R_drewN | apply Kd.R_drew)); exact HO402.out⟩, ⟨by (with_reducible repeat (first | refine blk_drewN ?_ _ | refine blk_drew ?_ | refine blk_alloc ?_ _)); exact BK390.out⟩, ⟨by (with_reducible repeat (first | refine blk_drewN ?_ _ | refine blk_drew ?_ | refine blk_alloc ?_ _)); exact BK391.out⟩, ⟨by repeat (first | (with_reducible first | exact HB.out | apply below_alloc | apply pw_below_drewN | apply below_drew1 | refine below_set ?_ GE390.out | refine below_set ?_ GE391.out) | exact HB.out)⟩⟩
      case round =>
       clear H'
       try clear c1
       try clear c2
       try clear p2
       try clear p6
       try clear c8
       try clear c11
       try clear c14
       try clear c18
       try clear c18b0
       try clear c18b1
       try clear c19
       try clear c19b0
       try clear c20
       try clear c20b0
       try clear c21
       try clear c25
       try clear c26
       try clear c26b0
       try clear c26b1
       try clear c29
       try clear hcz15_0
       try clear hcz15_1
       try clear hcz15_2
       try clear hcz15_3
       try clear hcz16_0
       try clear hcz16_1
       try clear hcz16_2
       try clear hcz16_3
       try clear hcz16_4
       try clear hfz15_0
       try clear hfz15_1
       try clear hfz15_2
       try clear hfz15_3
       try clear hfz16_0
       try clear hfz16_1
       try clear hfz16_2
       try clear hfz16_3
       try clear hfz16_4
       try clear p2
       try clear p6
       obtain ⟨x85_2, rfl, HA, HK2, HO_83, BK390, BK391, HB⟩ := hrel
       cases gk with
       | zero => exact absurd HA.out (by simp [palletlaw12_GuardOpens.l0])
       | succ k2 =>
        have H := HA.out
        clear HA
        simp only [palletlaw12_GuardOpens.l0] at H
        by_cases c30 : x85_2 < (y400.length : Int)
        ·rw [if_pos c30] at H
         have c30b0 : decide (x85_2 < (y400.length : Int)) = true := decide_eq_true c30
         clear c30
         by_cases c31 : 0 ≤ x85_2
         ·rw [if_pos c31] at H
          have c31b0 : decide (0 ≤ x85_2) = true := decide_eq_true c31
          clear c31
          by_cases c32 : x85_2 < (y400.length : Int)
          ·rw [if_pos c32] at H
           have c32b0 : decide (x85_2 < (y400.length : Int)) = true := decide_eq_true c32
           clear c32
           replace H := Option.bind_eq_some_iff.mp H
           obtain ⟨⟨t404, t405, t406, t407, t408, t409⟩, A330, H⟩ := H
           replace H : (if t408 = true then (if t409 = 0 then (if t406 ≤ a0_2 then (palletlaw12_GuardOpens.j2 k2 a2 a3 a4 true t393 t394 (rd y400 x85_2) y400 (y400.length : Int) x85_2 true true a0_1 a0_2 a0_3 a1_0 a1_1 a1_2 a1_3 a1_4) else (palletlaw12_GuardOpens.j2 k2 a2 a3 a4 true t393 t394 (rd y400 x85_2) y400 (y400.length : Int) x85_2 (t407 != (wrap64 ((rd y400 x85_2) - (wrap64 (a1_2 * a2))))) true a0_1 a0_2 a0_3 a1_0 a1_1 a1_2 a1_3 a1_4)) else (palletlaw12_GuardOpens.j2 k2 a2 a3 a4 true t393 t394 (rd y400 x85_2) y400 (y400.length : Int) x85_2 true true a0_1 a0_2 a0_3 a1_0 a1_1 a1_2 a1_3 a1_4)) else (palletlaw12_GuardOpens.j2 k2 a2 a3 a4 true t393 t394 (rd y400 x85_2) y400 (y400.length : Int) x85_2 true true a0_1 a0_2 a0_3 a1_0 a1_1 a1_2 a1_3 a1_4)) = some r := H
           have A33 := Aside0.mk A330
           clear A330
           have HC34 := Aside0.mk H
           clear H
           have p403 : 0 ≤ (x85_2 : Int) := of_decide_eq_true (by first | (with_reducible assumption) | assumption)
           have q403 : x85_2 < (y400.length : Int) := of_decide_eq_true (by first | (with_reducible assumption) | assumption)
           obtain ⟨ad403, e403, hx403_0⟩ := Kd.at_int (Kd.R_reads' HO_83.out).2.2 x85_2 p403 q403
           cases e403
           replace p403 := eq_true p403
           replace q403 := eq_true q403
           have hnb35 := NB390_391.out
           have hnc35 := NB391_390.out
           have hcz36_0 : wr.cell? ⟨gb390, 0, none⟩ = some (.bool true) := (blk_cell BK390.out 0).trans rfl
           have hcz36_1 : wr.cell? ⟨gb390, 1, none⟩ = some (.bool a0_1) := (blk_cell BK390.out 1).trans rfl
           have hcz36_2 : wr.cell? ⟨gb390, 2, none⟩ = some (.int .u64 a0_2) := (blk_cell BK390.out 2).trans rfl
           have hcz36_3 : wr.cell? ⟨gb390, 3, none⟩ = some (.int .i64 a0_3) := (blk_cell BK390.out 3).trans rfl
           have hfz36_0 := blk_frozen BK390.out 0
           have hfz36_1 := blk_frozen BK390.out 1
           have hfz36_2 := blk_frozen BK390.out 2
           have hfz36_3 := blk_frozen BK390.out 3
           have hcz37_0 : wr.cell? ⟨gb391, 0, none⟩ = some (.int .i64 a1_0) := (blk_cell BK391.out 0).trans rfl
           have hcz37_1 : wr.cell? ⟨gb391, 1, none⟩ = some (.int .i64 a1_1) := (blk_cell BK391.out 1).trans rfl
           have hcz37_2 : wr.cell? ⟨gb391, 2, none⟩ = some (.int .i64 a1_2) := (blk_cell BK391.out 2).trans rfl
           have hcz37_3 : wr.cell? ⟨gb391, 3, none⟩ = some (.int .i64 a1_3) := (blk_cell BK391.out 3).trans rfl
           have hcz37_4 : wr.cell? ⟨gb391, 4, none⟩ = some (.int .i64 a1_4) := (blk_cell BK391.out 4).trans rfl
           have hfz37_0 := blk_frozen BK391.out 0
           have hfz37_1 := blk_frozen BK391.out 1
           have hfz37_2 := blk_frozen BK391.out 2
           have hfz37_3 := blk_frozen BK391.out 3
           have hfz37_4 := blk_frozen BK391.out 4
           go_upto_region 13 with (first | ((with_reducible refine gate_callee (f := 27) rfl ?_); refine goesL_ (some 96) rfl rfl Try.func27 (by kernel_rfl) rfl #[.agg #[.bool true, .bool a0_1, .int .u64 a0_2, .int .i64 a0_3], .agg #[.int .i64 a1_0, .int .i64 a1_1, .int .i64 a1_2, .int .i64 a1_3, .int .i64 a1_4], .int .i64 a2, .int .i64 a3, .agg #[.int .i64 0, .int .i64 0, .int .u64 0, .int .u16 0], .int .i64 (rd y400 x85_2)] rfl (by (try simp only [List.map_toArray, List.map_cons, List.map_nil]); first | done | rfl | (simp only [List.length_drop, List.length_take]; rfl)) ?_; (with_reducible refine (guard_Pass.calls k2 true a0_1 a0_2 a0_3 a1_0 a1_1 a1_2 a1_3 a1_4 a2 a3 0 0 0 0 (rd y400 x85_2) t404 t405 t406 t407 t408 t409 _ A33.out).mono ?_); rintro e w38 ⟨rfl, hb⟩; refine ⟨_, rfl, ?_⟩; have n0_ := Aside0.mk (Kd.R_below (by (with_reducible repeat (first | apply Kd.R_alloc | apply Kd.R_drewN | apply Kd.R_drew)); exact HO_83.out) hb); have n1_ := Aside0.mk (blk_below (g := gb390) (o := .cells #[.bool true, .bool a0_1, .int .u64 a0_2, .int .i64 a0_3] 55 (0, 0)) (by (with_reducible repeat (first | refine blk_drewN ?_ _ | refine blk_drew ?_ | refine blk_alloc ?_ _)); exact BK390.out) hb); have n2_ := Aside0.mk (blk_below (g := gb391) (o := .cells #[.int .i64 a1_0, .int .i64 a1_1, .int .i64 a1_2, .int .i64 a1_3, .int .i64 a1_4] 23 (0, 0)) (by (with_reducible repeat (first | refine blk_drewN ?_ _ | refine blk_drew ?_ | refine blk_alloc ?_ _)); exact BK391.out) hb); have n3_ := Aside0.mk (below_step (by repeat (first | (with_reducible first | exact HB.out | apply below_alloc | apply pw_below_drewN | apply below_drew1 | refine below_set ?_ GE390.out | refine below_set ?_ GE391.out) | exact HB.out)) hb); clear HO_83; clear BK390; clear BK391; clear HB; have HO_83 := n0_; have BK390 := n1_; have BK391 := n2_; have HB := n3_; clear n0_ n1_ n2_ n3_; (try clear hb); (try clear hb2); (try clear hk); (try clear hi)) | ((with_reducible refine gate_dst (N := 19) rfl ?_); (try (refine gate_guard (by rfl) ?_; dsimp only)); refine box_event ?hg (N := 19) ?hd (cs := #[.bool false, .bool false, .int .u64 0, .int .i64 0]) (t := 55) ?hr ?_; (case hd => rfl); (case hg => rfl); (case hr => first | (go_simp; done) | (go_simp; rfl)); intro gb410 hg w39 hbox hb; have n0_ := Aside0.mk (Kd.R_below (by (with_reducible repeat (first | apply Kd.R_alloc | apply Kd.R_drewN | apply Kd.R_drew)); exact HO_83.out) hb); have n1_ := Aside0.mk (blk_below (g := gb390) (o := .cells #[.bool true, .bool a0_1, .int .u64 a0_2, .int .i64 a0_3] 55 (0, 0)) (by (with_reducible repeat (first | refine blk_drewN ?_ _ | refine blk_drew ?_ | refine blk_alloc ?_ _)); exact BK390.out) hb); have n2_ := Aside0.mk (blk_below (g := gb391) (o := .cells #[.int .i64 a1_0, .int .i64 a1_1, .int .i64 a1_2, .int .i64 a1_3, .int .i64 a1_4] 23 (0, 0)) (by (with_reducible repeat (first | refine blk_drewN ?_ _ | refine blk_drew ?_ | refine blk_alloc ?_ _)); exact BK391.out) hb); have n3_ := Aside0.mk (below_step (by repeat (first | (with_reducible first | exact HB.out | apply below_alloc | apply pw_below_drewN | apply below_drew1 | refine below_set ?_ GE390.out | refine below_set ?_ GE391.out) | exact HB.out)) hb); have n4_ := Aside0.mk (hbox); have n5_ := Aside0.mk ((by rw [hg]; exact (below_size (by repeat (first | (with_reducible first | exact HB.out | apply below_alloc | apply pw_below_drewN | apply below_drew1 | refine below_set ?_ GE390.out | refine below_set ?_ GE391.out) | exact HB.out))) : w.heap.size ≤ gb410)); have n6_ := Aside0.mk ((by rw [hg]; exact (below_size (by repeat (first | (with_reducible first | exact HB.out | apply below_alloc | apply pw_below_drewN | apply below_drew1 | refine below_set ?_ GE390.out | refine below_set ?_ GE391.out) | exact HB.out))) : w.heap.size ≤ gb410)); have n7_ := Aside0.mk ((by rw [hg]; exact Nat.ne_of_lt (blk_lt (g := gb390) (o := .cells #[.bool true, .bool a0_1, .int .u64 a0_2, .int .i64 a0_3] 55 (0, 0)) (by (with_reducible repeat (first | refine blk_drewN ?_ _ | refine blk_drew ?_ | refine blk_alloc ?_ _)); exact BK390.out)) : gb390 ≠ gb410)); have n8_ := Aside0.mk ((by rw [hg]; exact Nat.ne_of_gt (blk_lt (g := gb390) (o := .cells #[.bool true, .bool a0_1, .int .u64 a0_2, .int .i64 a0_3] 55 (0, 0)) (by (with_reducible repeat (first | refine blk_drewN ?_ _ | refine blk_drew ?_ | refine blk_alloc ?_ _)); exact BK390.out)) : gb410 ≠ gb390)); have n9_ := Aside0.mk ((by rw [hg]; exact Nat.ne_of_lt (blk_lt (g := gb391) (o := .cells #[.int .i64 a1_0, .int .i64 a1_1, .int .i64 a1_2, .int .i64 a1_3, .int .i64 a1_4] 23 (0, 0)) (by (with_reducible repeat (first | refine blk_drewN ?_ _ | refine blk_drew ?_ | refine blk_alloc ?_ _)); exact BK391.out)) : gb391 ≠ gb410)); have n10_ := Aside0.mk ((by rw [hg]; exact Nat.ne_of_gt (blk_lt (g := gb391) (o := .cells #[.int .i64 a1_0, .int .i64 a1_1, .int .i64 a1_2, .int .i64 a1_3, .int .i64 a1_4] 23 (0, 0)) (by (with_reducible repeat (first | refine blk_drewN ?_ _ | refine blk_drew ?_ | refine blk_alloc ?_ _)); exact BK391.out)) : gb410 ≠ gb391)); clear HO_83; clear BK390; clear BK391; clear HB; have HO_83 := n0_; have BK390 := n1_; have BK391 := n2_; have HB := n3_; have BK410 := n4_; have GW410 := n5_; have GE410 := n6_; have NB390_410 := n7_; have NB410_390 := n8_; have NB391_410 := n9_; have NB410_391 := n10_; clear n0_ n1_ n2_ n3_ n4_ n5_ n6_ n7_ n8_ n9_ n10_; clear hb hbox hg; have hnb40 := NB410_390.out; have hnc40 := NB390_410.out; have hnb41 := NB410_391.out; have hnc41 := NB391_410.out; have hcz42_0 : w39.cell? ⟨gb410, 0, none⟩ = some (.bool false) := (blk_cell BK410.out 0).trans rfl; have hcz42_1 : w39.cell? ⟨gb410, 1, none⟩ = some (.bool false) := (blk_cell BK410.out 1).trans rfl; have hcz42_2 : w39.cell? ⟨gb410, 2, none⟩ = some (.int .u64 0) := (blk_cell BK410.out 2).trans rfl; have hcz42_3 : w39.cell? ⟨gb410, 3, none⟩ = some (.int .i64 0) := (blk_cell BK410.out 3).trans rfl; have hfz42_0 := blk_frozen BK410.out 0; have hfz42_1 := blk_frozen BK410.out 1; have hfz42_2 := blk_frozen BK410.out 2; have hfz42_3 := blk_frozen BK410.out 3))
           (try simp only [Act.put, List.setIfInBounds_toArray, List.set_cons_zero, List.set_cons_succ])
           go_cut [123] (fun v123 wc => ∃ (kq : Nat) (x123_33 : Bool), v123 = .bool x123_33 ∧ Aside0 (palletlaw12_GuardOpens.j2 kq a2 a3 a4 true t393 t394 (rd y400 x85_2) y400 (y400.length : Int) x85_2 x123_33 true a0_1 a0_2 a0_3 a1_0 a1_1 a1_2 a1_3 a1_4 = some r) ∧ Aside0 (kq ≤ k2) ∧ Aside0 (Kd.R (Kd.int .i64) 2 wc w.heap.size (fun _ => True) (.slice (some ad403) y400.length co29) y400) ∧ Aside0 (wc.heap[gb390]? = some (.cells #[.bool true, .bool a0_1, .int .u64 a0_2, .int .i64 a0_3] 55 (0, 0))) ∧ Aside0 (wc.heap[gb391]? = some (.cells #[.int .i64 a1_0, .int .i64 a1_1, .int .i64 a1_2, .int .i64 a1_3, .int .i64 a1_4] 23 (0, 0))) ∧ Aside0 (wc.heap[gb410]? = some (.cells #[.bool t404, .bool t405, .int .u64 t406, .int .i64 t407] 55 (0, 0))) ∧ Aside0 (Below w.heap.size w wc))
           case first =>
            have H := HC34.out
            clear HC34
            by_cases c43 : t408 = true
            ·subst c43
             have H1 : (if t409 = 0 then (if t406 ≤ a0_2 then (palletlaw12_GuardOpens.j2 k2 a2 a3 a4 true t393 t394 (rd y400 x85_2) y400 (y400.length : Int) x85_2 true true a0_1 a0_2 a0_3 a1_0 a1_1 a1_2 a1_3 a1_4) else (palletlaw12_GuardOpens.j2 k2 a2 a3 a4 true t393 t394 (rd y400 x85_2) y400 (y400.length : Int) x85_2 (t407 != (wrap64 ((rd y400 x85_2) - (wrap64 (a1_2 * a2))))) true a0_1 a0_2 a0_3 a1_0 a1_1 a1_2 a1_3 a1_4)) else (palletlaw12_GuardOpens.j2 k2 a2 a3 a4 true t393 t394 (rd y400 x85_2) y400 (y400.length : Int) x85_2 true true a0_1 a0_2 a0_3 a1_0 a1_1 a1_2 a1_3 a1_4)) = some r := by rw [if_pos rfl] at H; exact H
             clear H
             have H := H1
             clear H1
             by_cases c44 : t409 = 0
             ·rw [if_pos c44] at H
              have c44b0 : (t409 == 0) = true := beq_iff_eq.mpr c44
              have c44b1 : (t409 != 0) = false := bne_eq_false_iff_eq.mpr c44
              clear c44
              (first | rw [c44b0] | (simp only [i64_w, i32_w]; rw [c44b0]) | skip)
              by_cases c45 : t406 ≤ a0_2
              ·rw [if_pos c45] at H
               have c45b0 : decide (t406 ≤ a0_2) = true := decide_eq_true c45
               clear c45
               have H' := Aside0.mk H
               clear H
               have hnb46 := NB410_390.out
               have hnc46 := NB390_410.out
               have hnb47 := NB410_391.out
               have hnc47 := NB391_410.out
               have hcz48_0 : w39.cell? ⟨gb410, 0, none⟩ = some (.bool false) := (blk_cell BK410.out 0).trans rfl
               have hcz48_1 : w39.cell? ⟨gb410, 1, none⟩ = some (.bool false) := (blk_cell BK410.out 1).trans rfl
               have hcz48_2 : w39.cell? ⟨gb410, 2, none⟩ = some (.int .u64 0) := (blk_cell BK410.out 2).trans rfl
               have hcz48_3 : w39.cell? ⟨gb410, 3, none⟩ = some (.int .i64 0) := (blk_cell BK410.out 3).trans rfl
               have hfz48_0 := blk_frozen BK410.out 0
               have hfz48_1 := blk_frozen BK410.out 1
               have hfz48_2 := blk_frozen BK410.out 2
               have hfz48_3 := blk_frozen BK410.out 3
               have hnb49 := NB390_391.out
               have hnc49 := NB391_390.out
               have hcz50_0 : w39.cell? ⟨gb390, 0, none⟩ = some (.bool true) := (blk_cell BK390.out 0).trans rfl
               have hcz50_1 : w39.cell? ⟨gb390, 1, none⟩ = some (.bool a0_1) := (blk_cell BK390.out 1).trans rfl
               have hcz50_2 : w39.cell? ⟨gb390, 2, none⟩ = some (.int .u64 a0_2) := (blk_cell BK390.out 2).trans rfl
               have hcz50_3 : w39.cell? ⟨gb390, 3, none⟩ = some (.int .i64 a0_3) := (blk_cell BK390.out 3).trans rfl
               have hfz50_0 := blk_frozen BK390.out 0
               have hfz50_1 := blk_frozen BK390.out 1
               have hfz50_2 := blk_frozen BK390.out 2
               have hfz50_3 := blk_frozen BK390.out 3
               go_wp2
               go_meet
               case rel => exact ⟨_, (true), (by first | rfl | (simp; done) | (simp [*]; done)), H', ⟨by have := HJ9.out; have := HK2.out; first | omega | exact Nat.le_refl _⟩, ⟨by (with_reducible repeat (first | apply Kd.R_alloc | apply Kd.R_drewN | apply Kd.R_drew)); exact Kd.R_mono (Kd.R_far (p := ⟨gb410, 3, none⟩) (Kd.R_far (p := ⟨gb410, 2, none⟩) (Kd.R_far (p := ⟨gb410, 1, none⟩) (Kd.R_far (p := ⟨gb410, 0, none⟩) (Kd.R_types HO_83.out BK410.out (by decide)) (fun _ hk => hk.2) (.bool t404)) (fun _ hk => hk.2) (.bool t405)) (fun _ hk => hk.2) (.int .u64 t406)) (fun _ hk => hk.2) (.int .i64 t407)) (fun _ hk => trivial)⟩, ⟨by (with_reducible repeat (first | refine blk_drewN ?_ _ | refine blk_drew ?_ | refine blk_alloc ?_ _)); refine blk_far ?_ NB390_410.out _; (with_reducible repeat (first | refine blk_drewN ?_ _ | refine blk_drew ?_ | refine blk_alloc ?_ _)); refine blk_far ?_ NB390_410.out _; (with_reducible repeat (first | refine blk_drewN ?_ _ | refine blk_drew ?_ | refine blk_alloc ?_ _)); refine blk_far ?_ NB390_410.out _; (with_reducible repeat (first | refine blk_drewN ?_ _ | refine blk_drew ?_ | refine blk_alloc ?_ _)); refine blk_far ?_ NB390_410.out _; (with_reducible repeat (first | refine blk_drewN ?_ _ | refine blk_drew ?_ | refine blk_alloc ?_ _)); exact BK390.out⟩, ⟨by (with_reducible repeat (first | refine blk_drewN ?_ _ | refine blk_drew ?_ | refine blk_alloc ?_ _)); refine blk_far ?_ NB391_410.out _; (with_reducible repeat (first | refine blk_drewN ?_ _ | refine blk_drew ?_ | refine blk_alloc ?_ _)); refine blk_far ?_ NB391_410.out _; (with_reducible repeat (first | refine blk_drewN ?_ _ | refine blk_drew ?_ | refine blk_alloc ?_ _)); refine blk_far ?_ NB391_410.out _; (with_reducible repeat (first | refine blk_drewN ?_ _ | refine blk_drew ?_ | refine blk_alloc ?_ _)); refine blk_far ?_ NB391_410.out _; (with_reducible repeat (first | refine blk_drewN ?_ _ | refine blk_drew ?_ | refine blk_alloc ?_ _)); exact BK391.out⟩, ⟨by (with_reducible repeat (first | refine blk_drewN ?_ _ | refine blk_drew ?_ | refine blk_alloc ?_ _)); refine blk_put (cs := #[.bool t404, .bool t405, .int .u64 t406, .int .i64 0]) ?_ 3 _ rfl; (with_reducible repeat (first | refine blk_drewN ?_ _ | refine blk_drew ?_ | refine blk_alloc ?_ _)); refine blk_put (cs := #[.bool t404, .bool t405, .int .u64 0, .int .i64 0]) ?_ 2 _ rfl; (with_reducible repeat (first | refine blk_drewN ?_ _ | refine blk_drew ?_ | refine blk_alloc ?_ _)); refine blk_put (cs := #[.bool t404, .bool false, .int .u64 0, .int .i64 0]) ?_ 1 _ rfl; (with_reducible repeat (first | refine blk_drewN ?_ _ | refine blk_drew ?_ | refine blk_alloc ?_ _)); refine blk_put (cs := #[.bool false, .bool false, .int .u64 0, .int .i64 0]) ?_ 0 _ rfl; (with_reducible repeat (first | refine blk_drewN ?_ _ | refine blk_drew ?_ | refine blk_alloc ?_ _)); exact BK410.out⟩, ⟨by repeat (first | (with_reducible first | exact HB.out | apply below_alloc | apply pw_below_drewN | apply below_drew1 | refine below_set ?_ GE390.out | refine below_set ?_ GE391.out | refine below_set ?_ GE410.out) | exact HB.out)⟩⟩
              ·rw [if_neg c45] at H
               have c45b0 : decide (t406 ≤ a0_2) = false := decide_eq_false c45
               clear c45
               have H' := Aside0.mk H
               clear H
               have hnb51 := NB410_390.out
               have hnc51 := NB390_410.out
               have hnb52 := NB410_391.out
               have hnc52 := NB391_410.out
               have hcz53_0 : w39.cell? ⟨gb410, 0, none⟩ = some (.bool false) := (blk_cell BK410.out 0).trans rfl
               have hcz53_1 : w39.cell? ⟨gb410, 1, none⟩ = some (.bool false) := (blk_cell BK410.out 1).trans rfl
               have hcz53_2 : w39.cell? ⟨gb410, 2, none⟩ = some (.int .u64 0) := (blk_cell BK410.out 2).trans rfl
               have hcz53_3 : w39.cell? ⟨gb410, 3, none⟩ = some (.int .i64 0) := (blk_cell BK410.out 3).trans rfl
               have hfz53_0 := blk_frozen BK410.out 0
               have hfz53_1 := blk_frozen BK410.out 1
               have hfz53_2 := blk_frozen BK410.out 2
               have hfz53_3 := blk_frozen BK410.out 3
               have hnb54 := NB390_391.out
               have hnc54 := NB391_390.out
               have hcz55_0 : w39.cell? ⟨gb390, 0, none⟩ = some (.bool true) := (blk_cell BK390.out 0).trans rfl
               have hcz55_1 : w39.cell? ⟨gb390, 1, none⟩ = some (.bool a0_1) := (blk_cell BK390.out 1).trans rfl
               have hcz55_2 : w39.cell? ⟨gb390, 2, none⟩ = some (.int .u64 a0_2) := (blk_cell BK390.out 2).trans rfl
               have hcz55_3 : w39.cell? ⟨gb390, 3, none⟩ = some (.int .i64 a0_3) := (blk_cell BK390.out 3).trans rfl
               have hfz55_0 := blk_frozen BK390.out 0
               have hfz55_1 := blk_frozen BK390.out 1
               have hfz55_2 := blk_frozen BK390.out 2
               have hfz55_3 := blk_frozen BK390.out 3
               have hcz56_0 : w39.cell? ⟨gb391, 0, none⟩ = some (.int .i64 a1_0) := (blk_cell BK391.out 0).trans rfl
               have hcz56_1 : w39.cell? ⟨gb391, 1, none⟩ = some (.int .i64 a1_1) := (blk_cell BK391.out 1).trans rfl
               have hcz56_2 : w39.cell? ⟨gb391, 2, none⟩ = some (.int .i64 a1_2) := (blk_cell BK391.out 2).trans rfl
               have hcz56_3 : w39.cell? ⟨gb391, 3, none⟩ = some (.int .i64 a1_3) := (blk_cell BK391.out 3).trans rfl
               have hcz56_4 : w39.cell? ⟨gb391, 4, none⟩ = some (.int .i64 a1_4) := (blk_cell BK391.out 4).trans rfl
               have hfz56_0 := blk_frozen BK391.out 0
               have hfz56_1 := blk_frozen BK391.out 1
               have hfz56_2 := blk_frozen BK391.out 2
               have hfz56_3 := blk_frozen BK391.out 3
               have hfz56_4 := blk_frozen BK391.out 4
               go_wp2
               go_meet
               case rel => exact ⟨_, ((t407 != (wrap64 ((rd y400 x85_2) - (wrap64 (a1_2 * a2)))))), (by first | rfl | (simp; done) | (simp [*]; done)), H', ⟨by have := HJ9.out; have := HK2.out; first | omega | exact Nat.le_refl _⟩, ⟨by (with_reducible repeat (first | apply Kd.R_alloc | apply Kd.R_drewN | apply Kd.R_drew)); exact Kd.R_mono (Kd.R_far (p := ⟨gb410, 3, none⟩) (Kd.R_far (p := ⟨gb410, 2, none⟩) (Kd.R_far (p := ⟨gb410, 1, none⟩) (Kd.R_far (p := ⟨gb410, 0, none⟩) (Kd.R_types HO_83.out BK410.out (by decide)) (fun _ hk => hk.2) (.bool t404)) (fun _ hk => hk.2) (.bool t405)) (fun _ hk => hk.2) (.int .u64 t406)) (fun _ hk => hk.2) (.int .i64 t407)) (fun _ hk => trivial)⟩, ⟨by (with_reducible repeat (first | refine blk_drewN ?_ _ | refine blk_drew ?_ | refine blk_alloc ?_ _)); refine blk_far ?_ NB390_410.out _; (with_reducible repeat (first | refine blk_drewN ?_ _ | refine blk_drew ?_ | refine blk_alloc ?_ _)); refine blk_far ?_ NB390_410.out _; (with_reducible repeat (first | refine blk_drewN ?_ _ | refine blk_drew ?_ | refine blk_alloc ?_ _)); refine blk_far ?_ NB390_410.out _; (with_reducible repeat (first | refine blk_drewN ?_ _ | refine blk_drew ?_ | refine blk_alloc ?_ _)); refine blk_far ?_ NB390_410.out _; (with_reducible repeat (first | refine blk_drewN ?_ _ | refine blk_drew ?_ | refine blk_alloc ?_ _)); exact BK390.out⟩, ⟨by (with_reducible repeat (first | refine blk_drewN ?_ _ | refine blk_drew ?_ | refine blk_alloc ?_ _)); refine blk_far ?_ NB391_410.out _; (with_reducible repeat (first | refine blk_drewN ?_ _ | refine blk_drew ?_ | refine blk_alloc ?_ _)); refine blk_far ?_ NB391_410.out _; (with_reducible repeat (first | refine blk_drewN ?_ _ | refine blk_drew ?_ | refine blk_alloc ?_ _)); refine blk_far ?_ NB391_410.out _; (with_reducible repeat (first | refine blk_drewN ?_ _ | refine blk_drew ?_ | refine blk_alloc ?_ _)); refine blk_far ?_ NB391_410.out _; (with_reducible repeat (first | refine blk_drewN ?_ _ | refine blk_drew ?_ | refine blk_alloc ?_ _)); exact BK391.out⟩, ⟨by (with_reducible repeat (first | refine blk_drewN ?_ _ | refine blk_drew ?_ | refine blk_alloc ?_ _)); refine blk_put (cs := #[.bool t404, .bool t405, .int .u64 t406, .int .i64 0]) ?_ 3 _ rfl; (with_reducible repeat (first | refine blk_drewN ?_ _ | refine blk_drew ?_ | refine blk_alloc ?_ _)); refine blk_put (cs := #[.bool t404, .bool t405, .int .u64 0, .int .i64 0]) ?_ 2 _ rfl; (with_reducible repeat (first | refine blk_drewN ?_ _ | refine blk_drew ?_ | refine blk_alloc ?_ _)); refine blk_put (cs := #[.bool t404, .bool false, .int .u64 0, .int .i64 0]) ?_ 1 _ rfl; (with_reducible repeat (first | refine blk_drewN ?_ _ | refine blk_drew ?_ | refine blk_alloc ?_ _)); refine blk_put (cs := #[.bool false, .bool false, .int .u64 0, .int .i64 0]) ?_ 0 _ rfl; (with_reducible repeat (first | refine blk_drewN ?_ _ | refine blk_drew ?_ | refine blk_alloc ?_ _)); exact BK410.out⟩, ⟨by repeat (first | (with_reducible first | exact HB.out | apply below_alloc | apply pw_below_drewN | apply below_drew1 | refine below_set ?_ GE390.out | refine below_set ?_ GE391.out | refine below_set ?_ GE410.out) | exact HB.out)⟩⟩
             ·rw [if_neg c44] at H
              have c44b0 : (t409 == 0) = false := beq_eq_false_iff_ne.mpr c44
              have c44b1 : (t409 != 0) = true := bne_iff_ne.mpr c44
              (first | rw [c44b0] | (simp only [i64_w, i32_w]; rw [c44b0]) | skip)
              have H' := Aside0.mk H
              clear H
              go_wp2
              go_meet
              case rel => exact ⟨_, (true), (by first | rfl | (simp; done) | (simp [*]; done)), H', ⟨by have := HJ9.out; have := HK2.out; first | omega | exact Nat.le_refl _⟩, ⟨by (with_reducible repeat (first | apply Kd.R_alloc | apply Kd.R_drewN | apply Kd.R_drew)); exact Kd.R_mono (Kd.R_far (p := ⟨gb410, 3, none⟩) (Kd.R_far (p := ⟨gb410, 2, none⟩) (Kd.R_far (p := ⟨gb410, 1, none⟩) (Kd.R_far (p := ⟨gb410, 0, none⟩) (Kd.R_types HO_83.out BK410.out (by decide)) (fun _ hk => hk.2) (.bool t404)) (fun _ hk => hk.2) (.bool t405)) (fun _ hk => hk.2) (.int .u64 t406)) (fun _ hk => hk.2) (.int .i64 t407)) (fun _ hk => trivial)⟩, ⟨by (with_reducible repeat (first | refine blk_drewN ?_ _ | refine blk_drew ?_ | refine blk_alloc ?_ _)); refine blk_far ?_ NB390_410.out _; (with_reducible repeat (first | refine blk_drewN ?_ _ | refine blk_drew ?_ | refine blk_alloc ?_ _)); refine blk_far ?_ NB390_410.out _; (with_reducible repeat (first | refine blk_drewN ?_ _ | refine blk_drew ?_ | refine blk_alloc ?_ _)); refine blk_far ?_ NB390_410.out _; (with_reducible repeat (first | refine blk_drewN ?_ _ | refine blk_drew ?_ | refine blk_alloc ?_ _)); refine blk_far ?_ NB390_410.out _; (with_reducible repeat (first | refine blk_drewN ?_ _ | refine blk_drew ?_ | refine blk_alloc ?_ _)); exact BK390.out⟩, ⟨by (with_reducible repeat (first | refine blk_drewN ?_ _ | refine blk_drew ?_ | refine blk_alloc ?_ _)); refine blk_far ?_ NB391_410.out _; (with_reducible repeat (first | refine blk_drewN ?_ _ | refine blk_drew ?_ | refine blk_alloc ?_ _)); refine blk_far ?_ NB391_410.out _; (with_reducible repeat (first | refine blk_drewN ?_ _ | refine blk_drew ?_ | refine blk_alloc ?_ _)); refine blk_far ?_ NB391_410.out _; (with_reducible repeat (first | refine blk_drewN ?_ _ | refine blk_drew ?_ | refine blk_alloc ?_ _)); refine blk_far ?_ NB391_410.out _; (with_reducible repeat (first | refine blk_drewN ?_ _ | refine blk_drew ?_ | refine blk_alloc ?_ _)); exact BK391.out⟩, ⟨by (with_reducible repeat (first | refine blk_drewN ?_ _ | refine blk_drew ?_ | refine blk_alloc ?_ _)); refine blk_put (cs := #[.bool t404, .bool t405, .int .u64 t406, .int .i64 0]) ?_ 3 _ rfl; (with_reducible repeat (first | refine blk_drewN ?_ _ | refine blk_drew ?_ | refine blk_alloc ?_ _)); refine blk_put (cs := #[.bool t404, .bool t405, .int .u64 0, .int .i64 0]) ?_ 2 _ rfl; (with_reducible repeat (first | refine blk_drewN ?_ _ | refine blk_drew ?_ | refine blk_alloc ?_ _)); refine blk_put (cs := #[.bool t404, .bool false, .int .u64 0, .int .i64 0]) ?_ 1 _ rfl; (with_reducible repeat (first | refine blk_drewN ?_ _ | refine blk_drew ?_ | refine blk_alloc ?_ _)); refine blk_put (cs := #[.bool false, .bool false, .int .u64 0, .int .i64 0]) ?_ 0 _ rfl; (with_reducible repeat (first | refine blk_drewN ?_ _ | refine blk_drew ?_ | refine blk_alloc ?_ _)); exact BK410.out⟩, ⟨by repeat (first | (with_reducible first | exact HB.out | apply below_alloc | apply pw_below_drewN | apply below_drew1 | refine below_set ?_ GE390.out | refine below_set ?_ GE391.out | refine below_set ?_ GE410.out) | exact HB.out)⟩⟩
            ·replace c43 := Bool.eq_false_iff.mpr c43
             subst c43
             have H1 : (palletlaw12_GuardOpens.j2 k2 a2 a3 a4 true t393 t394 (rd y400 x85_2) y400 (y400.length : Int) x85_2 true true a0_1 a0_2 a0_3 a1_0 a1_1 a1_2 a1_3 a1_4) = some r := by rw [if_neg (show ¬ (false = true) by decide)] at H; exact H
             clear H
             have H := H1
             clear H1
             have H' := Aside0.mk H
             clear H
             go_wp2
             go_meet
             case rel => exact ⟨_, (true), (by first | rfl | (simp; done) | (simp [*]; done)), H', ⟨by have := HJ9.out; have := HK2.out; first | omega | exact Nat.le_refl _⟩, ⟨by (with_reducible repeat (first | apply Kd.R_alloc | apply Kd.R_drewN | apply Kd.R_drew)); exact Kd.R_mono (Kd.R_far (p := ⟨gb410, 3, none⟩) (Kd.R_far (p := ⟨gb410, 2, none⟩) (Kd.R_far (p := ⟨gb410, 1, none⟩) (Kd.R_far (p := ⟨gb410, 0, none⟩) (Kd.R_types HO_83.out BK410.out (by decide)) (fun _ hk => hk.2) (.bool t404)) (fun _ hk => hk.2) (.bool t405)) (fun _ hk => hk.2) (.int .u64 t406)) (fun _ hk => hk.2) (.int .i64 t407)) (fun _ hk => trivial)⟩, ⟨by (with_reducible repeat (first | refine blk_drewN ?_ _ | refine blk_drew ?_ | refine blk_alloc ?_ _)); refine blk_far ?_ NB390_410.out _; (with_reducible repeat (first | refine blk_drewN ?_ _ | refine blk_drew ?_ | refine blk_alloc ?_ _)); refine blk_far ?_ NB390_410.out _; (with_reducible repeat (first | refine blk_drewN ?_ _ | refine blk_drew ?_ | refine blk_alloc ?_ _)); refine blk_far ?_ NB390_410.out _; (with_reducible repeat (first | refine blk_drewN ?_ _ | refine blk_drew ?_ | refine blk_alloc ?_ _)); refine blk_far ?_ NB390_410.out _; (with_reducible repeat (first | refine blk_drewN ?_ _ | refine blk_drew ?_ | refine blk_alloc ?_ _)); exact BK390.out⟩, ⟨by (with_reducible repeat (first | refine blk_drewN ?_ _ | refine blk_drew ?_ | refine blk_alloc ?_ _)); refine blk_far ?_ NB391_410.out _; (with_reducible repeat (first | refine blk_drewN ?_ _ | refine blk_drew ?_ | refine blk_alloc ?_ _)); refine blk_far ?_ NB391_410.out _; (with_reducible repeat (first | refine blk_drewN ?_ _ | refine blk_drew ?_ | refine blk_alloc ?_ _)); refine blk_far ?_ NB391_410.out _; (with_reducible repeat (first | refine blk_drewN ?_ _ | refine blk_drew ?_ | refine blk_alloc ?_ _)); refine blk_far ?_ NB391_410.out _; (with_reducible repeat (first | refine blk_drewN ?_ _ | refine blk_drew ?_ | refine blk_alloc ?_ _)); exact BK391.out⟩, ⟨by (with_reducible repeat (first | refine blk_drewN ?_ _ | refine blk_drew ?_ | refine blk_alloc ?_ _)); refine blk_put (cs := #[.bool t404, .bool t405, .int .u64 t406, .int .i64 0]) ?_ 3 _ rfl; (with_reducible repeat (first | refine blk_drewN ?_ _ | refine blk_drew ?_ | refine blk_alloc ?_ _)); refine blk_put (cs := #[.bool t404, .bool t405, .int .u64 0, .int .i64 0]) ?_ 2 _ rfl; (with_reducible repeat (first | refine blk_drewN ?_ _ | refine blk_drew ?_ | refine blk_alloc ?_ _)); refine blk_put (cs := #[.bool t404, .bool false, .int .u64 0, .int .i64 0]) ?_ 1 _ rfl; (with_reducible repeat (first | refine blk_drewN ?_ _ | refine blk_drew ?_ | refine blk_alloc ?_ _)); refine blk_put (cs := #[.bool false, .bool false, .int .u64 0, .int .i64 0]) ?_ 0 _ rfl; (with_reducible repeat (first | refine blk_drewN ?_ _ | refine blk_drew ?_ | refine blk_alloc ?_ _)); exact BK410.out⟩, ⟨by repeat (first | (with_reducible first | exact HB.out | apply below_alloc | apply pw_below_drewN | apply below_drew1 | refine below_set ?_ GE390.out | refine below_set ?_ GE391.out | refine below_set ?_ GE410.out) | exact HB.out)⟩⟩
           case rest =>
            clear HC34
            try clear c1
            try clear c2
            try clear p2
            try clear c3
            try clear c4
            try clear p4
            try clear q4
            try clear hx4
            try clear c5
            try clear p6
            try clear c8
            try clear c11
            try clear c14
            try clear c18
            try clear c18b0
            try clear c18b1
            try clear c19
            try clear c19b0
            try clear c20
            try clear c20b0
            try clear c21
            try clear c25
            try clear c26
            try clear c26b0
            try clear c26b1
            try clear c27
            try clear c29
            try clear c30
            try clear c30b0
            try clear c31
            try clear c31b0
            try clear c32
            try clear c32b0
            try clear c35
            try clear c40
            try clear p40
            try clear q40
            try clear hx40
            try clear c41
            try clear c43
            try clear c44
            try clear c44b0
            try clear c44b1
            try clear c45
            try clear c45b0
            try clear c46
            try clear c47
            try clear c49
            try clear c51
            try clear c52
            try clear c54
            try clear hcz15_0
            try clear hcz15_1
            try clear hcz15_2
            try clear hcz15_3
            try clear hcz16_0
            try clear hcz16_1
            try clear hcz16_2
            try clear hcz16_3
            try clear hcz16_4
            try clear hcz36_0
            try clear hcz36_1
            try clear hcz36_2
            try clear hcz36_3
            try clear hcz37_0
            try clear hcz37_1
            try clear hcz37_2
            try clear hcz37_3
            try clear hcz37_4
            try clear hcz42_0
            try clear hcz42_1
            try clear hcz42_2
            try clear hcz42_3
            try clear hcz48_0
            try clear hcz48_1
            try clear hcz48_2
            try clear hcz48_3
            try clear hcz50_0
            try clear hcz50_1
            try clear hcz50_2
            try clear hcz50_3
            try clear hcz53_0
            try clear hcz53_1
            try clear hcz53_2
            try clear hcz53_3
            try clear hcz55_0
            try clear hcz55_1
            try clear hcz55_2
            try clear hcz55_3
            try clear hcz56_0
            try clear hcz56_1
            try clear hcz56_2
            try clear hcz56_3
            try clear hcz56_4
            try clear hfz15_0
            try clear hfz15_1
            try clear hfz15_2
            try clear hfz15_3
            try clear hfz16_0
            try clear hfz16_1
            try clear hfz16_2
            try clear hfz16_3
            try clear hfz16_4
            try clear hfz36_0
            try clear hfz36_1
            try clear hfz36_2
            try clear hfz36_3
            try clear hfz37_0
            try clear hfz37_1
            try clear hfz37_2
            try clear hfz37_3
            try clear hfz37_4
            try clear hfz42_0
            try clear hfz42_1
            try clear hfz42_2
            try clear hfz42_3
            try clear hfz48_0
            try clear hfz48_1
            try clear hfz48_2
            try clear hfz48_3
            try clear hfz50_0
            try clear hfz50_1
            try clear hfz50_2
            try clear hfz50_3
            try clear hfz53_0
            try clear hfz53_1
            try clear hfz53_2
            try clear hfz53_3
            try clear hfz55_0
            try clear hfz55_1
            try clear hfz55_2
            try clear hfz55_3
            try clear hfz56_0
            try clear hfz56_1
            try clear hfz56_2
            try clear hfz56_3
            try clear hfz56_4
            try clear hx403_0
            try clear p2
            try clear p403
            try clear p6
            try clear q403
            obtain ⟨kq, x123_33, rfl, HA, HJ33, HO_83, BK390, BK391, BK410, HB⟩ := hcut
            cases kq with
            | zero => exact absurd HA.out (by simp [palletlaw12_GuardOpens.j2])
            | succ kj33 =>
             have H := HA.out
             clear HA
             simp only [palletlaw12_GuardOpens.j2] at H
             by_cases c57 : x123_33 = true
             ·subst c57
              have H1 : (some false) = some r := by rw [if_pos rfl] at H; exact H
              clear H
              have H := H1
              clear H1
              obtain rfl := Option.some.inj H
              exact absurd hr_.out (by decide)
             ·replace c57 := Bool.eq_false_iff.mpr c57
              subst c57
              have H1 : ((guard_Pass.f kj33 true a0_1 a0_2 a0_3 a1_0 a1_1 a1_2 a1_3 a1_4 a2 a4 0 0 0 0 (rd y400 x85_2)).bind fun bt411 => (if a4 = a3 then (palletlaw12_GuardOpens.l0 kj33 a2 a3 a4 true t393 t394 y400 (y400.length : Int) (wrap64 (x85_2 + 1)) true a0_1 a0_2 a0_3 a1_0 a1_1 a1_2 a1_3 a1_4) else (if bt411.2.2.2.2.1 = true then (some false) else (if bt411.2.2.2.2.2 = 0 then (if (!(bt411.1 == true) || (!(bt411.2.1 == a0_1) || (!(bt411.2.2.1 == a0_2) || (!(bt411.2.2.2.1 == a0_3))))) = true then (some false) else (palletlaw12_GuardOpens.l0 kj33 a2 a3 a4 true t393 t394 y400 (y400.length : Int) (wrap64 (x85_2 + 1)) true a0_1 a0_2 a0_3 a1_0 a1_1 a1_2 a1_3 a1_4)) else (palletlaw12_GuardOpens.l0 kj33 a2 a3 a4 true t393 t394 y400 (y400.length : Int) (wrap64 (x85_2 + 1)) true a0_1 a0_2 a0_3 a1_0 a1_1 a1_2 a1_3 a1_4))))) = some r := by rw [if_neg (show ¬ (false = true) by decide)] at H; exact H
              clear H
              have H := H1
              clear H1
              replace H := Option.bind_eq_some_iff.mp H
              obtain ⟨⟨t411, t412, t413, t414, t415, t416⟩, A580, H⟩ := H
              replace H : (if a4 = a3 then (palletlaw12_GuardOpens.l0 kj33 a2 a3 a4 true t393 t394 y400 (y400.length : Int) (wrap64 (x85_2 + 1)) true a0_1 a0_2 a0_3 a1_0 a1_1 a1_2 a1_3 a1_4) else (if t415 = true then (some false) else (if t416 = 0 then (if (!(t411 == true) || (!(t412 == a0_1) || (!(t413 == a0_2) || (!(t414 == a0_3))))) = true then (some false) else (palletlaw12_GuardOpens.l0 kj33 a2 a3 a4 true t393 t394 y400 (y400.length : Int) (wrap64 (x85_2 + 1)) true a0_1 a0_2 a0_3 a1_0 a1_1 a1_2 a1_3 a1_4)) else (palletlaw12_GuardOpens.l0 kj33 a2 a3 a4 true t393 t394 y400 (y400.length : Int) (wrap64 (x85_2 + 1)) true a0_1 a0_2 a0_3 a1_0 a1_1 a1_2 a1_3 a1_4)))) = some r := H
              have A58 := Aside0.mk A580
              clear A580
              by_cases c59 : a4 = a3
              ·rw [if_pos c59] at H
               have c59b0 : (a4 == a3) = true := beq_iff_eq.mpr c59
               have c59b1 : (a4 != a3) = false := bne_eq_false_iff_eq.mpr c59
               clear c59
               have H' := Aside0.mk H
               clear H
               have hnb60 := NB390_391.out
               have hnc60 := NB391_390.out
               have hnb61 := NB390_410.out
               have hnc61 := NB410_390.out
               have hcz62_0 : wc.cell? ⟨gb390, 0, none⟩ = some (.bool true) := (blk_cell BK390.out 0).trans rfl
               have hcz62_1 : wc.cell? ⟨gb390, 1, none⟩ = some (.bool a0_1) := (blk_cell BK390.out 1).trans rfl
               have hcz62_2 : wc.cell? ⟨gb390, 2, none⟩ = some (.int .u64 a0_2) := (blk_cell BK390.out 2).trans rfl
               have hcz62_3 : wc.cell? ⟨gb390, 3, none⟩ = some (.int .i64 a0_3) := (blk_cell BK390.out 3).trans rfl
               have hfz62_0 := blk_frozen BK390.out 0
               have hfz62_1 := blk_frozen BK390.out 1
               have hfz62_2 := blk_frozen BK390.out 2
               have hfz62_3 := blk_frozen BK390.out 3
               have hnb63 := NB391_410.out
               have hnc63 := NB410_391.out
               have hcz64_0 : wc.cell? ⟨gb391, 0, none⟩ = some (.int .i64 a1_0) := (blk_cell BK391.out 0).trans rfl
               have hcz64_1 : wc.cell? ⟨gb391, 1, none⟩ = some (.int .i64 a1_1) := (blk_cell BK391.out 1).trans rfl
               have hcz64_2 : wc.cell? ⟨gb391, 2, none⟩ = some (.int .i64 a1_2) := (blk_cell BK391.out 2).trans rfl
               have hcz64_3 : wc.cell? ⟨gb391, 3, none⟩ = some (.int .i64 a1_3) := (blk_cell BK391.out 3).trans rfl
               have hcz64_4 : wc.cell? ⟨gb391, 4, none⟩ = some (.int .i64 a1_4) := (blk_cell BK391.out 4).trans rfl
               have hfz64_0 := blk_frozen BK391.out 0
               have hfz64_1 := blk_frozen BK391.out 1
               have hfz64_2 := blk_frozen BK391.out 2
               have hfz64_3 := blk_frozen BK391.out 3
               have hfz64_4 := blk_frozen BK391.out 4
               go_wp2_with (first | ((with_reducible refine gate_callee (f := 27) rfl ?_); refine goesL_ (some 131) rfl rfl Try.func27 (by kernel_rfl) rfl #[.agg #[.bool true, .bool a0_1, .int .u64 a0_2, .int .i64 a0_3], .agg #[.int .i64 a1_0, .int .i64 a1_1, .int .i64 a1_2, .int .i64 a1_3, .int .i64 a1_4], .int .i64 a2, .int .i64 a4, .agg #[.int .i64 0, .int .i64 0, .int .u64 0, .int .u16 0], .int .i64 (rd y400 x85_2)] rfl (by (try simp only [List.map_toArray, List.map_cons, List.map_nil]); first | done | rfl | (simp only [List.length_drop, List.length_take]; rfl)) ?_; (with_reducible refine (guard_Pass.calls kj33 true a0_1 a0_2 a0_3 a1_0 a1_1 a1_2 a1_3 a1_4 a2 a4 0 0 0 0 (rd y400 x85_2) t411 t412 t413 t414 t415 t416 _ A58.out).mono ?_); rintro e w65 ⟨rfl, hb⟩; refine ⟨_, rfl, ?_⟩; have n0_ := Aside0.mk (Kd.R_below (by (with_reducible repeat (first | apply Kd.R_alloc | apply Kd.R_drewN | apply Kd.R_drew)); exact HO_83.out) hb); have n1_ := Aside0.mk (blk_below (g := gb390) (o := .cells #[.bool true, .bool a0_1, .int .u64 a0_2, .int .i64 a0_3] 55 (0, 0)) (by (with_reducible repeat (first | refine blk_drewN ?_ _ | refine blk_drew ?_ | refine blk_alloc ?_ _)); exact BK390.out) hb); have n2_ := Aside0.mk (blk_below (g := gb391) (o := .cells #[.int .i64 a1_0, .int .i64 a1_1, .int .i64 a1_2, .int .i64 a1_3, .int .i64 a1_4] 23 (0, 0)) (by (with_reducible repeat (first | refine blk_drewN ?_ _ | refine blk_drew ?_ | refine blk_alloc ?_ _)); exact BK391.out) hb); have n3_ := Aside0.mk (blk_below (g := gb410) (o := .cells #[.bool t404, .bool t405, .int .u64 t406, .int .i64 t407] 55 (0, 0)) (by (with_reducible repeat (first | refine blk_drewN ?_ _ | refine blk_drew ?_ | refine blk_alloc ?_ _)); exact BK410.out) hb); have n4_ := Aside0.mk (below_step (by repeat (first | (with_reducible first | exact HB.out | apply below_alloc | apply pw_below_drewN | apply below_drew1 | refine below_set ?_ GE390.out | refine below_set ?_ GE391.out | refine below_set ?_ GE410.out) | exact HB.out)) hb); clear HO_83; clear BK390; clear BK391; clear BK410; clear HB; have HO_83 := n0_; have BK390 := n1_; have BK391 := n2_; have BK410 := n3_; have HB := n4_; clear n0_ n1_ n2_ n3_ n4_; (try clear hb); (try clear hb2); (try clear hk); (try clear hi)) | ((with_reducible refine gate_dst (N := 22) rfl ?_); (try (refine gate_guard (by rfl) ?_; dsimp only)); refine box_event ?hg (N := 22) ?hd (cs := #[.bool false, .bool false, .int .u64 0, .int .i64 0]) (t := 55) ?hr ?_; (case hd => rfl); (case hg => rfl); (case hr => first | (go_simp; done) | (go_simp; rfl)); intro gb417 hg w66 hbox hb; have n0_ := Aside0.mk (Kd.R_below (by (with_reducible repeat (first | apply Kd.R_alloc | apply Kd.R_drewN | apply Kd.R_drew)); exact HO_83.out) hb); have n1_ := Aside0.mk (blk_below (g := gb390) (o := .cells #[.bool true, .bool a0_1, .int .u64 a0_2, .int .i64 a0_3] 55 (0, 0)) (by (with_reducible repeat (first | refine blk_drewN ?_ _ | refine blk_drew ?_ | refine blk_alloc ?_ _)); exact BK390.out) hb); have n2_ := Aside0.mk (blk_below (g := gb391) (o := .cells #[.int .i64 a1_0, .int .i64 a1_1, .int .i64 a1_2, .int .i64 a1_3, .int .i64 a1_4] 23 (0, 0)) (by (with_reducible repeat (first | refine blk_drewN ?_ _ | refine blk_drew ?_ | refine blk_alloc ?_ _)); exact BK391.out) hb); have n3_ := Aside0.mk (blk_below (g := gb410) (o := .cells #[.bool t404, .bool t405, .int .u64 t406, .int .i64 t407] 55 (0, 0)) (by (with_reducible repeat (first | refine blk_drewN ?_ _ | refine blk_drew ?_ | refine blk_alloc ?_ _)); exact BK410.out) hb); have n4_ := Aside0.mk (below_step (by repeat (first | (with_reducible first | exact HB.out | apply below_alloc | apply pw_below_drewN | apply below_drew1 | refine below_set ?_ GE390.out | refine below_set ?_ GE391.out | refine below_set ?_ GE410.out) | exact HB.out)) hb); have n5_ := Aside0.mk (hbox); have n6_ := Aside0.mk ((by rw [hg]; exact (below_size (by repeat (first | (with_reducible first | exact HB.out | apply below_alloc | apply pw_below_drewN | apply below_drew1 | refine below_set ?_ GE390.out | refine below_set ?_ GE391.out | refine below_set ?_ GE410.out) | exact HB.out))) : w.heap.size ≤ gb417)); have n7_ := Aside0.mk ((by rw [hg]; exact (below_size (by repeat (first | (with_reducible first | exact HB.out | apply below_alloc | apply pw_below_drewN | apply below_drew1 | refine below_set ?_ GE390.out | refine below_set ?_ GE391.out | refine below_set ?_ GE410.out) | exact HB.out))) : w.heap.size ≤ gb417)); have n8_ := Aside0.mk ((by rw [hg]; exact Nat.ne_of_lt (blk_lt (g := gb390) (o := .cells #[.bool true, .bool a0_1, .int .u64 a0_2, .int .i64 a0_3] 55 (0, 0)) (by (with_reducible repeat (first | refine blk_drewN ?_ _ | refine blk_drew ?_ | refine blk_alloc ?_ _)); exact BK390.out)) : gb390 ≠ gb417)); have n9_ := Aside0.mk ((by rw [hg]; exact Nat.ne_of_gt (blk_lt (g := gb390) (o := .cells #[.bool true, .bool a0_1, .int .u64 a0_2, .int .i64 a0_3] 55 (0, 0)) (by (with_reducible repeat (first | refine blk_drewN ?_ _ | refine blk_drew ?_ | refine blk_alloc ?_ _)); exact BK390.out)) : gb417 ≠ gb390)); have n10_ := Aside0.mk ((by rw [hg]; exact Nat.ne_of_lt (blk_lt (g := gb391) (o := .cells #[.int .i64 a1_0, .int .i64 a1_1, .int .i64 a1_2, .int .i64 a1_3, .int .i64 a1_4] 23 (0, 0)) (by (with_reducible repeat (first | refine blk_drewN ?_ _ | refine blk_drew ?_ | refine blk_alloc ?_ _)); exact BK391.out)) : gb391 ≠ gb417)); have n11_ := Aside0.mk ((by rw [hg]; exact Nat.ne_of_gt (blk_lt (g := gb391) (o := .cells #[.int .i64 a1_0, .int .i64 a1_1, .int .i64 a1_2, .int .i64 a1_3, .int .i64 a1_4] 23 (0, 0)) (by (with_reducible repeat (first | refine blk_drewN ?_ _ | refine blk_drew ?_ | refine blk_alloc ?_ _)); exact BK391.out)) : gb417 ≠ gb391)); have n12_ := Aside0.mk ((by rw [hg]; exact Nat.ne_of_lt (blk_lt (g := gb410) (o := .cells #[.bool t404, .bool t405, .int .u64 t406, .int .i64 t407] 55 (0, 0)) (by (with_reducible repeat (first | refine blk_drewN ?_ _ | refine blk_drew ?_ | refine blk_alloc ?_ _)); exact BK410.out)) : gb410 ≠ gb417)); have n13_ := Aside0.mk ((by rw [hg]; exact Nat.ne_of_gt (blk_lt (g := gb410) (o := .cells #[.bool t404, .bool t405, .int .u64 t406, .int .i64 t407] 55 (0, 0)) (by (with_reducible repeat (first | refine blk_drewN ?_ _ | refine blk_drew ?_ | refine blk_alloc ?_ _)); exact BK410.out)) : gb417 ≠ gb410)); clear HO_83; clear BK390; clear BK391; clear BK410; clear HB; have HO_83 := n0_; have BK390 := n1_; have BK391 := n2_; have BK410 := n3_; have HB := n4_; have BK417 := n5_; have GW417 := n6_; have GE417 := n7_; have NB390_417 := n8_; have NB417_390 := n9_; have NB391_417 := n10_; have NB417_391 := n11_; have NB410_417 := n12_; have NB417_410 := n13_; clear n0_ n1_ n2_ n3_ n4_ n5_ n6_ n7_ n8_ n9_ n10_ n11_ n12_ n13_; clear hb hbox hg; have hnb67 := NB417_390.out; have hnc67 := NB390_417.out; have hnb68 := NB417_391.out; have hnc68 := NB391_417.out; have hnb69 := NB417_410.out; have hnc69 := NB410_417.out; have hcz70_0 : w66.cell? ⟨gb417, 0, none⟩ = some (.bool false) := (blk_cell BK417.out 0).trans rfl; have hcz70_1 : w66.cell? ⟨gb417, 1, none⟩ = some (.bool false) := (blk_cell BK417.out 1).trans rfl; have hcz70_2 : w66.cell? ⟨gb417, 2, none⟩ = some (.int .u64 0) := (blk_cell BK417.out 2).trans rfl; have hcz70_3 : w66.cell? ⟨gb417, 3, none⟩ = some (.int .i64 0) := (blk_cell BK417.out 3).trans rfl; have hfz70_0 := blk_frozen BK417.out 0; have hfz70_1 := blk_frozen BK417.out 1; have hfz70_2 := blk_frozen BK417.out 2; have hfz70_3 := blk_frozen BK417.out 3))
               go_roundg kj33
               case measure => have := HJ9.out; have := HK2.out; have := HJ33.out; omega
               case rel => exact ⟨(wrap64 (x85_2 + 1)), (by first | rfl | (simp; done) | (simp [*]; done)), H', ⟨by have := HJ9.out; have := HK2.out; have := HJ33.out; omega⟩, ⟨by (with_reducible repeat (first | apply Kd.R_alloc | apply Kd.R_drewN | apply Kd.R_drew)); exact Kd.R_mono (Kd.R_far (p := ⟨gb417, 3, none⟩) (Kd.R_far (p := ⟨gb417, 2, none⟩) (Kd.R_far (p := ⟨gb417, 1, none⟩) (Kd.R_far (p := ⟨gb417, 0, none⟩) (Kd.R_types HO_83.out BK417.out (by decide)) (fun _ hk => hk.2) (.bool t411)) (fun _ hk => hk.2) (.bool t412)) (fun _ hk => hk.2) (.int .u64 t413)) (fun _ hk => hk.2) (.int .i64 t414)) (fun _ hk => trivial)⟩, ⟨by (with_reducible repeat (first | refine blk_drewN ?_ _ | refine blk_drew ?_ | refine blk_alloc ?_ _)); refine blk_far ?_ NB390_417.out _; (with_reducible repeat (first | refine blk_drewN ?_ _ | refine blk_drew ?_ | refine blk_alloc ?_ _)); refine blk_far ?_ NB390_417.out _; (with_reducible repeat (first | refine blk_drewN ?_ _ | refine blk_drew ?_ | refine blk_alloc ?_ _)); refine blk_far ?_ NB390_417.out _; (with_reducible repeat (first | refine blk_drewN ?_ _ | refine blk_drew ?_ | refine blk_alloc ?_ _)); refine blk_far ?_ NB390_417.out _; (with_reducible repeat (first | refine blk_drewN ?_ _ | refine blk_drew ?_ | refine blk_alloc ?_ _)); exact BK390.out⟩, ⟨by (with_reducible repeat (first | refine blk_drewN ?_ _ | refine blk_drew ?_ | refine blk_alloc ?_ _)); refine blk_far ?_ NB391_417.out _; (with_reducible repeat (first | refine blk_drewN ?_ _ | refine blk_drew ?_ | refine blk_alloc ?_ _)); refine blk_far ?_ NB391_417.out _; (with_reducible repeat (first | refine blk_drewN ?_ _ | refine blk_drew ?_ | refine blk_alloc ?_ _)); refine blk_far ?_ NB391_417.out _; (with_reducible repeat (first | refine blk_drewN ?_ _ | refine blk_drew ?_ | refine blk_alloc ?_ _)); refine blk_far ?_ NB391_417.out _; (with_reducible repeat (first | refine blk_drewN ?_ _ | refine blk_drew ?_ | refine blk_alloc ?_ _)); exact BK391.out⟩, ⟨by repeat (first | (with_reducible first | exact HB.out | apply below_alloc | apply pw_below_drewN | apply below_drew1 | refine below_set ?_ GE390.out | refine below_set ?_ GE391.out | refine below_set ?_ GE410.out | refine below_set ?_ GE417.out) | exact HB.out)⟩⟩
              ·rw [if_neg c59] at H
               have c59b0 : (a4 == a3) = false := beq_eq_false_iff_ne.mpr c59
               have c59b1 : (a4 != a3) = true := bne_iff_ne.mpr c59
               by_cases c71 : t415 = true
               ·subst c71
                have H1 : (some false) = some r := by rw [if_pos rfl] at H; exact H
                clear H
                have H := H1
                clear H1
                obtain rfl := Option.some.inj H
                exact absurd hr_.out (by decide)
               ·replace c71 := Bool.eq_false_iff.mpr c71
                subst c71
                have H1 : (if t416 = 0 then (if (!(t411 == true) || (!(t412 == a0_1) || (!(t413 == a0_2) || (!(t414 == a0_3))))) = true then (some false) else (palletlaw12_GuardOpens.l0 kj33 a2 a3 a4 true t393 t394 y400 (y400.length : Int) (wrap64 (x85_2 + 1)) true a0_1 a0_2 a0_3 a1_0 a1_1 a1_2 a1_3 a1_4)) else (palletlaw12_GuardOpens.l0 kj33 a2 a3 a4 true t393 t394 y400 (y400.length : Int) (wrap64 (x85_2 + 1)) true a0_1 a0_2 a0_3 a1_0 a1_1 a1_2 a1_3 a1_4)) = some r := by rw [if_neg (show ¬ (false = true) by decide)] at H; exact H
                clear H
                have H := H1
                clear H1
                by_cases c72 : t416 = 0
                ·rw [if_pos c72] at H
                 have c72b0 : (t416 == 0) = true := beq_iff_eq.mpr c72
                 have c72b1 : (t416 != 0) = false := bne_eq_false_iff_eq.mpr c72
                 clear c72
                 by_cases c73 : (!(t411 == true) || (!(t412 == a0_1) || (!(t413 == a0_2) || (!(t414 == a0_3))))) = true
                 ·rw [if_pos c73] at H
                  have c73b0 : (!(t411 == true) || (!(t412 == a0_1) || (!(t413 == a0_2) || (!(t414 == a0_3))))) = true := c73
                  have c73b1 : ((!t411 || (!(t412 == a0_1) || (!(t413 == a0_2) || (!(t414 == a0_3)))))) = true := by simpa using c73
                  clear c73
                  obtain rfl := Option.some.inj H
                  exact absurd hr_.out (by decide)
                 ·rw [if_neg c73] at H
                  have c73b0 : (!(t411 == true) || (!(t412 == a0_1) || (!(t413 == a0_2) || (!(t414 == a0_3))))) = false := by simpa using c73
                  have c73b1 : ((!t411 || (!(t412 == a0_1) || (!(t413 == a0_2) || (!(t414 == a0_3)))))) = false := by simpa using c73
                  clear c73
                  have H' := Aside0.mk H
                  clear H
                  have hnb74 := NB390_391.out
                  have hnc74 := NB391_390.out
                  have hnb75 := NB390_410.out
                  have hnc75 := NB410_390.out
                  have hcz76_0 : wc.cell? ⟨gb390, 0, none⟩ = some (.bool true) := (blk_cell BK390.out 0).trans rfl
                  have hcz76_1 : wc.cell? ⟨gb390, 1, none⟩ = some (.bool a0_1) := (blk_cell BK390.out 1).trans rfl
                  have hcz76_2 : wc.cell? ⟨gb390, 2, none⟩ = some (.int .u64 a0_2) := (blk_cell BK390.out 2).trans rfl
                  have hcz76_3 : wc.cell? ⟨gb390, 3, none⟩ = some (.int .i64 a0_3) := (blk_cell BK390.out 3).trans rfl
                  have hfz76_0 := blk_frozen BK390.out 0
                  have hfz76_1 := blk_frozen BK390.out 1
                  have hfz76_2 := blk_frozen BK390.out 2
                  have hfz76_3 := blk_frozen BK390.out 3
                  have hnb77 := NB391_410.out
                  have hnc77 := NB410_391.out
                  have hcz78_0 : wc.cell? ⟨gb391, 0, none⟩ = some (.int .i64 a1_0) := (blk_cell BK391.out 0).trans rfl
                  have hcz78_1 : wc.cell? ⟨gb391, 1, none⟩ = some (.int .i64 a1_1) := (blk_cell BK391.out 1).trans rfl
                  have hcz78_2 : wc.cell? ⟨gb391, 2, none⟩ = some (.int .i64 a1_2) := (blk_cell BK391.out 2).trans rfl
                  have hcz78_3 : wc.cell? ⟨gb391, 3, none⟩ = some (.int .i64 a1_3) := (blk_cell BK391.out 3).trans rfl
                  have hcz78_4 : wc.cell? ⟨gb391, 4, none⟩ = some (.int .i64 a1_4) := (blk_cell BK391.out 4).trans rfl
                  have hfz78_0 := blk_frozen BK391.out 0
                  have hfz78_1 := blk_frozen BK391.out 1
                  have hfz78_2 := blk_frozen BK391.out 2
                  have hfz78_3 := blk_frozen BK391.out 3
                  have hfz78_4 := blk_frozen BK391.out 4
                  go_wp2_with (first | ((with_reducible refine gate_callee (f := 27) rfl ?_); refine goesL_ (some 131) rfl rfl Try.func27 (by kernel_rfl) rfl #[.agg #[.bool true, .bool a0_1, .int .u64 a0_2, .int .i64 a0_3], .agg #[.int .i64 a1_0, .int .i64 a1_1, .int .i64 a1_2, .int .i64 a1_3, .int .i64 a1_4], .int .i64 a2, .int .i64 a4, .agg #[.int .i64 0, .int .i64 0, .int .u64 0, .int .u16 0], .int .i64 (rd y400 x85_2)] rfl (by (try simp only [List.map_toArray, List.map_cons, List.map_nil]); first | done | rfl | (simp only [List.length_drop, List.length_take]; rfl)) ?_; (with_reducible refine (guard_Pass.calls kj33 true a0_1 a0_2 a0_3 a1_0 a1_1 a1_2 a1_3 a1_4 a2 a4 0 0 0 0 (rd y400 x85_2) t411 t412 t413 t414 false t416 _ A58.out).mono ?_); rintro e w79 ⟨rfl, hb⟩; refine ⟨_, rfl, ?_⟩; have n0_ := Aside0.mk (Kd.R_below (by (with_reducible repeat (first | apply Kd.R_alloc | apply Kd.R_drewN | apply Kd.R_drew)); exact HO_83.out) hb); have n1_ := Aside0.mk (blk_below (g := gb390) (o := .cells #[.bool true, .bool a0_1, .int .u64 a0_2, .int .i64 a0_3] 55 (0, 0)) (by (with_reducible repeat (first | refine blk_drewN ?_ _ | refine blk_drew ?_ | refine blk_alloc ?_ _)); exact BK390.out) hb); have n2_ := Aside0.mk (blk_below (g := gb391) (o := .cells #[.int .i64 a1_0, .int .i64 a1_1, .int .i64 a1_2, .int .i64 a1_3, .int .i64 a1_4] 23 (0, 0)) (by (with_reducible repeat (first | refine blk_drewN ?_ _ | refine blk_drew ?_ | refine blk_alloc ?_ _)); exact BK391.out) hb); have n3_ := Aside0.mk (blk_below (g := gb410) (o := .cells #[.bool t404, .bool t405, .int .u64 t406, .int .i64 t407] 55 (0, 0)) (by (with_reducible repeat (first | refine blk_drewN ?_ _ | refine blk_drew ?_ | refine blk_alloc ?_ _)); exact BK410.out) hb); have n4_ := Aside0.mk (below_step (by repeat (first | (with_reducible first | exact HB.out | apply below_alloc | apply pw_below_drewN | apply below_drew1 | refine below_set ?_ GE390.out | refine below_set ?_ GE391.out | refine below_set ?_ GE410.out) | exact HB.out)) hb); clear HO_83; clear BK390; clear BK391; clear BK410; clear HB; have HO_83 := n0_; have BK390 := n1_; have BK391 := n2_; have BK410 := n3_; have HB := n4_; clear n0_ n1_ n2_ n3_ n4_; (try clear hb); (try clear hb2); (try clear hk); (try clear hi)) | ((with_reducible refine gate_dst (N := 22) rfl ?_); (try (refine gate_guard (by rfl) ?_; dsimp only)); refine box_event ?hg (N := 22) ?hd (cs := #[.bool false, .bool false, .int .u64 0, .int .i64 0]) (t := 55) ?hr ?_; (case hd => rfl); (case hg => rfl); (case hr => first | (go_simp; done) | (go_simp; rfl)); intro gb417 hg w80 hbox hb; have n0_ := Aside0.mk (Kd.R_below (by (with_reducible repeat (first | apply Kd.R_alloc | apply Kd.R_drewN | apply Kd.R_drew)); exact HO_83.out) hb); have n1_ := Aside0.mk (blk_below (g := gb390) (o := .cells #[.bool true, .bool a0_1, .int .u64 a0_2, .int .i64 a0_3] 55 (0, 0)) (by (with_reducible repeat (first | refine blk_drewN ?_ _ | refine blk_drew ?_ | refine blk_alloc ?_ _)); exact BK390.out) hb); have n2_ := Aside0.mk (blk_below (g := gb391) (o := .cells #[.int .i64 a1_0, .int .i64 a1_1, .int .i64 a1_2, .int .i64 a1_3, .int .i64 a1_4] 23 (0, 0)) (by (with_reducible repeat (first | refine blk_drewN ?_ _ | refine blk_drew ?_ | refine blk_alloc ?_ _)); exact BK391.out) hb); have n3_ := Aside0.mk (blk_below (g := gb410) (o := .cells #[.bool t404, .bool t405, .int .u64 t406, .int .i64 t407] 55 (0, 0)) (by (with_reducible repeat (first | refine blk_drewN ?_ _ | refine blk_drew ?_ | refine blk_alloc ?_ _)); exact BK410.out) hb); have n4_ := Aside0.mk (below_step (by repeat (first | (with_reducible first | exact HB.out | apply below_alloc | apply pw_below_drewN | apply below_drew1 | refine below_set ?_ GE390.out | refine below_set ?_ GE391.out | refine below_set ?_ GE410.out) | exact HB.out)) hb); have n5_ := Aside0.mk (hbox); have n6_ := Aside0.mk ((by rw [hg]; exact (below_size (by repeat (first | (with_reducible first | exact HB.out | apply below_alloc | apply pw_below_drewN | apply below_drew1 | refine below_set ?_ GE390.out | refine below_set ?_ GE391.out | refine below_set ?_ GE410.out) | exact HB.out))) : w.heap.size ≤ gb417)); have n7_ := Aside0.mk ((by rw [hg]; exact (below_size (by repeat (first | (with_reducible first | exact HB.out | apply below_alloc | apply pw_below_drewN | apply below_drew1 | refine below_set ?_ GE390.out | refine below_set ?_ GE391.out | refine below_set ?_ GE410.out) | exact HB.out))) : w.heap.size ≤ gb417)); have n8_ := Aside0.mk ((by rw [hg]; exact Nat.ne_of_lt (blk_lt (g := gb390) (o := .cells #[.bool true, .bool a0_1, .int .u64 a0_2, .int .i64 a0_3] 55 (0, 0)) (by (with_reducible repeat (first | refine blk_drewN ?_ _ | refine blk_drew ?_ | refine blk_alloc ?_ _)); exact BK390.out)) : gb390 ≠ gb417)); have n9_ := Aside0.mk ((by rw [hg]; exact Nat.ne_of_gt (blk_lt (g := gb390) (o := .cells #[.bool true, .bool a0_1, .int .u64 a0_2, .int .i64 a0_3] 55 (0, 0)) (by (with_reducible repeat (first | refine blk_drewN ?_ _ | refine blk_drew ?_ | refine blk_alloc ?_ _)); exact BK390.out)) : gb417 ≠ gb390)); have n10_ := Aside0.mk ((by rw [hg]; exact Nat.ne_of_lt (blk_lt (g := gb391) (o := .cells #[.int .i64 a1_0, .int .i64 a1_1, .int .i64 a1_2, .int .i64 a1_3, .int .i64 a1_4] 23 (0, 0)) (by (with_reducible repeat (first | refine blk_drewN ?_ _ | refine blk_drew ?_ | refine blk_alloc ?_ _)); exact BK391.out)) : gb391 ≠ gb417)); have n11_ := Aside0.mk ((by rw [hg]; exact Nat.ne_of_gt (blk_lt (g := gb391) (o := .cells #[.int .i64 a1_0, .int .i64 a1_1, .int .i64 a1_2, .int .i64 a1_3, .int .i64 a1_4] 23 (0, 0)) (by (with_reducible repeat (first | refine blk_drewN ?_ _ | refine blk_drew ?_ | refine blk_alloc ?_ _)); exact BK391.out)) : gb417 ≠ gb391)); have n12_ := Aside0.mk ((by rw [hg]; exact Nat.ne_of_lt (blk_lt (g := gb410) (o := .cells #[.bool t404, .bool t405, .int .u64 t406, .int .i64 t407] 55 (0, 0)) (by (with_reducible repeat (first | refine blk_drewN ?_ _ | refine blk_drew ?_ | refine blk_alloc ?_ _)); exact BK410.out)) : gb410 ≠ gb417)); have n13_ := Aside0.mk ((by rw [hg]; exact Nat.ne_of_gt (blk_lt (g := gb410) (o := .cells #[.bool t404, .bool t405, .int .u64 t406, .int .i64 t407] 55 (0, 0)) (by (with_reducible repeat (first | refine blk_drewN ?_ _ | refine blk_drew ?_ | refine blk_alloc ?_ _)); exact BK410.out)) : gb417 ≠ gb410)); clear HO_83; clear BK390; clear BK391; clear BK410; clear HB; have HO_83 := n0_; have BK390 := n1_; have BK391 := n2_; have BK410 := n3_; have HB := n4_; have BK417 := n5_; have GW417 := n6_; have GE417 := n7_; have NB390_417 := n8_; have NB417_390 := n9_; have NB391_417 := n10_; have NB417_391 := n11_; have NB410_417 := n12_; have NB417_410 := n13_; clear n0_ n1_ n2_ n3_ n4_ n5_ n6_ n7_ n8_ n9_ n10_ n11_ n12_ n13_; clear hb hbox hg; have hnb81 := NB417_390.out; have hnc81 := NB390_417.out; have hnb82 := NB417_391.out; have hnc82 := NB391_417.out; have hnb83 := NB417_410.out; have hnc83 := NB410_417.out; have hcz84_0 : w80.cell? ⟨gb417, 0, none⟩ = some (.bool false) := (blk_cell BK417.out 0).trans rfl; have hcz84_1 : w80.cell? ⟨gb417, 1, none⟩ = some (.bool false) := (blk_cell BK417.out 1).trans rfl; have hcz84_2 : w80.cell? ⟨gb417, 2, none⟩ = some (.int .u64 0) := (blk_cell BK417.out 2).trans rfl; have hcz84_3 : w80.cell? ⟨gb417, 3, none⟩ = some (.int .i64 0) := (blk_cell BK417.out 3).trans rfl; have hfz84_0 := blk_frozen BK417.out 0; have hfz84_1 := blk_frozen BK417.out 1; have hfz84_2 := blk_frozen BK417.out 2; have hfz84_3 := blk_frozen BK417.out 3; have hcz85_0 : w80.cell? ⟨gb390, 0, none⟩ = some (.bool true) := (blk_cell BK390.out 0).trans rfl; have hcz85_1 : w80.cell? ⟨gb390, 1, none⟩ = some (.bool a0_1) := (blk_cell BK390.out 1).trans rfl; have hcz85_2 : w80.cell? ⟨gb390, 2, none⟩ = some (.int .u64 a0_2) := (blk_cell BK390.out 2).trans rfl; have hcz85_3 : w80.cell? ⟨gb390, 3, none⟩ = some (.int .i64 a0_3) := (blk_cell BK390.out 3).trans rfl; have hfz85_0 := blk_frozen BK390.out 0; have hfz85_1 := blk_frozen BK390.out 1; have hfz85_2 := blk_frozen BK390.out 2; have hfz85_3 := blk_frozen BK390.out 3))
                  go_roundg kj33
                  case measure => have := HJ9.out; have := HK2.out; have := HJ33.out; omega
                  case rel => exact ⟨(wrap64 (x85_2 + 1)), (by first | rfl | (simp; done) | (simp [*]; done)), H', ⟨by have := HJ9.out; have := HK2.out; have := HJ33.out; omega⟩, ⟨by (with_reducible repeat (first | apply Kd.R_alloc | apply Kd.R_drewN | apply Kd.R_drew)); exact Kd.R_mono (Kd.R_far (p := ⟨gb417, 3, none⟩) (Kd.R_far (p := ⟨gb417, 2, none⟩) (Kd.R_far (p := ⟨gb417, 1, none⟩) (Kd.R_far (p := ⟨gb417, 0, none⟩) (Kd.R_types HO_83.out BK417.out (by decide)) (fun _ hk => hk.2) (.bool t411)) (fun _ hk => hk.2) (.bool t412)) (fun _ hk => hk.2) (.int .u64 t413)) (fun _ hk => hk.2) (.int .i64 t414)) (fun _ hk => trivial)⟩, ⟨by (with_reducible repeat (first | refine blk_drewN ?_ _ | refine blk_drew ?_ | refine blk_alloc ?_ _)); refine blk_far ?_ NB390_417.out _; (with_reducible repeat (first | refine blk_drewN ?_ _ | refine blk_drew ?_ | refine blk_alloc ?_ _)); refine blk_far ?_ NB390_417.out _; (with_reducible repeat (first | refine blk_drewN ?_ _ | refine blk_drew ?_ | refine blk_alloc ?_ _)); refine blk_far ?_ NB390_417.out _; (with_reducible repeat (first | refine blk_drewN ?_ _ | refine blk_drew ?_ | refine blk_alloc ?_ _)); refine blk_far ?_ NB390_417.out _; (with_reducible repeat (first | refine blk_drewN ?_ _ | refine blk_drew ?_ | refine blk_alloc ?_ _)); exact BK390.out⟩, ⟨by (with_reducible repeat (first | refine blk_drewN ?_ _ | refine blk_drew ?_ | refine blk_alloc ?_ _)); refine blk_far ?_ NB391_417.out _; (with_reducible repeat (first | refine blk_drewN ?_ _ | refine blk_drew ?_ | refine blk_alloc ?_ _)); refine blk_far ?_ NB391_417.out _; (with_reducible repeat (first | refine blk_drewN ?_ _ | refine blk_drew ?_ | refine blk_alloc ?_ _)); refine blk_far ?_ NB391_417.out _; (with_reducible repeat (first | refine blk_drewN ?_ _ | refine blk_drew ?_ | refine blk_alloc ?_ _)); refine blk_far ?_ NB391_417.out _; (with_reducible repeat (first | refine blk_drewN ?_ _ | refine blk_drew ?_ | refine blk_alloc ?_ _)); exact BK391.out⟩, ⟨by repeat (first | (with_reducible first | exact HB.out | apply below_alloc | apply pw_below_drewN | apply below_drew1 | refine below_set ?_ GE390.out | refine below_set ?_ GE391.out | refine below_set ?_ GE410.out | refine below_set ?_ GE417.out) | exact HB.out)⟩⟩
                ·rw [if_neg c72] at H
                 have c72b0 : (t416 == 0) = false := beq_eq_false_iff_ne.mpr c72
                 have c72b1 : (t416 != 0) = true := bne_iff_ne.mpr c72
                 have H' := Aside0.mk H
                 clear H
                 have hnb86 := NB390_391.out
                 have hnc86 := NB391_390.out
                 have hnb87 := NB390_410.out
                 have hnc87 := NB410_390.out
                 have hcz88_0 : wc.cell? ⟨gb390, 0, none⟩ = some (.bool true) := (blk_cell BK390.out 0).trans rfl
                 have hcz88_1 : wc.cell? ⟨gb390, 1, none⟩ = some (.bool a0_1) := (blk_cell BK390.out 1).trans rfl
                 have hcz88_2 : wc.cell? ⟨gb390, 2, none⟩ = some (.int .u64 a0_2) := (blk_cell BK390.out 2).trans rfl
                 have hcz88_3 : wc.cell? ⟨gb390, 3, none⟩ = some (.int .i64 a0_3) := (blk_cell BK390.out 3).trans rfl
                 have hfz88_0 := blk_frozen BK390.out 0
                 have hfz88_1 := blk_frozen BK390.out 1
                 have hfz88_2 := blk_frozen BK390.out 2
                 have hfz88_3 := blk_frozen BK390.out 3
                 have hnb89 := NB391_410.out
                 have hnc89 := NB410_391.out
                 have hcz90_0 : wc.cell? ⟨gb391, 0, none⟩ = some (.int .i64 a1_0) := (blk_cell BK391.out 0).trans rfl
                 have hcz90_1 : wc.cell? ⟨gb391, 1, none⟩ = some (.int .i64 a1_1) := (blk_cell BK391.out 1).trans rfl
                 have hcz90_2 : wc.cell? ⟨gb391, 2, none⟩ = some (.int .i64 a1_2) := (blk_cell BK391.out 2).trans rfl
                 have hcz90_3 : wc.cell? ⟨gb391, 3, none⟩ = some (.int .i64 a1_3) := (blk_cell BK391.out 3).trans rfl
                 have hcz90_4 : wc.cell? ⟨gb391, 4, none⟩ = some (.int .i64 a1_4) := (blk_cell BK391.out 4).trans rfl
                 have hfz90_0 := blk_frozen BK391.out 0
                 have hfz90_1 := blk_frozen BK391.out 1
                 have hfz90_2 := blk_frozen BK391.out 2
                 have hfz90_3 := blk_frozen BK391.out 3
                 have hfz90_4 := blk_frozen BK391.out 4
                 go_wp2_with (first | ((with_reducible refine gate_callee (f := 27) rfl ?_); refine goesL_ (some 131) rfl rfl Try.func27 (by kernel_rfl) rfl #[.agg #[.bool true, .bool a0_1, .int .u64 a0_2, .int .i64 a0_3], .agg #[.int .i64 a1_0, .int .i64 a1_1, .int .i64 a1_2, .int .i64 a1_3, .int .i64 a1_4], .int .i64 a2, .int .i64 a4, .agg #[.int .i64 0, .int .i64 0, .int .u64 0, .int .u16 0], .int .i64 (rd y400 x85_2)] rfl (by (try simp only [List.map_toArray, List.map_cons, List.map_nil]); first | done | rfl | (simp only [List.length_drop, List.length_take]; rfl)) ?_; (with_reducible refine (guard_Pass.calls kj33 true a0_1 a0_2 a0_3 a1_0 a1_1 a1_2 a1_3 a1_4 a2 a4 0 0 0 0 (rd y400 x85_2) t411 t412 t413 t414 false t416 _ A58.out).mono ?_); rintro e w91 ⟨rfl, hb⟩; refine ⟨_, rfl, ?_⟩; have n0_ := Aside0.mk (Kd.R_below (by (with_reducible repeat (first | apply Kd.R_alloc | apply Kd.R_drewN | apply Kd.R_drew)); exact HO_83.out) hb); have n1_ := Aside0.mk (blk_below (g := gb390) (o := .cells #[.bool true, .bool a0_1, .int .u64 a0_2, .int .i64 a0_3] 55 (0, 0)) (by (with_reducible repeat (first | refine blk_drewN ?_ _ | refine blk_drew ?_ | refine blk_alloc ?_ _)); exact BK390.out) hb); have n2_ := Aside0.mk (blk_below (g := gb391) (o := .cells #[.int .i64 a1_0, .int .i64 a1_1, .int .i64 a1_2, .int .i64 a1_3, .int .i64 a1_4] 23 (0, 0)) (by (with_reducible repeat (first | refine blk_drewN ?_ _ | refine blk_drew ?_ | refine blk_alloc ?_ _)); exact BK391.out) hb); have n3_ := Aside0.mk (blk_below (g := gb410) (o := .cells #[.bool t404, .bool t405, .int .u64 t406, .int .i64 t407] 55 (0, 0)) (by (with_reducible repeat (first | refine blk_drewN ?_ _ | refine blk_drew ?_ | refine blk_alloc ?_ _)); exact BK410.out) hb); have n4_ := Aside0.mk (below_step (by repeat (first | (with_reducible first | exact HB.out | apply below_alloc | apply pw_below_drewN | apply below_drew1 | refine below_set ?_ GE390.out | refine below_set ?_ GE391.out | refine below_set ?_ GE410.out) | exact HB.out)) hb); clear HO_83; clear BK390; clear BK391; clear BK410; clear HB; have HO_83 := n0_; have BK390 := n1_; have BK391 := n2_; have BK410 := n3_; have HB := n4_; clear n0_ n1_ n2_ n3_ n4_; (try clear hb); (try clear hb2); (try clear hk); (try clear hi)) | ((with_reducible refine gate_dst (N := 22) rfl ?_); (try (refine gate_guard (by rfl) ?_; dsimp only)); refine box_event ?hg (N := 22) ?hd (cs := #[.bool false, .bool false, .int .u64 0, .int .i64 0]) (t := 55) ?hr ?_; (case hd => rfl); (case hg => rfl); (case hr => first | (go_simp; done) | (go_simp; rfl)); intro gb417 hg w92 hbox hb; have n0_ := Aside0.mk (Kd.R_below (by (with_reducible repeat (first | apply Kd.R_alloc | apply Kd.R_drewN | apply Kd.R_drew)); exact HO_83.out) hb); have n1_ := Aside0.mk (blk_below (g := gb390) (o := .cells #[.bool true, .bool a0_1, .int .u64 a0_2, .int .i64 a0_3] 55 (0, 0)) (by (with_reducible repeat (first | refine blk_drewN ?_ _ | refine blk_drew ?_ | refine blk_alloc ?_ _)); exact BK390.out) hb); have n2_ := Aside0.mk (blk_below (g := gb391) (o := .cells #[.int .i64 a1_0, .int .i64 a1_1, .int .i64 a1_2, .int .i64 a1_3, .int .i64 a1_4] 23 (0, 0)) (by (with_reducible repeat (first | refine blk_drewN ?_ _ | refine blk_drew ?_ | refine blk_alloc ?_ _)); exact BK391.out) hb); have n3_ := Aside0.mk (blk_below (g := gb410) (o := .cells #[.bool t404, .bool t405, .int .u64 t406, .int .i64 t407] 55 (0, 0)) (by (with_reducible repeat (first | refine blk_drewN ?_ _ | refine blk_drew ?_ | refine blk_alloc ?_ _)); exact BK410.out) hb); have n4_ := Aside0.mk (below_step (by repeat (first | (with_reducible first | exact HB.out | apply below_alloc | apply pw_below_drewN | apply below_drew1 | refine below_set ?_ GE390.out | refine below_set ?_ GE391.out | refine below_set ?_ GE410.out) | exact HB.out)) hb); have n5_ := Aside0.mk (hbox); have n6_ := Aside0.mk ((by rw [hg]; exact (below_size (by repeat (first | (with_reducible first | exact HB.out | apply below_alloc | apply pw_below_drewN | apply below_drew1 | refine below_set ?_ GE390.out | refine below_set ?_ GE391.out | refine below_set ?_ GE410.out) | exact HB.out))) : w.heap.size ≤ gb417)); have n7_ := Aside0.mk ((by rw [hg]; exact (below_size (by repeat (first | (with_reducible first | exact HB.out | apply below_alloc | apply pw_below_drewN | apply below_drew1 | refine below_set ?_ GE390.out | refine below_set ?_ GE391.out | refine below_set ?_ GE410.out) | exact HB.out))) : w.heap.size ≤ gb417)); have n8_ := Aside0.mk ((by rw [hg]; exact Nat.ne_of_lt (blk_lt (g := gb390) (o := .cells #[.bool true, .bool a0_1, .int .u64 a0_2, .int .i64 a0_3] 55 (0, 0)) (by (with_reducible repeat (first | refine blk_drewN ?_ _ | refine blk_drew ?_ | refine blk_alloc ?_ _)); exact BK390.out)) : gb390 ≠ gb417)); have n9_ := Aside0.mk ((by rw [hg]; exact Nat.ne_of_gt (blk_lt (g := gb390) (o := .cells #[.bool true, .bool a0_1, .int .u64 a0_2, .int .i64 a0_3] 55 (0, 0)) (by (with_reducible repeat (first | refine blk_drewN ?_ _ | refine blk_drew ?_ | refine blk_alloc ?_ _)); exact BK390.out)) : gb417 ≠ gb390)); have n10_ := Aside0.mk ((by rw [hg]; exact Nat.ne_of_lt (blk_lt (g := gb391) (o := .cells #[.int .i64 a1_0, .int .i64 a1_1, .int .i64 a1_2, .int .i64 a1_3, .int .i64 a1_4] 23 (0, 0)) (by (with_reducible repeat (first | refine blk_drewN ?_ _ | refine blk_drew ?_ | refine blk_alloc ?_ _)); exact BK391.out)) : gb391 ≠ gb417)); have n11_ := Aside0.mk ((by rw [hg]; exact Nat.ne_of_gt (blk_lt (g := gb391) (o := .cells #[.int .i64 a1_0, .int .i64 a1_1, .int .i64 a1_2, .int .i64 a1_3, .int .i64 a1_4] 23 (0, 0)) (by (with_reducible repeat (first | refine blk_drewN ?_ _ | refine blk_drew ?_ | refine blk_alloc ?_ _)); exact BK391.out)) : gb417 ≠ gb391)); have n12_ := Aside0.mk ((by rw [hg]; exact Nat.ne_of_lt (blk_lt (g := gb410) (o := .cells #[.bool t404, .bool t405, .int .u64 t406, .int .i64 t407] 55 (0, 0)) (by (with_reducible repeat (first | refine blk_drewN ?_ _ | refine blk_drew ?_ | refine blk_alloc ?_ _)); exact BK410.out)) : gb410 ≠ gb417)); have n13_ := Aside0.mk ((by rw [hg]; exact Nat.ne_of_gt (blk_lt (g := gb410) (o := .cells #[.bool t404, .bool t405, .int .u64 t406, .int .i64 t407] 55 (0, 0)) (by (with_reducible repeat (first | refine blk_drewN ?_ _ | refine blk_drew ?_ | refine blk_alloc ?_ _)); exact BK410.out)) : gb417 ≠ gb410)); clear HO_83; clear BK390; clear BK391; clear BK410; clear HB; have HO_83 := n0_; have BK390 := n1_; have BK391 := n2_; have BK410 := n3_; have HB := n4_; have BK417 := n5_; have GW417 := n6_; have GE417 := n7_; have NB390_417 := n8_; have NB417_390 := n9_; have NB391_417 := n10_; have NB417_391 := n11_; have NB410_417 := n12_; have NB417_410 := n13_; clear n0_ n1_ n2_ n3_ n4_ n5_ n6_ n7_ n8_ n9_ n10_ n11_ n12_ n13_; clear hb hbox hg; have hnb93 := NB417_390.out; have hnc93 := NB390_417.out; have hnb94 := NB417_391.out; have hnc94 := NB391_417.out; have hnb95 := NB417_410.out; have hnc95 := NB410_417.out; have hcz96_0 : w92.cell? ⟨gb417, 0, none⟩ = some (.bool false) := (blk_cell BK417.out 0).trans rfl; have hcz96_1 : w92.cell? ⟨gb417, 1, none⟩ = some (.bool false) := (blk_cell BK417.out 1).trans rfl; have hcz96_2 : w92.cell? ⟨gb417, 2, none⟩ = some (.int .u64 0) := (blk_cell BK417.out 2).trans rfl; have hcz96_3 : w92.cell? ⟨gb417, 3, none⟩ = some (.int .i64 0) := (blk_cell BK417.out 3).trans rfl; have hfz96_0 := blk_frozen BK417.out 0; have hfz96_1 := blk_frozen BK417.out 1; have hfz96_2 := blk_frozen BK417.out 2; have hfz96_3 := blk_frozen BK417.out 3))
                 go_roundg kj33
                 case measure => have := HJ9.out; have := HK2.out; have := HJ33.out; omega
                 case rel => exact ⟨(wrap64 (x85_2 + 1)), (by first | rfl | (simp; done) | (simp [*]; done)), H', ⟨by have := HJ9.out; have := HK2.out; have := HJ33.out; omega⟩, ⟨by (with_reducible repeat (first | apply Kd.R_alloc | apply Kd.R_drewN | apply Kd.R_drew)); exact Kd.R_mono (Kd.R_far (p := ⟨gb417, 3, none⟩) (Kd.R_far (p := ⟨gb417, 2, none⟩) (Kd.R_far (p := ⟨gb417, 1, none⟩) (Kd.R_far (p := ⟨gb417, 0, none⟩) (Kd.R_types HO_83.out BK417.out (by decide)) (fun _ hk => hk.2) (.bool t411)) (fun _ hk => hk.2) (.bool t412)) (fun _ hk => hk.2) (.int .u64 t413)) (fun _ hk => hk.2) (.int .i64 t414)) (fun _ hk => trivial)⟩, ⟨by (with_reducible repeat (first | refine blk_drewN ?_ _ | refine blk_drew ?_ | refine blk_alloc ?_ _)); refine blk_far ?_ NB390_417.out _; (with_reducible repeat (first | refine blk_drewN ?_ _ | refine blk_drew ?_ | refine blk_alloc ?_ _)); refine blk_far ?_ NB390_417.out _; (with_reducible repeat (first | refine blk_drewN ?_ _ | refine blk_drew ?_ | refine blk_alloc ?_ _)); refine blk_far ?_ NB390_417.out _; (with_reducible repeat (first | refine blk_drewN ?_ _ | refine blk_drew ?_ | refine blk_alloc ?_ _)); refine blk_far ?_ NB390_417.out _; (with_reducible repeat (first | refine blk_drewN ?_ _ | refine blk_drew ?_ | refine blk_alloc ?_ _)); exact BK390.out⟩, ⟨by (with_reducible repeat (first | refine blk_drewN ?_ _ | refine blk_drew ?_ | refine blk_alloc ?_ _)); refine blk_far ?_ NB391_417.out _; (with_reducible repeat (first | refine blk_drewN ?_ _ | refine blk_drew ?_ | refine blk_alloc ?_ _)); refine blk_far ?_ NB391_417.out _; (with_reducible repeat (first | refine blk_drewN ?_ _ | refine blk_drew ?_ | refine blk_alloc ?_ _)); refine blk_far ?_ NB391_417.out _; (with_reducible repeat (first | refine blk_drewN ?_ _ | refine blk_drew ?_ | refine blk_alloc ?_ _)); refine blk_far ?_ NB391_417.out _; (with_reducible repeat (first | refine blk_drewN ?_ _ | refine blk_drew ?_ | refine blk_alloc ?_ _)); exact BK391.out⟩, ⟨by repeat (first | (with_reducible first | exact HB.out | apply below_alloc | apply pw_below_drewN | apply below_drew1 | refine below_set ?_ GE390.out | refine below_set ?_ GE391.out | refine below_set ?_ GE410.out | refine below_set ?_ GE417.out) | exact HB.out)⟩⟩
          ·rw [if_neg c32] at H
           exact absurd H (by simp)
         ·rw [if_neg c31] at H
          exact absurd H (by simp)
        ·rw [if_neg c30] at H
         have c30b0 : decide (x85_2 < (y400.length : Int)) = false := decide_eq_false c30
         clear c30
         obtain ⟨y418, hy418⟩ : ∃ y_ : List Int, y_ = (([wrap64 (t393 - 1), wrap64 (t394 + 1)] : List Int)) := ⟨_, rfl⟩
         replace H : (palletlaw12_GuardOpens.l1 k2 a2 a3 true y418 (y418.length : Int) 0 true a0_1 a0_2 a0_3 a1_0 a1_1 a1_2 a1_3 a1_4) = some r := by first | (rw [hy418]; with_reducible exact H) | (have H2_ := (Option.bind_some _ _).symm.trans H; rw [hy418]; with_reducible exact H2_) | (have H2_ := (Option.bind_some _ _).symm.trans H; with_reducible exact H2_) | with_reducible exact H | (rw [hy418]; exact H) | exact H
         have Ny418 := Aside0.mk hy418
         clear hy418
         have H' := Aside0.mk H
         clear H
         go_wp2_with (first | ((with_reducible refine gate_dst (N := 155) rfl ?_); (try (refine gate_guard (by rfl) ?_; dsimp only)); refine Kd.R_lit (Kd.int .i64) _ 2 ?hg (N := 155) ?hd (xs := ([wrap64 (t393 - 1), wrap64 (t394 + 1)] : List Int)) (inner := [.int .i64 (wrap64 (t393 - 1)), .int .i64 (wrap64 (t394 + 1))]) (ok := fun _ => True) (okp := fun _ => True) ?hr ?hp (fun _ hk => hk) trivial (Below.refl _ _) (Nat.le_refl _) (by simp) ?_; (case hd => rfl); (case hg => rfl); (case hr => first | (go_simp; done) | (go_simp; rfl)); (case hp => exact (Reps.one (show Kd.M (Kd.int .i64) _ _ _ (wrap64 (t393 - 1)) [.int .i64 (wrap64 (t393 - 1))] from rfl) (Reps.one (show Kd.M (Kd.int .i64) _ _ _ (wrap64 (t394 + 1)) [.int .i64 (wrap64 (t394 + 1))] from rfl) (Reps.none _ _)))); intro v419 w97 ho98 hb hg_ hnew_; clear hg_ hnew_; (first | rw [← Ny418.out] at ho98 | (simp only [Int.reduceToNat] at ho98; rw [← Ny418.out] at ho98)); have n0_ := Aside0.mk (Kd.R_elder' (by (with_reducible repeat (first | apply Kd.R_alloc | apply Kd.R_drewN | apply Kd.R_drew)); exact HO_83.out) (Kd.R_base ho98) hb); have n1_ := Aside0.mk (Kd.R_lower (Kd.R_new' ho98 (Kd.R_lt (by (with_reducible repeat (first | apply Kd.R_alloc | apply Kd.R_drewN | apply Kd.R_drew)); exact HO_83.out))) (below_size (by repeat (first | (with_reducible first | exact HB.out | apply below_alloc | apply pw_below_drewN | apply below_drew1 | refine below_set ?_ GE390.out | refine below_set ?_ GE391.out) | exact HB.out)))); have n2_ := Aside0.mk (blk_below (g := gb390) (o := .cells #[.bool true, .bool a0_1, .int .u64 a0_2, .int .i64 a0_3] 55 (0, 0)) (by (with_reducible repeat (first | refine blk_drewN ?_ _ | refine blk_drew ?_ | refine blk_alloc ?_ _)); exact BK390.out) hb); have n3_ := Aside0.mk (blk_below (g := gb391) (o := .cells #[.int .i64 a1_0, .int .i64 a1_1, .int .i64 a1_2, .int .i64 a1_3, .int .i64 a1_4] 23 (0, 0)) (by (with_reducible repeat (first | refine blk_drewN ?_ _ | refine blk_drew ?_ | refine blk_alloc ?_ _)); exact BK391.out) hb); have n4_ := Aside0.mk (below_step (by repeat (first | (with_reducible first | exact HB.out | apply below_alloc | apply pw_below_drewN | apply below_drew1 | refine below_set ?_ GE390.out | refine below_set ?_ GE391.out) | exact HB.out)) hb); clear HO_83; clear BK390; clear BK391; clear HB; have HO_83 := n0_; have HO420 := n1_; have BK390 := n2_; have BK391 := n3_; have HB := n4_; clear n0_ n1_ n2_ n3_ n4_; clear hb ho98; obtain ⟨Ao99, co99, eo99⟩ := Kd.R_slice HO420.out; subst eo99))
         go_loopg [157] k2 (fun kq v157 w' => ∃ (x157_3 : Int), v157 = .int .i64 x157_3 ∧ Aside0 (palletlaw12_GuardOpens.l1 kq a2 a3 true y418 (y418.length : Int) x157_3 true a0_1 a0_2 a0_3 a1_0 a1_1 a1_2 a1_3 a1_4 = some r) ∧ Aside0 (kq ≤ k2) ∧ Aside0 (Kd.R (Kd.int .i64) 2 w' w.heap.size (fun _ => True) (.slice Ao99 y418.length co99) y418) ∧ Aside0 (w'.heap[gb390]? = some (.cells #[.bool true, .bool a0_1, .int .u64 a0_2, .int .i64 a0_3] 55 (0, 0))) ∧ Aside0 (w'.heap[gb391]? = some (.cells #[.int .i64 a1_0, .int .i64 a1_1, .int .i64 a1_2, .int .i64 a1_3, .int .i64 a1_4] 23 (0, 0))) ∧ Aside0 (Below w.heap.size w w'))
         case atStart => exact ⟨(0), (by first | rfl | (simp; done) | (simp [*]; done)), H', ⟨Nat.le_refl _⟩, ⟨by (with_reducible repeat (first | apply Kd.R_alloc | apply Kd.R_drewN | apply Kd.R_drew)); exact Kd.R_mono HO420.out (fun _ hk => trivial)⟩, ⟨by (with_reducible repeat (first | refine blk_drewN ?_ _ | refine blk_drew ?_ | refine blk_alloc ?_ _)); exact BK390.out⟩, ⟨by (with_reducible repeat (first | refine blk_drewN ?_ _ | refine blk_drew ?_ | refine blk_alloc ?_ _)); exact BK391.out⟩, ⟨by repeat (first | (with_reducible first | exact HB.out | apply below_alloc | apply pw_below_drewN | apply below_drew1 | refine below_set ?_ GE390.out | refine below_set ?_ GE391.out) | exact HB.out)⟩⟩
         case round =>
          clear H'
          try clear c1
          try clear c2
          try clear p2
          try clear c3
          try clear c4
          try clear p4
          try clear q4
          try clear hx4
          try clear c5
          try clear c6
          try clear p6
          try clear c7
          try clear c8
          try clear c9
          try clear c11
          try clear c14
          try clear c18
          try clear c18b0
          try clear c18b1
          try clear c19
          try clear c19b0
          try clear c20
          try clear c20b0
          try clear c21
          try clear c25
          try clear c26
          try clear c26b0
          try clear c26b1
          try clear c27
          try clear c29
          try clear c30
          try clear c30b0
          try clear c31
          try clear c31b0
          try clear c32
          try clear c32b0
          try clear c35
          try clear c40
          try clear p40
          try clear q40
          try clear hx40
          try clear c41
          try clear c43
          try clear c44
          try clear c44b0
          try clear c44b1
          try clear c45
          try clear c45b0
          try clear c46
          try clear c47
          try clear c49
          try clear c51
          try clear c52
          try clear c54
          try clear c57
          try clear c59
          try clear c59b0
          try clear c59b1
          try clear c60
          try clear c61
          try clear c63
          try clear p64
          try clear c67
          try clear c68
          try clear c69
          try clear c71
          try clear c72
          try clear c72b0
          try clear c72b1
          try clear c73
          try clear c73b0
          try clear c73b1
          try clear c74
          try clear c75
          try clear c77
          try clear c81
          try clear c82
          try clear c83
          try clear c86
          try clear c87
          try clear c89
          try clear c93
          try clear c94
          try clear c95
          try clear hcz15_0
          try clear hcz15_1
          try clear hcz15_2
          try clear hcz15_3
          try clear hcz16_0
          try clear hcz16_1
          try clear hcz16_2
          try clear hcz16_3
          try clear hcz16_4
          try clear hcz36_0
          try clear hcz36_1
          try clear hcz36_2
          try clear hcz36_3
          try clear hcz37_0
          try clear hcz37_1
          try clear hcz37_2
          try clear hcz37_3
          try clear hcz37_4
          try clear hcz42_0
          try clear hcz42_1
          try clear hcz42_2
          try clear hcz42_3
          try clear hcz48_0
          try clear hcz48_1
          try clear hcz48_2
          try clear hcz48_3
          try clear hcz50_0
          try clear hcz50_1
          try clear hcz50_2
          try clear hcz50_3
          try clear hcz53_0
          try clear hcz53_1
          try clear hcz53_2
          try clear hcz53_3
          try clear hcz55_0
          try clear hcz55_1
          try clear hcz55_2
          try clear hcz55_3
          try clear hcz56_0
          try clear hcz56_1
          try clear hcz56_2
          try clear hcz56_3
          try clear hcz56_4
          try clear hcz62_0
          try clear hcz62_1
          try clear hcz62_2
          try clear hcz62_3
          try clear hcz64_0
          try clear hcz64_1
          try clear hcz64_2
          try clear hcz64_3
          try clear hcz64_4
          try clear hcz70_0
          try clear hcz70_1
          try clear hcz70_2
          try clear hcz70_3
          try clear hcz76_0
          try clear hcz76_1
          try clear hcz76_2
          try clear hcz76_3
          try clear hcz78_0
          try clear hcz78_1
          try clear hcz78_2
          try clear hcz78_3
          try clear hcz78_4
          try clear hcz84_0
          try clear hcz84_1
          try clear hcz84_2
          try clear hcz84_3
          try clear hcz85_0
          try clear hcz85_1
          try clear hcz85_2
          try clear hcz85_3
          try clear hcz88_0
          try clear hcz88_1
          try clear hcz88_2
          try clear hcz88_3
          try clear hcz90_0
          try clear hcz90_1
          try clear hcz90_2
          try clear hcz90_3
          try clear hcz90_4
          try clear hcz96_0
          try clear hcz96_1
          try clear hcz96_2
          try clear hcz96_3
          try clear hfz15_0
          try clear hfz15_1
          try clear hfz15_2
          try clear hfz15_3
          try clear hfz16_0
          try clear hfz16_1
          try clear hfz16_2
          try clear hfz16_3
          try clear hfz16_4
          try clear hfz36_0
          try clear hfz36_1
          try clear hfz36_2
          try clear hfz36_3
          try clear hfz37_0
          try clear hfz37_1
          try clear hfz37_2
          try clear hfz37_3
          try clear hfz37_4
          try clear hfz42_0
          try clear hfz42_1
          try clear hfz42_2
          try clear hfz42_3
          try clear hfz48_0
          try clear hfz48_1
          try clear hfz48_2
          try clear hfz48_3
          try clear hfz50_0
          try clear hfz50_1
          try clear hfz50_2
          try clear hfz50_3
          try clear hfz53_0
          try clear hfz53_1
          try clear hfz53_2
          try clear hfz53_3
          try clear hfz55_0
          try clear hfz55_1
          try clear hfz55_2
          try clear hfz55_3
          try clear hfz56_0
          try clear hfz56_1
          try clear hfz56_2
          try clear hfz56_3
          try clear hfz56_4
          try clear hfz62_0
          try clear hfz62_1
          try clear hfz62_2
          try clear hfz62_3
          try clear hfz64_0
          try clear hfz64_1
          try clear hfz64_2
          try clear hfz64_3
          try clear hfz64_4
          try clear hfz70_0
          try clear hfz70_1
          try clear hfz70_2
          try clear hfz70_3
          try clear hfz76_0
          try clear hfz76_1
          try clear hfz76_2
          try clear hfz76_3
          try clear hfz78_0
          try clear hfz78_1
          try clear hfz78_2
          try clear hfz78_3
          try clear hfz78_4
          try clear hfz84_0
          try clear hfz84_1
          try clear hfz84_2
          try clear hfz84_3
          try clear hfz85_0
          try clear hfz85_1
          try clear hfz85_2
          try clear hfz85_3
          try clear hfz88_0
          try clear hfz88_1
          try clear hfz88_2
          try clear hfz88_3
          try clear hfz90_0
          try clear hfz90_1
          try clear hfz90_2
          try clear hfz90_3
          try clear hfz90_4
          try clear hfz96_0
          try clear hfz96_1
          try clear hfz96_2
          try clear hfz96_3
          try clear hx403_0
          try clear p2
          try clear p4
          try clear p40
          try clear p403
          try clear p6
          try clear q4
          try clear q40
          try clear q403
          obtain ⟨x157_3, rfl, HA, HK3, HO_155, BK390, BK391, HB⟩ := hrel
          cases gk with
          | zero => exact absurd HA.out (by simp [palletlaw12_GuardOpens.l1])
          | succ k3 =>
           have H := HA.out
           clear HA
           simp only [palletlaw12_GuardOpens.l1] at H
           by_cases c100 : x157_3 < (y418.length : Int)
           ·rw [if_pos c100] at H
            have c100b0 : decide (x157_3 < (y418.length : Int)) = true := decide_eq_true c100
            clear c100
            by_cases c101 : 0 ≤ x157_3
            ·rw [if_pos c101] at H
             have c101b0 : decide (0 ≤ x157_3) = true := decide_eq_true c101
             clear c101
             by_cases c102 : x157_3 < (y418.length : Int)
             ·rw [if_pos c102] at H
              have c102b0 : decide (x157_3 < (y418.length : Int)) = true := decide_eq_true c102
              clear c102
              replace H := Option.bind_eq_some_iff.mp H
              obtain ⟨⟨t422, t423, t424, t425, t426, t427⟩, A1030, H⟩ := H
              replace H : (if t426 = true then (some false) else (if t427 = 0 then (if (!(t422 == true) || (!(t423 == a0_1) || (!(t424 == a0_2) || (!(t425 == a0_3))))) = true then (some false) else (palletlaw12_GuardOpens.l1 k3 a2 a3 true y418 (y418.length : Int) (wrap64 (x157_3 + 1)) true a0_1 a0_2 a0_3 a1_0 a1_1 a1_2 a1_3 a1_4)) else (some false))) = some r := H
              have A103 := Aside0.mk A1030
              clear A1030
              by_cases c104 : t426 = true
              ·subst c104
               have H1 : (some false) = some r := by rw [if_pos rfl] at H; exact H
               clear H
               have H := H1
               clear H1
               obtain rfl := Option.some.inj H
               exact absurd hr_.out (by decide)
              ·replace c104 := Bool.eq_false_iff.mpr c104
               subst c104
               have H1 : (if t427 = 0 then (if (!(t422 == true) || (!(t423 == a0_1) || (!(t424 == a0_2) || (!(t425 == a0_3))))) = true then (some false) else (palletlaw12_GuardOpens.l1 k3 a2 a3 true y418 (y418.length : Int) (wrap64 (x157_3 + 1)) true a0_1 a0_2 a0_3 a1_0 a1_1 a1_2 a1_3 a1_4)) else (some false)) = some r := by rw [if_neg (show ¬ (false = true) by decide)] at H; exact H
               clear H
               have H := H1
               clear H1
               by_cases c105 : t427 = 0
               ·rw [if_pos c105] at H
                have c105b0 : (t427 == 0) = true := beq_iff_eq.mpr c105
                have c105b1 : (t427 != 0) = false := bne_eq_false_iff_eq.mpr c105
                clear c105
                by_cases c106 : (!(t422 == true) || (!(t423 == a0_1) || (!(t424 == a0_2) || (!(t425 == a0_3))))) = true
                ·rw [if_pos c106] at H
                 have c106b0 : (!(t422 == true) || (!(t423 == a0_1) || (!(t424 == a0_2) || (!(t425 == a0_3))))) = true := c106
                 have c106b1 : ((!t422 || (!(t423 == a0_1) || (!(t424 == a0_2) || (!(t425 == a0_3)))))) = true := by simpa using c106
                 clear c106
                 obtain rfl := Option.some.inj H
                 exact absurd hr_.out (by decide)
                ·rw [if_neg c106] at H
                 have c106b0 : (!(t422 == true) || (!(t423 == a0_1) || (!(t424 == a0_2) || (!(t425 == a0_3))))) = false := by simpa using c106
                 have c106b1 : ((!t422 || (!(t423 == a0_1) || (!(t424 == a0_2) || (!(t425 == a0_3)))))) = false := by simpa using c106
                 clear c106
                 have H' := Aside0.mk H
                 clear H
                 have p421 : 0 ≤ (x157_3 : Int) := of_decide_eq_true (by first | (with_reducible assumption) | assumption)
                 have q421 : x157_3 < (y418.length : Int) := of_decide_eq_true (by first | (with_reducible assumption) | assumption)
                 obtain ⟨ad421, e421, hx421_0⟩ := Kd.at_int (Kd.R_reads' HO_155.out).2.2 x157_3 p421 q421
                 cases e421
                 replace p421 := eq_true p421
                 replace q421 := eq_true q421
                 have hnb107 := NB390_391.out
                 have hnc107 := NB391_390.out
                 have hcz108_0 : wr.cell? ⟨gb390, 0, none⟩ = some (.bool true) := (blk_cell BK390.out 0).trans rfl
                 have hcz108_1 : wr.cell? ⟨gb390, 1, none⟩ = some (.bool a0_1) := (blk_cell BK390.out 1).trans rfl
                 have hcz108_2 : wr.cell? ⟨gb390, 2, none⟩ = some (.int .u64 a0_2) := (blk_cell BK390.out 2).trans rfl
                 have hcz108_3 : wr.cell? ⟨gb390, 3, none⟩ = some (.int .i64 a0_3) := (blk_cell BK390.out 3).trans rfl
                 have hfz108_0 := blk_frozen BK390.out 0
                 have hfz108_1 := blk_frozen BK390.out 1
                 have hfz108_2 := blk_frozen BK390.out 2
                 have hfz108_3 := blk_frozen BK390.out 3
                 have hcz109_0 : wr.cell? ⟨gb391, 0, none⟩ = some (.int .i64 a1_0) := (blk_cell BK391.out 0).trans rfl
                 have hcz109_1 : wr.cell? ⟨gb391, 1, none⟩ = some (.int .i64 a1_1) := (blk_cell BK391.out 1).trans rfl
                 have hcz109_2 : wr.cell? ⟨gb391, 2, none⟩ = some (.int .i64 a1_2) := (blk_cell BK391.out 2).trans rfl
                 have hcz109_3 : wr.cell? ⟨gb391, 3, none⟩ = some (.int .i64 a1_3) := (blk_cell BK391.out 3).trans rfl
                 have hcz109_4 : wr.cell? ⟨gb391, 4, none⟩ = some (.int .i64 a1_4) := (blk_cell BK391.out 4).trans rfl
                 have hfz109_0 := blk_frozen BK391.out 0
                 have hfz109_1 := blk_frozen BK391.out 1
                 have hfz109_2 := blk_frozen BK391.out 2
                 have hfz109_3 := blk_frozen BK391.out 3
                 have hfz109_4 := blk_frozen BK391.out 4
                 go_wp2_with (first | ((with_reducible refine gate_callee (f := 27) rfl ?_); refine goesL_ (some 168) rfl rfl Try.func27 (by kernel_rfl) rfl #[.agg #[.bool true, .bool a0_1, .int .u64 a0_2, .int .i64 a0_3], .agg #[.int .i64 a1_0, .int .i64 a1_1, .int .i64 a1_2, .int .i64 a1_3, .int .i64 a1_4], .int .i64 a2, .int .i64 a3, .agg #[.int .i64 0, .int .i64 0, .int .u64 0, .int .u16 0], .int .i64 (rd y418 x157_3)] rfl (by (try simp only [List.map_toArray, List.map_cons, List.map_nil]); first | done | rfl | (simp only [List.length_drop, List.length_take]; rfl)) ?_; (with_reducible refine (guard_Pass.calls k3 true a0_1 a0_2 a0_3 a1_0 a1_1 a1_2 a1_3 a1_4 a2 a3 0 0 0 0 (rd y418 x157_3) t422 t423 t424 t425 false t427 _ A103.out).mono ?_); rintro e w110 ⟨rfl, hb⟩; refine ⟨_, rfl, ?_⟩; have n0_ := Aside0.mk (Kd.R_below (by (with_reducible repeat (first | apply Kd.R_alloc | apply Kd.R_drewN | apply Kd.R_drew)); exact HO_155.out) hb); have n1_ := Aside0.mk (blk_below (g := gb390) (o := .cells #[.bool true, .bool a0_1, .int .u64 a0_2, .int .i64 a0_3] 55 (0, 0)) (by (with_reducible repeat (first | refine blk_drewN ?_ _ | refine blk_drew ?_ | refine blk_alloc ?_ _)); exact BK390.out) hb); have n2_ := Aside0.mk (blk_below (g := gb391) (o := .cells #[.int .i64 a1_0, .int .i64 a1_1, .int .i64 a1_2, .int .i64 a1_3, .int .i64 a1_4] 23 (0, 0)) (by (with_reducible repeat (first | refine blk_drewN ?_ _ | refine blk_drew ?_ | refine blk_alloc ?_ _)); exact BK391.out) hb); have n3_ := Aside0.mk (below_step (by repeat (first | (with_reducible first | exact HB.out | apply below_alloc | apply pw_below_drewN | apply below_drew1 | refine below_set ?_ GE390.out | refine below_set ?_ GE391.out) | exact HB.out)) hb); clear HO_155; clear BK390; clear BK391; clear HB; have HO_155 := n0_; have BK390 := n1_; have BK391 := n2_; have HB := n3_; clear n0_ n1_ n2_ n3_; (try clear hb); (try clear hb2); (try clear hk); (try clear hi)) | ((with_reducible refine gate_dst (N := 27) rfl ?_); (try (refine gate_guard (by rfl) ?_; dsimp only)); refine box_event ?hg (N := 27) ?hd (cs := #[.bool false, .bool false, .int .u64 0, .int .i64 0]) (t := 55) ?hr ?_; (case hd => rfl); (case hg => rfl); (case hr => first | (go_simp; done) | (go_simp; rfl)); intro gb428 hg w111 hbox hb; have n0_ := Aside0.mk (Kd.R_below (by (with_reducible repeat (first | apply Kd.R_alloc | apply Kd.R_drewN | apply Kd.R_drew)); exact HO_155.out) hb); have n1_ := Aside0.mk (blk_below (g := gb390) (o := .cells #[.bool true, .bool a0_1, .int .u64 a0_2, .int .i64 a0_3] 55 (0, 0)) (by (with_reducible repeat (first | refine blk_drewN ?_ _ | refine blk_drew ?_ | refine blk_alloc ?_ _)); exact BK390.out) hb); have n2_ := Aside0.mk (blk_below (g := gb391) (o := .cells #[.int .i64 a1_0, .int .i64 a1_1, .int .i64 a1_2, .int .i64 a1_3, .int .i64 a1_4] 23 (0, 0)) (by (with_reducible repeat (first | refine blk_drewN ?_ _ | refine blk_drew ?_ | refine blk_alloc ?_ _)); exact BK391.out) hb); have n3_ := Aside0.mk (below_step (by repeat (first | (with_reducible first | exact HB.out | apply below_alloc | apply pw_below_drewN | apply below_drew1 | refine below_set ?_ GE390.out | refine below_set ?_ GE391.out) | exact HB.out)) hb); have n4_ := Aside0.mk (hbox); have n5_ := Aside0.mk ((by rw [hg]; exact (below_size (by repeat (first | (with_reducible first | exact HB.out | apply below_alloc | apply pw_below_drewN | apply below_drew1 | refine below_set ?_ GE390.out | refine below_set ?_ GE391.out) | exact HB.out))) : w.heap.size ≤ gb428)); have n6_ := Aside0.mk ((by rw [hg]; exact (below_size (by repeat (first | (with_reducible first | exact HB.out | apply below_alloc | apply pw_below_drewN | apply below_drew1 | refine below_set ?_ GE390.out | refine below_set ?_ GE391.out) | exact HB.out))) : w.heap.size ≤ gb428)); have n7_ := Aside0.mk ((by rw [hg]; exact Nat.ne_of_lt (blk_lt (g := gb390) (o := .cells #[.bool true, .bool a0_1, .int .u64 a0_2, .int .i64 a0_3] 55 (0, 0)) (by (with_reducible repeat (first | refine blk_drewN ?_ _ | refine blk_drew ?_ | refine blk_alloc ?_ _)); exact BK390.out)) : gb390 ≠ gb428)); have n8_ := Aside0.mk ((by rw [hg]; exact Nat.ne_of_gt (blk_lt (g := gb390) (o := .cells #[.bool true, .bool a0_1, .int .u64 a0_2, .int .i64 a0_3] 55 (0, 0)) (by (with_reducible repeat (first | refine blk_drewN ?_ _ | refine blk_drew ?_ | refine blk_alloc ?_ _)); exact BK390.out)) : gb428 ≠ gb390)); have n9_ := Aside0.mk ((by rw [hg]; exact Nat.ne_of_lt (blk_lt (g := gb391) (o := .cells #[.int .i64 a1_0, .int .i64 a1_1, .int .i64 a1_2, .int .i64 a1_3, .int .i64 a1_4] 23 (0, 0)) (by (with_reducible repeat (first | refine blk_drewN ?_ _ | refine blk_drew ?_ | refine blk_alloc ?_ _)); exact BK391.out)) : gb391 ≠ gb428)); have n10_ := Aside0.mk ((by rw [hg]; exact Nat.ne_of_gt (blk_lt (g := gb391) (o := .cells #[.int .i64 a1_0, .int .i64 a1_1, .int .i64 a1_2, .int .i64 a1_3, .int .i64 a1_4] 23 (0, 0)) (by (with_reducible repeat (first | refine blk_drewN ?_ _ | refine blk_drew ?_ | refine blk_alloc ?_ _)); exact BK391.out)) : gb428 ≠ gb391)); clear HO_155; clear BK390; clear BK391; clear HB; have HO_155 := n0_; have BK390 := n1_; have BK391 := n2_; have HB := n3_; have BK428 := n4_; have GW428 := n5_; have GE428 := n6_; have NB390_428 := n7_; have NB428_390 := n8_; have NB391_428 := n9_; have NB428_391 := n10_; clear n0_ n1_ n2_ n3_ n4_ n5_ n6_ n7_ n8_ n9_ n10_; clear hb hbox hg; have hnb112 := NB428_390.out; have hnc112 := NB390_428.out; have hnb113 := NB428_391.out; have hnc113 := NB391_428.out; have hcz114_0 : w111.cell? ⟨gb428, 0, none⟩ = some (.bool false) := (blk_cell BK428.out 0).trans rfl; have hcz114_1 : w111.cell? ⟨gb428, 1, none⟩ = some (.bool false) := (blk_cell BK428.out 1).trans rfl; have hcz114_2 : w111.cell? ⟨gb428, 2, none⟩ = some (.int .u64 0) := (blk_cell BK428.out 2).trans rfl; have hcz114_3 : w111.cell? ⟨gb428, 3, none⟩ = some (.int .i64 0) := (blk_cell BK428.out 3).trans rfl; have hfz114_0 := blk_frozen BK428.out 0; have hfz114_1 := blk_frozen BK428.out 1; have hfz114_2 := blk_frozen BK428.out 2; have hfz114_3 := blk_frozen BK428.out 3; have hcz115_0 : w111.cell? ⟨gb390, 0, none⟩ = some (.bool true) := (blk_cell BK390.out 0).trans rfl; have hcz115_1 : w111.cell? ⟨gb390, 1, none⟩ = some (.bool a0_1) := (blk_cell BK390.out 1).trans rfl; have hcz115_2 : w111.cell? ⟨gb390, 2, none⟩ = some (.int .u64 a0_2) := (blk_cell BK390.out 2).trans rfl; have hcz115_3 : w111.cell? ⟨gb390, 3, none⟩ = some (.int .i64 a0_3) := (blk_cell BK390.out 3).trans rfl; have hfz115_0 := blk_frozen BK390.out 0; have hfz115_1 := blk_frozen BK390.out 1; have hfz115_2 := blk_frozen BK390.out 2; have hfz115_3 := blk_frozen BK390.out 3))
                 go_roundg k3
                 case measure => have := HJ9.out; have := HK2.out; have := HK3.out; omega
                 case rel => exact ⟨(wrap64 (x157_3 + 1)), (by first | rfl | (simp; done) | (simp [*]; done)), H', ⟨by have := HJ9.out; have := HK2.out; have := HK3.out; omega⟩, ⟨by (with_reducible repeat (first | apply Kd.R_alloc | apply Kd.R_drewN | apply Kd.R_drew)); exact Kd.R_mono (Kd.R_far (p := ⟨gb428, 3, none⟩) (Kd.R_far (p := ⟨gb428, 2, none⟩) (Kd.R_far (p := ⟨gb428, 1, none⟩) (Kd.R_far (p := ⟨gb428, 0, none⟩) (Kd.R_types HO_155.out BK428.out (by decide)) (fun _ hk => hk.2) (.bool t422)) (fun _ hk => hk.2) (.bool t423)) (fun _ hk => hk.2) (.int .u64 t424)) (fun _ hk => hk.2) (.int .i64 t425)) (fun _ hk => trivial)⟩, ⟨by (with_reducible repeat (first | refine blk_drewN ?_ _ | refine blk_drew ?_ | refine blk_alloc ?_ _)); refine blk_far ?_ NB390_428.out _; (with_reducible repeat (first | refine blk_drewN ?_ _ | refine blk_drew ?_ | refine blk_alloc ?_ _)); refine blk_far ?_ NB390_428.out _; (with_reducible repeat (first | refine blk_drewN ?_ _ | refine blk_drew ?_ | refine blk_alloc ?_ _)); refine blk_far ?_ NB390_428.out _; (with_reducible repeat (first | refine blk_drewN ?_ _ | refine blk_drew ?_ | refine blk_alloc ?_ _)); refine blk_far ?_ NB390_428.out _; (with_reducible repeat (first | refine blk_drewN ?_ _ | refine blk_drew ?_ | refine blk_alloc ?_ _)); exact BK390.out⟩, ⟨by (with_reducible repeat (first | refine blk_drewN ?_ _ | refine blk_drew ?_ | refine blk_alloc ?_ _)); refine blk_far ?_ NB391_428.out _; (with_reducible repeat (first | refine blk_drewN ?_ _ | refine blk_drew ?_ | refine blk_alloc ?_ _)); refine blk_far ?_ NB391_428.out _; (with_reducible repeat (first | refine blk_drewN ?_ _ | refine blk_drew ?_ | refine blk_alloc ?_ _)); refine blk_far ?_ NB391_428.out _; (with_reducible repeat (first | refine blk_drewN ?_ _ | refine blk_drew ?_ | refine blk_alloc ?_ _)); refine blk_far ?_ NB391_428.out _; (with_reducible repeat (first | refine blk_drewN ?_ _ | refine blk_drew ?_ | refine blk_alloc ?_ _)); exact BK391.out⟩, ⟨by repeat (first | (with_reducible first | exact HB.out | apply below_alloc | apply pw_below_drewN | apply below_drew1 | refine below_set ?_ GE390.out | refine below_set ?_ GE391.out | refine below_set ?_ GE428.out) | exact HB.out)⟩⟩
               ·rw [if_neg c105] at H
                have c105b0 : (t427 == 0) = false := beq_eq_false_iff_ne.mpr c105
                have c105b1 : (t427 != 0) = true := bne_iff_ne.mpr c105
                obtain rfl := Option.some.inj H
                exact absurd hr_.out (by decide)
             ·rw [if_neg c102] at H
              exact absurd H (by simp)
            ·rw [if_neg c101] at H
             exact absurd H (by simp)
           ·rw [if_neg c100] at H
            have c100b0 : decide (x157_3 < (y418.length : Int)) = false := decide_eq_false c100
            clear c100
            obtain rfl := Option.some.inj H
            go_wp2
            go_ret
            exact ⟨by first | rfl | (simp [errW_none, errW_some] <;> rfl) | (simp [*, errW_none, errW_some] <;> rfl), by repeat (first | (with_reducible first | exact HB.out | apply below_alloc | apply pw_below_drewN | apply below_drew1 | refine below_set ?_ GE390.out | refine below_set ?_ GE391.out) | exact HB.out)⟩
 ·replace c8 := Bool.eq_false_iff.mpr c8
  subst c8
  have H1 : (some false) = some r := by rw [if_neg (show ¬ (false = true) by decide)] at H; exact H
  clear H
  have H := H1
  clear H1
  obtain rfl := Option.some.inj H
  exact absurd hr_.out (by decide)

end Go.Proofs.Ytpfkiljakiiieaa.Print
