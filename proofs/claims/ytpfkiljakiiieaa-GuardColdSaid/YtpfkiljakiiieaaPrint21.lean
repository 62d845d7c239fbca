-- PRINTED by print.py (a twelfth state) out of the translation. Not trusted: Lean checks it.
import Derived.Test.YtpfkiljakiiieaaPrint0
import Derived.Test.YtpfkiljakiiieaaPrint1
import Derived.Test.YtpfkiljakiiieaaPrint2
import Derived.Test.YtpfkiljakiiieaaPrint3
import Derived.Test.YtpfkiljakiiieaaPrint12
import Derived.Test.YtpfkiljakiiieaaPrint18
import Derived.Test.YtpfkiljakiiieaaPrint20
namespace Go.Proofs.Ytpfkiljakiiieaa.Print
open Go.RowKit Go.Proofs.YtpfkiljakiiieaaW.PrintWords Go.Proofs.YtpfkiljakiiieaaW.PrintLast Go.Proofs.YtpfkiljakiiieaaW.PrintMore Go.Proofs.YtpfkiljakiiieaaX
attribute [local go_sem] max2_int min2_int max_two min_two max_three min_three max_four min_four   -- for this text's walks alone
set_option linter.unusedVariables false
set_option linter.unusedSimpArgs false

attribute [local go_sem high] eqA55
/-! ### palletlaw12_GuardCold: function 9 -/
mutual
def palletlaw12_GuardCold.j0 : Nat → Int → Int → Int → Bool → Bool → Int → Int → Int → Int → Int → Int → Int → Int → Int → Option (Bool)
 | 0, _, _, _, _, _, _, _, _, _, _, _, _, _, _ => none
 | k + 1, x1, x2, x4, x11, x56, x321000, x321001, x321002, x321003, x321004, x322000, x322001, x322002, x322003 => if x56 = true then (some x11) else ((guard_Pass.f k false false 0 0 x321000 x321001 x321002 x321003 x321004 x1 x2 x322000 x322001 x322002 x322003 x4).bind fun bt328 => (if bt328.2.2.2.2.1 = true then (if bt328.2.2.2.2.2 = 0 then (palletlaw12_GuardCold.j1 k x1 x2 x4 x11 (bt328.1 || (bt328.2.1 || (!(bt328.2.2.1 == 0) || (!(bt328.2.2.2.1 == 0))))) x321000 x321001 x321002 x321003 x321004 x322000 x322001 x322002 x322003) else (palletlaw12_GuardCold.j1 k x1 x2 x4 x11 true x321000 x321001 x321002 x321003 x321004 x322000 x322001 x322002 x322003)) else (palletlaw12_GuardCold.j1 k x1 x2 x4 x11 true x321000 x321001 x321002 x321003 x321004 x322000 x322001 x322002 x322003)))
def palletlaw12_GuardCold.j1 : Nat → Int → Int → Int → Bool → Bool → Int → Int → Int → Int → Int → Int → Int → Int → Int → Option (Bool)
 | 0, _, _, _, _, _, _, _, _, _, _, _, _, _, _ => none
 | k + 1, x1, x2, x4, x11, x79, x321000, x321001, x321002, x321003, x321004, x322000, x322001, x322002, x322003 => if x79 = true then (some false) else ((guard_Pass.f k true false 0 0 x321000 x321001 x321002 x321003 x321004 x1 x2 x322000 x322001 x322002 x322003 x4).bind fun bt335 => ((medl_Owner.f x321000 x321001 x321002 x321003 x321004 x322002).bind fun bt342 => (if bt335.2.2.2.2.2 = 0 then (if x322000 = 2 then (if x322001 = x2 then (if bt342.2 = 0 then (palletlaw12_GuardCold.j2 k x1 x2 x4 x11 bt335.2.2.2.2.1 (bt335.2.2.2.2.1 != (bt342.1 == x2)) x321000 x321001 x321002 x321003 x321004 x322000 x322001 x322002 x322003 bt335.1 bt335.2.1 bt335.2.2.1 bt335.2.2.2.1) else (palletlaw12_GuardCold.j2 k x1 x2 x4 x11 bt335.2.2.2.2.1 (bt335.2.2.2.2.1 != false) x321000 x321001 x321002 x321003 x321004 x322000 x322001 x322002 x322003 bt335.1 bt335.2.1 bt335.2.2.1 bt335.2.2.2.1)) else (palletlaw12_GuardCold.j2 k x1 x2 x4 x11 bt335.2.2.2.2.1 (bt335.2.2.2.2.1 != false) x321000 x321001 x321002 x321003 x321004 x322000 x322001 x322002 x322003 bt335.1 bt335.2.1 bt335.2.2.1 bt335.2.2.2.1)) else (palletlaw12_GuardCold.j2 k x1 x2 x4 x11 bt335.2.2.2.2.1 (bt335.2.2.2.2.1 != false) x321000 x321001 x321002 x321003 x321004 x322000 x322001 x322002 x322003 bt335.1 bt335.2.1 bt335.2.2.1 bt335.2.2.2.1)) else (palletlaw12_GuardCold.j2 k x1 x2 x4 x11 bt335.2.2.2.2.1 true x321000 x321001 x321002 x321003 x321004 x322000 x322001 x322002 x322003 bt335.1 bt335.2.1 bt335.2.2.1 bt335.2.2.2.1))))
def palletlaw12_GuardCold.j2 : Nat → Int → Int → Int → Bool → Bool → Bool → Int → Int → Int → Int → Int → Int → Int → Int → Int → Bool → Bool → Int → Int → Option (Bool)
 | 0, _, _, _, _, _, _, _, _, _, _, _, _, _, _, _, _, _, _, _ => none
 | k + 1, x1, x2, x4, x11, x16, x121, x321000, x321001, x321002, x321003, x321004, x322000, x322001, x322002, x322003, x342000, x342001, x342002, x342003 => if x121 = true then (some false) else (if x16 = true then ((guard_Pass.f k x342000 x342001 x342002 x342003 x321000 x321001 x321002 x321003 x321004 x1 x2 0 0 0 0 x4).bind fun bt344 => (if x11 = true then (if x342001 = true then (if x342002 = x322002 then (if bt344.2.2.2.2.1 = true then (if bt344.2.2.2.2.2 = 0 then (if (bt344.1 == x342000 && (bt344.2.1 == x342001 && (bt344.2.2.1 == x342002 && (bt344.2.2.2.1 == x342003)))) = true then ((guard_Check.f k x342000 x342001 x342002 x342003).bind fun t351 => (some (t351 == 0))) else (some false)) else (some false)) else (some false)) else (some false)) else (some false)) else (some false))) else (if x11 = true then (some (x342000 && (!x342001 && (x342002 == 0 && (x342003 == 0))))) else (some false)))
end
def palletlaw12_GuardCold.f (k : Nat) (a0_0 : Int) (a0_1 : Int) (a0_2 : Int) (a0_3 : Int) (a0_4 : Int) (a1 : Int) (a2 : Int) (a3_0 : Int) (a3_1 : Int) (a3_2 : Int) (a3_3 : Int) (a4 : Int) : Option (Bool) := (palletlaw12_live.f k).bind fun t322 => (if t322 = true then ((medl_Check.f a0_0 a0_1 a0_2 a0_3 a0_4).bind fun t323 => (if t323 = 0 then (if a1 < 1 then (palletlaw12_GuardCold.j0 k a1 a2 a4 t322 true a0_0 a0_1 a0_2 a0_3 a0_4 a3_0 a3_1 a3_2 a3_3) else (if a1 > 1000000000 then (palletlaw12_GuardCold.j0 k a1 a2 a4 t322 true a0_0 a0_1 a0_2 a0_3 a0_4 a3_0 a3_1 a3_2 a3_3) else (if a2 < 0 then (palletlaw12_GuardCold.j0 k a1 a2 a4 t322 true a0_0 a0_1 a0_2 a0_3 a0_4 a3_0 a3_1 a3_2 a3_3) else (if a2 ≥ a0_0 then (palletlaw12_GuardCold.j0 k a1 a2 a4 t322 true a0_0 a0_1 a0_2 a0_3 a0_4 a3_0 a3_1 a3_2 a3_3) else (if a4 < 0 then (palletlaw12_GuardCold.j0 k a1 a2 a4 t322 true a0_0 a0_1 a0_2 a0_3 a0_4 a3_0 a3_1 a3_2 a3_3) else ((palletref01_May.f k (([a4] : List Int))).bind fun t327 => (palletlaw12_GuardCold.j0 k a1 a2 a4 t322 (!t327) a0_0 a0_1 a0_2 a0_3 a0_4 a3_0 a3_1 a3_2 a3_3))))))) else (palletlaw12_GuardCold.j0 k a1 a2 a4 t322 true a0_0 a0_1 a0_2 a0_3 a0_4 a3_0 a3_1 a3_2 a3_3))) else (some false))
theorem palletlaw12_GuardCold.mono_l : ∀ k, (∀ y0 y1 y2 y3 y4 y5 y6 y7 y8 y9 y10 y11 y12 y13, LeO (palletlaw12_GuardCold.j0 k y0 y1 y2 y3 y4 y5 y6 y7 y8 y9 y10 y11 y12 y13) (palletlaw12_GuardCold.j0 (k + 1) y0 y1 y2 y3 y4 y5 y6 y7 y8 y9 y10 y11 y12 y13)) ∧ (∀ y0 y1 y2 y3 y4 y5 y6 y7 y8 y9 y10 y11 y12 y13, LeO (palletlaw12_GuardCold.j1 k y0 y1 y2 y3 y4 y5 y6 y7 y8 y9 y10 y11 y12 y13) (palletlaw12_GuardCold.j1 (k + 1) y0 y1 y2 y3 y4 y5 y6 y7 y8 y9 y10 y11 y12 y13)) ∧ (∀ y0 y1 y2 y3 y4 y5 y6 y7 y8 y9 y10 y11 y12 y13 y14 y15 y16 y17 y18, LeO (palletlaw12_GuardCold.j2 k y0 y1 y2 y3 y4 y5 y6 y7 y8 y9 y10 y11 y12 y13 y14 y15 y16 y17 y18) (palletlaw12_GuardCold.j2 (k + 1) y0 y1 y2 y3 y4 y5 y6 y7 y8 y9 y10 y11 y12 y13 y14 y15 y16 y17 y18))
 | 0 => ⟨fun _ _ _ _ _ _ _ _ _ _ _ _ _ _ r h => by simp [palletlaw12_GuardCold.j0] at h, fun _ _ _ _ _ _ _ _ _ _ _ _ _ _ r h => by simp [palletlaw12_GuardCold.j1] at h, fun _ _ _ _ _ _ _ _ _ _ _ _ _ _ _ _ _ _ _ r h => by simp [palletlaw12_GuardCold.j2] at h⟩
 | k + 1 => by
  obtain ⟨ih0, ih1, ih2⟩ := palletlaw12_GuardCold.mono_l k
  refine ⟨?_, ?_, ?_⟩
  ·intro y0 y1 y2 y3 y4 y5 y6 y7 y8 y9 y10 y11 y12 y13
   unfold palletlaw12_GuardCold.j0
   repeat' first
   | (with_reducible exact ih0 _ _ _ _ _ _ _ _ _ _ _ _ _ _)
   | (with_reducible exact ih1 _ _ _ _ _ _ _ _ _ _ _ _ _ _)
   | (with_reducible exact ih2 _ _ _ _ _ _ _ _ _ _ _ _ _ _ _ _ _ _ _)
   | (with_reducible exact guard_Check.mono _ _ _ _ _)
   | (with_reducible exact guard_Pass.mono _ _ _ _ _ _ _ _ _ _ _ _ _ _ _ _ _)
   | (with_reducible exact palletlaw12_live.mono _)
   | (with_reducible exact palletref01_May.mono _ _)
   | (with_reducible exact LeO.refl _)
   | (with_reducible exact LeO.none _)
   | (with_reducible refine LeO.ite ?_ ?_)
   | (with_reducible refine LeO.bind ?_ (fun _ => ?_))
   | exact ih0 _ _ _ _ _ _ _ _ _ _ _ _ _ _
   | exact ih1 _ _ _ _ _ _ _ _ _ _ _ _ _ _
   | exact ih2 _ _ _ _ _ _ _ _ _ _ _ _ _ _ _ _ _ _ _
   | exact guard_Check.mono _ _ _ _ _
   | exact guard_Pass.mono _ _ _ _ _ _ _ _ _ _ _ _ _ _ _ _ _
   | exact palletlaw12_live.mono _
   | exact palletref01_May.mono _ _
   | exact LeO.none _
   | refine LeO.ite ?_ ?_
   | refine LeO.bind ?_ (fun _ => ?_)
  ·intro y0 y1 y2 y3 y4 y5 y6 y7 y8 y9 y10 y11 y12 y13
   unfold palletlaw12_GuardCold.j1
   repeat' first
   | (with_reducible exact ih0 _ _ _ _ _ _ _ _ _ _ _ _ _ _)
   | (with_reducible exact ih1 _ _ _ _ _ _ _ _ _ _ _ _ _ _)
   | (with_reducible exact ih2 _ _ _ _ _ _ _ _ _ _ _ _ _ _ _ _ _ _ _)
   | (with_reducible exact guard_Check.mono _ _ _ _ _)
   | (with_reducible exact guard_Pass.mono _ _ _ _ _ _ _ _ _ _ _ _ _ _ _ _ _)
   | (with_reducible exact palletlaw12_live.mono _)
   | (with_reducible exact palletref01_May.mono _ _)
   | (with_reducible exact LeO.refl _)
   | (with_reducible exact LeO.none _)
   | (with_reducible refine LeO.ite ?_ ?_)
   | (with_reducible refine LeO.bind ?_ (fun _ => ?_))
   | exact ih0 _ _ _ _ _ _ _ _ _ _ _ _ _ _
   | exact ih1 _ _ _ _ _ _ _ _ _ _ _ _ _ _
   | exact ih2 _ _ _ _ _ _ _ _ _ _ _ _ _ _ _ _ _ _ _
   | exact guard_Check.mono _ _ _ _ _
   | exact guard_Pass.mono _ _ _ _ _ _ _ _ _ _ _ _ _ _ _ _ _
   | exact palletlaw12_live.mono _
   | exact palletref01_May.mono _ _
   | exact LeO.none _
   | refine LeO.ite ?_ ?_
   | refine LeO.bind ?_ (fun _ => ?_)
  ·intro y0 y1 y2 y3 y4 y5 y6 y7 y8 y9 y10 y11 y12 y13 y14 y15 y16 y17 y18
   unfold palletlaw12_GuardCold.j2
   repeat' first
   | (with_reducible exact ih0 _ _ _ _ _ _ _ _ _ _ _ _ _ _)
   | (with_reducible exact ih1 _ _ _ _ _ _ _ _ _ _ _ _ _ _)
   | (with_reducible exact ih2 _ _ _ _ _ _ _ _ _ _ _ _ _ _ _ _ _ _ _)
   | (with_reducible exact guard_Check.mono _ _ _ _ _)
   | (with_reducible exact guard_Pass.mono _ _ _ _ _ _ _ _ _ _ _ _ _ _ _ _ _)
   | (with_reducible exact palletlaw12_live.mono _)
   | (with_reducible exact palletref01_May.mono _ _)
   | (with_reducible exact LeO.refl _)
   | (with_reducible exact LeO.none _)
   | (with_reducible refine LeO.ite ?_ ?_)
   | (with_reducible refine LeO.bind ?_ (fun _ => ?_))
   | exact ih0 _ _ _ _ _ _ _ _ _ _ _ _ _ _
   | exact ih1 _ _ _ _ _ _ _ _ _ _ _ _ _ _
   | exact ih2 _ _ _ _ _ _ _ _ _ _ _ _ _ _ _ _ _ _ _
   | exact guard_Check.mono _ _ _ _ _
   | exact guard_Pass.mono _ _ _ _ _ _ _ _ _ _ _ _ _ _ _ _ _
   | exact palletlaw12_live.mono _
   | exact palletref01_May.mono _ _
   | exact LeO.none _
   | refine LeO.ite ?_ ?_
   | refine LeO.bind ?_ (fun _ => ?_)
theorem palletlaw12_GuardCold.mono : ∀ a0 a1 a2 a3 a4 a5 a6 a7 a8 a9 a10 a11 k, LeO (palletlaw12_GuardCold.f k a0 a1 a2 a3 a4 a5 a6 a7 a8 a9 a10 a11) (palletlaw12_GuardCold.f (k + 1) a0 a1 a2 a3 a4 a5 a6 a7 a8 a9 a10 a11) := by
 intro a0 a1 a2 a3 a4 a5 a6 a7 a8 a9 a10 a11 k
 obtain ⟨ih0, ih1, ih2⟩ := palletlaw12_GuardCold.mono_l k
 unfold palletlaw12_GuardCold.f
 repeat' first
   | (with_reducible exact ih0 _ _ _ _ _ _ _ _ _ _ _ _ _ _)
   | (with_reducible exact ih1 _ _ _ _ _ _ _ _ _ _ _ _ _ _)
   | (with_reducible exact ih2 _ _ _ _ _ _ _ _ _ _ _ _ _ _ _ _ _ _ _)
   | (with_reducible exact guard_Check.mono _ _ _ _ _)
   | (with_reducible exact guard_Pass.mono _ _ _ _ _ _ _ _ _ _ _ _ _ _ _ _ _)
   | (with_reducible exact palletlaw12_live.mono _)
   | (with_reducible exact palletref01_May.mono _ _)
   | (with_reducible exact LeO.refl _)
   | (with_reducible exact LeO.none _)
   | (with_reducible refine LeO.ite ?_ ?_)
   | (with_reducible refine LeO.bind ?_ (fun _ => ?_))
   | exact ih0 _ _ _ _ _ _ _ _ _ _ _ _ _ _
   | exact ih1 _ _ _ _ _ _ _ _ _ _ _ _ _ _
   | exact ih2 _ _ _ _ _ _ _ _ _ _ _ _ _ _ _ _ _ _ _
   | exact guard_Check.mono _ _ _ _ _
   | exact guard_Pass.mono _ _ _ _ _ _ _ _ _ _ _ _ _ _ _ _ _
   | exact palletlaw12_live.mono _
   | exact palletref01_May.mono _ _
   | exact LeO.none _
   | refine LeO.ite ?_ ?_
   | refine LeO.bind ?_ (fun _ => ?_)
set_option maxHeartbeats 8000000 in
set_option maxRecDepth 100000 in
theorem palletlaw12_GuardCold.calls (k : Nat) (a0_0 : Int) (a0_1 : Int) (a0_2 : Int) (a0_3 : Int) (a0_4 : Int) (a1 : Int) (a2 : Int) (a3_0 : Int) (a3_1 : Int) (a3_2 : Int) (a3_3 : Int) (a4 : Int) (r : Bool) (w : World) (hr_ : Aside0 (r = true)) (h : palletlaw12_GuardCold.f k a0_0 a0_1 a0_2 a0_3 a0_4 a1 a2 a3_0 a3_1 a3_2 a3_3 a4 = some r) :
  Calls Try.prog 9 #[.agg #[.int .i64 a0_0, .int .i64 a0_1, .int .i64 a0_2, .int .i64 a0_3, .int .i64 a0_4], .int .i64 a1, .int .i64 a2, .agg #[.int .i64 a3_0, .int .i64 a3_1, .int .u64 a3_2, .int .u16 a3_3], .int .i64 a4] w fun e w' => e = .returned (.bool r) ∧ Below w.heap.size w w' := by
 have hu23 := Try.underlying23
 have hu52 := Try.underlying52
 have hu55 := Try.underlying55
 have HB := Aside0.mk (Below.refl w.heap.size w)
 have H : ((palletlaw12_live.f k).bind fun t322 => (if t322 = true then ((medl_Check.f a0_0 a0_1 a0_2 a0_3 a0_4).bind fun t323 => (if t323 = 0 then (if a1 < 1 then (palletlaw12_GuardCold.j0 k a1 a2 a4 t322 true a0_0 a0_1 a0_2 a0_3 a0_4 a3_0 a3_1 a3_2 a3_3) else (if a1 > 1000000000 then (palletlaw12_GuardCold.j0 k a1 a2 a4 t322 true a0_0 a0_1 a0_2 a0_3 a0_4 a3_0 a3_1 a3_2 a3_3) else (if a2 < 0 then (palletlaw12_GuardCold.j0 k a1 a2 a4 t322 true a0_0 a0_1 a0_2 a0_3 a0_4 a3_0 a3_1 a3_2 a3_3) else (if a2 ≥ a0_0 then (palletlaw12_GuardCold.j0 k a1 a2 a4 t322 true a0_0 a0_1 a0_2 a0_3 a0_4 a3_0 a3_1 a3_2 a3_3) else (if a4 < 0 then (palletlaw12_GuardCold.j0 k a1 a2 a4 t322 true a0_0 a0_1 a0_2 a0_3 a0_4 a3_0 a3_1 a3_2 a3_3) else ((palletref01_May.f k (([a4] : List Int))).bind fun t327 => (palletlaw12_GuardCold.j0 k a1 a2 a4 t322 (!t327) a0_0 a0_1 a0_2 a0_3 a0_4 a3_0 a3_1 a3_2 a3_3))))))) else (palletlaw12_GuardCold.j0 k a1 a2 a4 t322 true a0_0 a0_1 a0_2 a0_3 a0_4 a3_0 a3_1 a3_2 a3_3))) else (some false))) = some r := h
 clear h
 replace H := Option.bind_eq_some_iff.mp H
 obtain ⟨t322, A60, H⟩ := H
 replace H : (if t322 = true then ((medl_Check.f a0_0 a0_1 a0_2 a0_3 a0_4).bind fun t323 => (if t323 = 0 then (if a1 < 1 then (palletlaw12_GuardCold.j0 k a1 a2 a4 t322 true a0_0 a0_1 a0_2 a0_3 a0_4 a3_0 a3_1 a3_2 a3_3) else (if a1 > 1000000000 then (palletlaw12_GuardCold.j0 k a1 a2 a4 t322 true a0_0 a0_1 a0_2 a0_3 a0_4 a3_0 a3_1 a3_2 a3_3) else (if a2 < 0 then (palletlaw12_GuardCold.j0 k a1 a2 a4 t322 true a0_0 a0_1 a0_2 a0_3 a0_4 a3_0 a3_1 a3_2 a3_3) else (if a2 ≥ a0_0 then (palletlaw12_GuardCold.j0 k a1 a2 a4 t322 true a0_0 a0_1 a0_2 a0_3 a0_4 a3_0 a3_1 a3_2 a3_3) else (if a4 < 0 then (palletlaw12_GuardCold.j0 k a1 a2 a4 t322 true a0_0 a0_1 a0_2 a0_3 a0_4 a3_0 a3_1 a3_2 a3_3) else ((palletref01_May.f k (([a4] : List Int))).bind fun t327 => (palletlaw12_GuardCold.j0 k a1 a2 a4 t322 (!t327) a0_0 a0_1 a0_2 a0_3 a0_4 a3_0 a3_1 a3_2 a3_3))))))) else (palletlaw12_GuardCold.j0 k a1 a2 a4 t322 true a0_0 a0_1 a0_2 a0_3 a0_4 a3_0 a3_1 a3_2 a3_3))) else (some false)) = some r := H
 have A6 := Aside0.mk A60
 clear A60
 by_cases c7 : t322 = true
 ·subst c7
  have H1 : ((medl_Check.f a0_0 a0_1 a0_2 a0_3 a0_4).bind fun t323 => (if t323 = 0 then (if a1 < 1 then (palletlaw12_GuardCold.j0 k a1 a2 a4 true true a0_0 a0_1 a0_2 a0_3 a0_4 a3_0 a3_1 a3_2 a3_3) else (if a1 > 1000000000 then (palletlaw12_GuardCold.j0 k a1 a2 a4 true true a0_0 a0_1 a0_2 a0_3 a0_4 a3_0 a3_1 a3_2 a3_3) else (if a2 < 0 then (palletlaw12_GuardCold.j0 k a1 a2 a4 true true a0_0 a0_1 a0_2 a0_3 a0_4 a3_0 a3_1 a3_2 a3_3) else (if a2 ≥ a0_0 then (palletlaw12_GuardCold.j0 k a1 a2 a4 true true a0_0 a0_1 a0_2 a0_3 a0_4 a3_0 a3_1 a3_2 a3_3) else (if a4 < 0 then (palletlaw12_GuardCold.j0 k a1 a2 a4 true true a0_0 a0_1 a0_2 a0_3 a0_4 a3_0 a3_1 a3_2 a3_3) else ((palletref01_May.f k (([a4] : List Int))).bind fun t327 => (palletlaw12_GuardCold.j0 k a1 a2 a4 true (!t327) a0_0 a0_1 a0_2 a0_3 a0_4 a3_0 a3_1 a3_2 a3_3))))))) else (palletlaw12_GuardCold.j0 k a1 a2 a4 true true a0_0 a0_1 a0_2 a0_3 a0_4 a3_0 a3_1 a3_2 a3_3))) = some r := by rw [if_pos rfl] at H; exact H
  clear H
  have H := H1
  clear H1
  have HC8 := Aside0.mk H
  clear H
  go_enter Try.func9, Try.ntmps9
  go_upto_region 4 with (first | ((with_reducible refine gate_dst (N := 5) rfl ?_); (try (refine gate_guard (by rfl) ?_; dsimp only)); refine box_event ?hg (N := 5) ?hd (cs := #[.int .i64 a0_0, .int .i64 a0_1, .int .i64 a0_2, .int .i64 a0_3, .int .i64 a0_4]) (t := 23) ?hr ?_; (case hd => rfl); (case hg => rfl); (case hr => first | (go_simp; done) | (go_simp; rfl)); intro gb320 hg w9 hbox hb; have n0_ := Aside0.mk (below_step (by repeat (first | (with_reducible first | exact HB.out | apply below_alloc | apply pw_below_drewN | apply below_drew1) | exact HB.out)) hb); have n1_ := Aside0.mk (hbox); have n2_ := Aside0.mk ((by rw [hg]; exact (below_size (by repeat (first | (with_reducible first | exact HB.out | apply below_alloc | apply pw_below_drewN | apply below_drew1) | exact HB.out))) : w.heap.size ≤ gb320)); have n3_ := Aside0.mk ((by rw [hg]; exact (below_size (by repeat (first | (with_reducible first | exact HB.out | apply below_alloc | apply pw_below_drewN | apply below_drew1) | exact HB.out))) : w.heap.size ≤ gb320)); clear HB; have HB := n0_; have BK320 := n1_; have GW320 := n2_; have GE320 := n3_; clear n0_ n1_ n2_ n3_; clear hb hbox hg) | ((with_reducible refine gate_dst (N := 8) rfl ?_); (try (refine gate_guard (by rfl) ?_; dsimp only)); refine box_event ?hg (N := 8) ?hd (cs := #[.int .i64 a3_0, .int .i64 a3_1, .int .u64 a3_2, .int .u16 a3_3]) (t := 52) ?hr ?_; (case hd => rfl); (case hg => rfl); (case hr => first | (go_simp; done) | (go_simp; rfl)); intro gb321 hg w10 hbox hb; have n0_ := Aside0.mk (blk_below (g := gb320) (o := .cells #[.int .i64 a0_0, .int .i64 a0_1, .int .i64 a0_2, .int .i64 a0_3, .int .i64 a0_4] 23 (0, 0)) (by (with_reducible repeat (first | refine blk_drewN ?_ _ | refine blk_drew ?_ | refine blk_alloc ?_ _)); exact BK320.out) hb); have n1_ := Aside0.mk (below_step (by repeat (first | (with_reducible first | exact HB.out | apply below_alloc | apply pw_below_drewN | apply below_drew1 | refine below_set ?_ GE320.out) | exact HB.out)) hb); have n2_ := Aside0.mk (hbox); have n3_ := Aside0.mk ((by rw [hg]; exact (below_size (by repeat (first | (with_reducible first | exact HB.out | apply below_alloc | apply pw_below_drewN | apply below_drew1 | refine below_set ?_ GE320.out) | exact HB.out))) : w.heap.size ≤ gb321)); have n4_ := Aside0.mk ((by rw [hg]; exact (below_size (by repeat (first | (with_reducible first | exact HB.out | apply below_alloc | apply pw_below_drewN | apply below_drew1 | refine below_set ?_ GE320.out) | exact HB.out))) : w.heap.size ≤ gb321)); have n5_ := Aside0.mk ((by rw [hg]; exact Nat.ne_of_lt (blk_lt (g := gb320) (o := .cells #[.int .i64 a0_0, .int .i64 a0_1, .int .i64 a0_2, .int .i64 a0_3, .int .i64 a0_4] 23 (0, 0)) (by (with_reducible repeat (first | refine blk_drewN ?_ _ | refine blk_drew ?_ | refine blk_alloc ?_ _)); exact BK320.out)) : gb320 ≠ gb321)); have n6_ := Aside0.mk ((by rw [hg]; exact Nat.ne_of_gt (blk_lt (g := gb320) (o := .cells #[.int .i64 a0_0, .int .i64 a0_1, .int .i64 a0_2, .int .i64 a0_3, .int .i64 a0_4] 23 (0, 0)) (by (with_reducible repeat (first | refine blk_drewN ?_ _ | refine blk_drew ?_ | refine blk_alloc ?_ _)); exact BK320.out)) : gb321 ≠ gb320)); clear BK320; clear HB; have BK320 := n0_; have HB := n1_; have BK321 := n2_; have GW321 := n3_; have GE321 := n4_; have NB320_321 := n5_; have NB321_320 := n6_; clear n0_ n1_ n2_ n3_ n4_ n5_ n6_; clear hb hbox hg) | ((with_reducible refine gate_callee (f := 21) rfl ?_); refine goesL_ (some 23) rfl rfl Try.func21 (by kernel_rfl) rfl #[] rfl (by (try simp only [List.map_toArray, List.map_cons, List.map_nil]); first | done | rfl | (simp only [List.length_drop, List.length_take]; rfl)) ?_; (with_reducible refine (palletlaw12_live.calls k  true _ A6.out).mono ?_); rintro e w11 ⟨rfl, hb⟩; refine ⟨_, rfl, ?_⟩; have n0_ := Aside0.mk (blk_below (g := gb320) (o := .cells #[.int .i64 a0_0, .int .i64 a0_1, .int .i64 a0_2, .int .i64 a0_3, .int .i64 a0_4] 23 (0, 0)) (by (with_reducible repeat (first | refine blk_drewN ?_ _ | refine blk_drew ?_ | refine blk_alloc ?_ _)); exact BK320.out) hb); have n1_ := Aside0.mk (blk_below (g := gb321) (o := .cells #[.int .i64 a3_0, .int .i64 a3_1, .int .u64 a3_2, .int .u16 a3_3] 52 (0, 0)) (by (with_reducible repeat (first | refine blk_drewN ?_ _ | refine blk_drew ?_ | refine blk_alloc ?_ _)); exact BK321.out) hb); have n2_ := Aside0.mk (below_step (by repeat (first | (with_reducible first | exact HB.out | apply below_alloc | apply pw_below_drewN | apply below_drew1 | refine below_set ?_ GE320.out | refine below_set ?_ GE321.out) | exact HB.out)) hb); clear BK320; clear BK321; clear HB; have BK320 := n0_; have BK321 := n1_; have HB := n2_; clear n0_ n1_ n2_; (try clear hb); (try clear hb2); (try clear hk); (try clear hi)))
  (try simp only [Act.put, List.setIfInBounds_toArray, List.set_cons_zero, List.set_cons_succ])
  go_cut [56] (fun v56 wc => ∃ (kq : Nat) (x56_7 : Bool), v56 = .bool x56_7 ∧ Aside0 (palletlaw12_GuardCold.j0 kq a1 a2 a4 true x56_7 a0_0 a0_1 a0_2 a0_3 a0_4 a3_0 a3_1 a3_2 a3_3 = some r) ∧ Aside0 (kq ≤ k) ∧ Aside0 (wc.heap[gb320]? = some (.cells #[.int .i64 a0_0, .int .i64 a0_1, .int .i64 a0_2, .int .i64 a0_3, .int .i64 a0_4] 23 (0, 0))) ∧ Aside0 (wc.heap[gb321]? = some (.cells #[.int .i64 a3_0, .int .i64 a3_1, .int .u64 a3_2, .int .u16 a3_3] 52 (0, 0))) ∧ Aside0 (Below w.heap.size w wc))
  case first =>
   have H := HC8.out
   clear HC8
   replace H := Option.bind_eq_some_iff.mp H
   obtain ⟨t323, A120, H⟩ := H
   replace H : (if t323 = 0 then (if a1 < 1 then (palletlaw12_GuardCold.j0 k a1 a2 a4 true true a0_0 a0_1 a0_2 a0_3 a0_4 a3_0 a3_1 a3_2 a3_3) else (if a1 > 1000000000 then (palletlaw12_GuardCold.j0 k a1 a2 a4 true true a0_0 a0_1 a0_2 a0_3 a0_4 a3_0 a3_1 a3_2 a3_3) else (if a2 < 0 then (palletlaw12_GuardCold.j0 k a1 a2 a4 true true a0_0 a0_1 a0_2 a0_3 a0_4 a3_0 a3_1 a3_2 a3_3) else (if a2 ≥ a0_0 then (palletlaw12_GuardCold.j0 k a1 a2 a4 true true a0_0 a0_1 a0_2 a0_3 a0_4 a3_0 a3_1 a3_2 a3_3) else (if a4 < 0 then (palletlaw12_GuardCold.j0 k a1 a2 a4 true true a0_0 a0_1 a0_2 a0_3 a0_4 a3_0 a3_1 a3_2 a3_3) else ((palletref01_May.f k (([a4] : List Int))).bind fun t327 => (palletlaw12_GuardCold.j0 k a1 a2 a4 true (!t327) a0_0 a0_1 a0_2 a0_3 a0_4 a3_0 a3_1 a3_2 a3_3))))))) else (palletlaw12_GuardCold.j0 k a1 a2 a4 true true a0_0 a0_1 a0_2 a0_3 a0_4 a3_0 a3_1 a3_2 a3_3)) = some r := H
   have A12 := Aside0.mk A120
   clear A120
   by_cases c13 : t323 = 0
   ·rw [if_pos c13] at H
    have c13b0 : (t323 == 0) = true := beq_iff_eq.mpr c13
    have c13b1 : (t323 != 0) = false := bne_eq_false_iff_eq.mpr c13
    clear c13
    (first | rw [c13b0] | (simp only [i64_w, i32_w]; rw [c13b0]) | skip)
    by_cases c14 : a1 < 1
    ·rw [if_pos c14] at H
     have c14b0 : decide (a1 < 1) = true := decide_eq_true c14
     clear c14
     have H' := Aside0.mk H
     clear H
     have hnb15 := NB320_321.out
     have hnc15 := NB321_320.out
     have hcz16_0 : w11.cell? ⟨gb320, 0, none⟩ = some (.int .i64 a0_0) := (blk_cell BK320.out 0).trans rfl
     have hcz16_1 : w11.cell? ⟨gb320, 1, none⟩ = some (.int .i64 a0_1) := (blk_cell BK320.out 1).trans rfl
     have hcz16_2 : w11.cell? ⟨gb320, 2, none⟩ = some (.int .i64 a0_2) := (blk_cell BK320.out 2).trans rfl
     have hcz16_3 : w11.cell? ⟨gb320, 3, none⟩ = some (.int .i64 a0_3) := (blk_cell BK320.out 3).trans rfl
     have hcz16_4 : w11.cell? ⟨gb320, 4, none⟩ = some (.int .i64 a0_4) := (blk_cell BK320.out 4).trans rfl
     have hfz16_0 := blk_frozen BK320.out 0
     have hfz16_1 := blk_frozen BK320.out 1
     have hfz16_2 := blk_frozen BK320.out 2
     have hfz16_3 := blk_frozen BK320.out 3
     have hfz16_4 := blk_frozen BK320.out 4
     go_wp2_with (first | ((with_reducible refine gate_callee (f := 13) rfl ?_); refine goesL_ (some 27) rfl rfl Try.func13 (by kernel_rfl) rfl #[.agg #[.int .i64 a0_0, .int .i64 a0_1, .int .i64 a0_2, .int .i64 a0_3, .int .i64 a0_4]] rfl (by (try simp only [List.map_toArray, List.map_cons, List.map_nil]); first | done | rfl | (simp only [List.length_drop, List.length_take]; rfl)) ?_; (with_reducible refine (medl_Check.calls a0_0 a0_1 a0_2 a0_3 a0_4 t323 _ A12.out).mono ?_); rintro e w17 ⟨rfl, hb⟩; refine ⟨_, rfl, ?_⟩; have n0_ := Aside0.mk (blk_below (g := gb320) (o := .cells #[.int .i64 a0_0, .int .i64 a0_1, .int .i64 a0_2, .int .i64 a0_3, .int .i64 a0_4] 23 (0, 0)) (by (with_reducible repeat (first | refine blk_drewN ?_ _ | refine blk_drew ?_ | refine blk_alloc ?_ _)); exact BK320.out) hb); have n1_ := Aside0.mk (blk_below (g := gb321) (o := .cells #[.int .i64 a3_0, .int .i64 a3_1, .int .u64 a3_2, .int .u16 a3_3] 52 (0, 0)) (by (with_reducible repeat (first | refine blk_drewN ?_ _ | refine blk_drew ?_ | refine blk_alloc ?_ _)); exact BK321.out) hb); have n2_ := Aside0.mk (below_step (by repeat (first | (with_reducible first | exact HB.out | apply below_alloc | apply pw_below_drewN | apply below_drew1 | refine below_set ?_ GE320.out | refine below_set ?_ GE321.out) | exact HB.out)) hb); clear BK320; clear BK321; clear HB; have BK320 := n0_; have BK321 := n1_; have HB := n2_; clear n0_ n1_ n2_; (try clear hb); (try clear hb2); (try clear hk); (try clear hi)))
     go_meet
     case rel => exact ⟨_, (true), (by first | rfl | (simp; done) | (simp [*]; done)), H', ⟨by first | omega | exact Nat.le_refl _⟩, ⟨by (with_reducible repeat (first | refine blk_drewN ?_ _ | refine blk_drew ?_ | refine blk_alloc ?_ _)); exact BK320.out⟩, ⟨by (with_reducible repeat (first | refine blk_drewN ?_ _ | refine blk_drew ?_ | refine blk_alloc ?_ _)); exact BK321.out⟩, ⟨by repeat (first | (with_reducible first | exact HB.out | apply below_alloc | apply pw_below_drewN | apply below_drew1 | refine below_set ?_ GE320.out | refine below_set ?_ GE321.out) | exact HB.out)⟩⟩
    ·rw [if_neg c14] at H
     have c14b0 : decide (a1 < 1) = false := decide_eq_false c14
     clear c14
     by_cases c18 : a1 > 1000000000
     ·rw [if_pos c18] at H
      have c18b0 : decide (1000000000 < a1) = true := decide_eq_true c18
      clear c18
      have H' := Aside0.mk H
      clear H
      have hnb19 := NB320_321.out
      have hnc19 := NB321_320.out
      have hcz20_0 : w11.cell? ⟨gb320, 0, none⟩ = some (.int .i64 a0_0) := (blk_cell BK320.out 0).trans rfl
      have hcz20_1 : w11.cell? ⟨gb320, 1, none⟩ = some (.int .i64 a0_1) := (blk_cell BK320.out 1).trans rfl
      have hcz20_2 : w11.cell? ⟨gb320, 2, none⟩ = some (.int .i64 a0_2) := (blk_cell BK320.out 2).trans rfl
      have hcz20_3 : w11.cell? ⟨gb320, 3, none⟩ = some (.int .i64 a0_3) := (blk_cell BK320.out 3).trans rfl
      have hcz20_4 : w11.cell? ⟨gb320, 4, none⟩ = some (.int .i64 a0_4) := (blk_cell BK320.out 4).trans rfl
      have hfz20_0 := blk_frozen BK320.out 0
      have hfz20_1 := blk_frozen BK320.out 1
      have hfz20_2 := blk_frozen BK320.out 2
      have hfz20_3 := blk_frozen BK320.out 3
      have hfz20_4 := blk_frozen BK320.out 4
      go_wp2_with (first | ((with_reducible refine gate_callee (f := 13) rfl ?_); refine goesL_ (some 27) rfl rfl Try.func13 (by kernel_rfl) rfl #[.agg #[.int .i64 a0_0, .int .i64 a0_1, .int .i64 a0_2, .int .i64 a0_3, .int .i64 a0_4]] rfl (by (try simp only [List.map_toArray, List.map_cons, List.map_nil]); first | done | rfl | (simp only [List.length_drop, List.length_take]; rfl)) ?_; (with_reducible refine (medl_Check.calls a0_0 a0_1 a0_2 a0_3 a0_4 t323 _ A12.out).mono ?_); rintro e w21 ⟨rfl, hb⟩; refine ⟨_, rfl, ?_⟩; have n0_ := Aside0.mk (blk_below (g := gb320) (o := .cells #[.int .i64 a0_0, .int .i64 a0_1, .int .i64 a0_2, .int .i64 a0_3, .int .i64 a0_4] 23 (0, 0)) (by (with_reducible repeat (first | refine blk_drewN ?_ _ | refine blk_drew ?_ | refine blk_alloc ?_ _)); exact BK320.out) hb); have n1_ := Aside0.mk (blk_below (g := gb321) (o := .cells #[.int .i64 a3_0, .int .i64 a3_1, .int .u64 a3_2, .int .u16 a3_3] 52 (0, 0)) (by (with_reducible repeat (first | refine blk_drewN ?_ _ | refine blk_drew ?_ | refine blk_alloc ?_ _)); exact BK321.out) hb); have n2_ := Aside0.mk (below_step (by repeat (first | (with_reducible first | exact HB.out | apply below_alloc | apply pw_below_drewN | apply below_drew1 | refine below_set ?_ GE320.out | refine below_set ?_ GE321.out) | exact HB.out)) hb); clear BK320; clear BK321; clear HB; have BK320 := n0_; have BK321 := n1_; have HB := n2_; clear n0_ n1_ n2_; (try clear hb); (try clear hb2); (try clear hk); (try clear hi)))
      go_meet
      case rel => exact ⟨_, (true), (by first | rfl | (simp; done) | (simp [*]; done)), H', ⟨by first | omega | exact Nat.le_refl _⟩, ⟨by (with_reducible repeat (first | refine blk_drewN ?_ _ | refine blk_drew ?_ | refine blk_alloc ?_ _)); exact BK320.out⟩, ⟨by (with_reducible repeat (first | refine blk_drewN ?_ _ | refine blk_drew ?_ | refine blk_alloc ?_ _)); exact BK321.out⟩, ⟨by repeat (first | (with_reducible first | exact HB.out | apply below_alloc | apply pw_below_drewN | apply below_drew1 | refine below_set ?_ GE320.out | refine below_set ?_ GE321.out) | exact HB.out)⟩⟩
     ·rw [if_neg c18] at H
      have c18b0 : decide (1000000000 < a1) = false := decide_eq_false c18
      clear c18
      by_cases c22 : a2 < 0
      ·rw [if_pos c22] at H
       have c22b0 : decide (a2 < 0) = true := decide_eq_true c22
       clear c22
       have H' := Aside0.mk H
       clear H
       have hnb23 := NB320_321.out
       have hnc23 := NB321_320.out
       have hcz24_0 : w11.cell? ⟨gb320, 0, none⟩ = some (.int .i64 a0_0) := (blk_cell BK320.out 0).trans rfl
       have hcz24_1 : w11.cell? ⟨gb320, 1, none⟩ = some (.int .i64 a0_1) := (blk_cell BK320.out 1).trans rfl
       have hcz24_2 : w11.cell? ⟨gb320, 2, none⟩ = some (.int .i64 a0_2) := (blk_cell BK320.out 2).trans rfl
       have hcz24_3 : w11.cell? ⟨gb320, 3, none⟩ = some (.int .i64 a0_3) := (blk_cell BK320.out 3).trans rfl
       have hcz24_4 : w11.cell? ⟨gb320, 4, none⟩ = some (.int .i64 a0_4) := (blk_cell BK320.out 4).trans rfl
       have hfz24_0 := blk_frozen BK320.out 0
       have hfz24_1 := blk_frozen BK320.out 1
       have hfz24_2 := blk_frozen BK320.out 2
       have hfz24_3 := blk_frozen BK320.out 3
       have hfz24_4 := blk_frozen BK320.out 4
       go_wp2_with (first | ((with_reducible refine gate_callee (f := 13) rfl ?_); refine goesL_ (some 27) rfl rfl Try.func13 (by kernel_rfl) rfl #[.agg #[.int .i64 a0_0, .int .i64 a0_1, .int .i64 a0_2, .int .i64 a0_3, .int .i64 a0_4]] rfl (by (try simp only [List.map_toArray, List.map_cons, List.map_nil]); first | done | rfl | (simp only [List.length_drop, List.length_take]; rfl)) ?_; (with_reducible refine (medl_Check.calls a0_0 a0_1 a0_2 a0_3 a0_4 t323 _ A12.out).mono ?_); rintro e w25 ⟨rfl, hb⟩; refine ⟨_, rfl, ?_⟩; have n0_ := Aside0.mk (blk_below (g := gb320) (o := .cells #[.int .i64 a0_0, .int .i64 a0_1, .int .i64 a0_2, .int .i64 a0_3, .int .i64 a0_4] 23 (0, 0)) (by (with_reducible repeat (first | refine blk_drewN ?_ _ | refine blk_drew ?_ | refine blk_alloc ?_ _)); exact BK320.out) hb); have n1_ := Aside0.mk (blk_below (g := gb321) (o := .cells #[.int .i64 a3_0, .int .i64 a3_1, .int .u64 a3_2, .int .u16 a3_3] 52 (0, 0)) (by (with_reducible repeat (first | refine blk_drewN ?_ _ | refine blk_drew ?_ | refine blk_alloc ?_ _)); exact BK321.out) hb); have n2_ := Aside0.mk (below_step (by repeat (first | (with_reducible first | exact HB.out | apply below_alloc | apply pw_below_drewN | apply below_drew1 | refine below_set ?_ GE320.out | refine below_set ?_ GE321.out) | exact HB.out)) hb); clear BK320; clear BK321; clear HB; have BK320 := n0_; have BK321 := n1_; have HB := n2_; clear n0_ n1_ n2_; (try clear hb); (try clear hb2); (try clear hk); (try clear hi)))
       go_meet
       case rel => exact ⟨_, (true), (by first | rfl | (simp; done) | (simp [*]; done)), H', ⟨by first | omega | exact Nat.le_refl _⟩, ⟨by (with_reducible repeat (first | refine blk_drewN ?_ _ | refine blk_drew ?_ | refine blk_alloc ?_ _)); exact BK320.out⟩, ⟨by (with_reducible repeat (first | refine blk_drewN ?_ _ | refine blk_drew ?_ | refine blk_alloc ?_ _)); exact BK321.out⟩, ⟨by repeat (first | (with_reducible first | exact HB.out | apply below_alloc | apply pw_below_drewN | apply below_drew1 | refine below_set ?_ GE320.out | refine below_set ?_ GE321.out) | exact HB.out)⟩⟩
      ·rw [if_neg c22] at H
       have c22b0 : decide (a2 < 0) = false := decide_eq_false c22
       clear c22
       by_cases c26 : a2 ≥ a0_0
       ·rw [if_pos c26] at H
        have c26b0 : decide (a0_0 ≤ a2) = true := decide_eq_true c26
        clear c26
        have H' := Aside0.mk H
        clear H
        have hnb27 := NB320_321.out
        have hnc27 := NB321_320.out
        have hcz28_0 : w11.cell? ⟨gb320, 0, none⟩ = some (.int .i64 a0_0) := (blk_cell BK320.out 0).trans rfl
        have hcz28_1 : w11.cell? ⟨gb320, 1, none⟩ = some (.int .i64 a0_1) := (blk_cell BK320.out 1).trans rfl
        have hcz28_2 : w11.cell? ⟨gb320, 2, none⟩ = some (.int .i64 a0_2) := (blk_cell BK320.out 2).trans rfl
        have hcz28_3 : w11.cell? ⟨gb320, 3, none⟩ = some (.int .i64 a0_3) := (blk_cell BK320.out 3).trans rfl
        have hcz28_4 : w11.cell? ⟨gb320, 4, none⟩ = some (.int .i64 a0_4) := (blk_cell BK320.out 4).trans rfl
        have hfz28_0 := blk_frozen BK320.out 0
        have hfz28_1 := blk_frozen BK320.out 1
        have hfz28_2 := blk_frozen BK320.out 2
        have hfz28_3 := blk_frozen BK320.out 3
        have hfz28_4 := blk_frozen BK320.out 4
        go_wp2_with (first | ((with_reducible refine gate_callee (f := 13) rfl ?_); refine goesL_ (some 27) rfl rfl Try.func13 (by kernel_rfl) rfl #[.agg #[.int .i64 a0_0, .int .i64 a0_1, .int .i64 a0_2, .int .i64 a0_3, .int .i64 a0_4]] rfl (by (try simp only [List.map_toArray, List.map_cons, List.map_nil]); first | done | rfl | (simp only [List.length_drop, List.length_take]; rfl)) ?_; (with_reducible refine (medl_Check.calls a0_0 a0_1 a0_2 a0_3 a0_4 t323 _ A12.out).mono ?_); rintro e w29 ⟨rfl, hb⟩; refine ⟨_, rfl, ?_⟩; have n0_ := Aside0.mk (blk_below (g := gb320) (o := .cells #[.int .i64 a0_0, .int .i64 a0_1, .int .i64 a0_2, .int .i64 a0_3, .int .i64 a0_4] 23 (0, 0)) (by (with_reducible repeat (first | refine blk_drewN ?_ _ | refine blk_drew ?_ | refine blk_alloc ?_ _)); exact BK320.out) hb); have n1_ := Aside0.mk (blk_below (g := gb321) (o := .cells #[.int .i64 a3_0, .int .i64 a3_1, .int .u64 a3_2, .int .u16 a3_3] 52 (0, 0)) (by (with_reducible repeat (first | refine blk_drewN ?_ _ | refine blk_drew ?_ | refine blk_alloc ?_ _)); exact BK321.out) hb); have n2_ := Aside0.mk (below_step (by repeat (first | (with_reducible first | exact HB.out | apply below_alloc | apply pw_below_drewN | apply below_drew1 | refine below_set ?_ GE320.out | refine below_set ?_ GE321.out) | exact HB.out)) hb); clear BK320; clear BK321; clear HB; have BK320 := n0_; have BK321 := n1_; have HB := n2_; clear n0_ n1_ n2_; (try clear hb); (try clear hb2); (try clear hk); (try clear hi); have hcz30_0 : w29.cell? ⟨gb320, 0, none⟩ = some (.int .i64 a0_0) := (blk_cell BK320.out 0).trans rfl; have hcz30_1 : w29.cell? ⟨gb320, 1, none⟩ = some (.int .i64 a0_1) := (blk_cell BK320.out 1).trans rfl; have hcz30_2 : w29.cell? ⟨gb320, 2, none⟩ = some (.int .i64 a0_2) := (blk_cell BK320.out 2).trans rfl; have hcz30_3 : w29.cell? ⟨gb320, 3, none⟩ = some (.int .i64 a0_3) := (blk_cell BK320.out 3).trans rfl; have hcz30_4 : w29.cell? ⟨gb320, 4, none⟩ = some (.int .i64 a0_4) := (blk_cell BK320.out 4).trans rfl; have hfz30_0 := blk_frozen BK320.out 0; have hfz30_1 := blk_frozen BK320.out 1; have hfz30_2 := blk_frozen BK320.out 2; have hfz30_3 := blk_frozen BK320.out 3; have hfz30_4 := blk_frozen BK320.out 4))
        go_meet
        case rel => exact ⟨_, (true), (by first | rfl | (simp; done) | (simp [*]; done)), H', ⟨by first | omega | exact Nat.le_refl _⟩, ⟨by (with_reducible repeat (first | refine blk_drewN ?_ _ | refine blk_drew ?_ | refine blk_alloc ?_ _)); exact BK320.out⟩, ⟨by (with_reducible repeat (first | refine blk_drewN ?_ _ | refine blk_drew ?_ | refine blk_alloc ?_ _)); exact BK321.out⟩, ⟨by repeat (first | (with_reducible first | exact HB.out | apply below_alloc | apply pw_below_drewN | apply below_drew1 | refine below_set ?_ GE320.out | refine below_set ?_ GE321.out) | exact HB.out)⟩⟩
       ·rw [if_neg c26] at H
        have c26b0 : decide (a0_0 ≤ a2) = false := decide_eq_false c26
        clear c26
        by_cases c31 : a4 < 0
        ·rw [if_pos c31] at H
         have c31b0 : decide (a4 < 0) = true := decide_eq_true c31
         clear c31
         have H' := Aside0.mk H
         clear H
         have hnb32 := NB320_321.out
         have hnc32 := NB321_320.out
         have hcz33_0 : w11.cell? ⟨gb320, 0, none⟩ = some (.int .i64 a0_0) := (blk_cell BK320.out 0).trans rfl
         have hcz33_1 : w11.cell? ⟨gb320, 1, none⟩ = some (.int .i64 a0_1) := (blk_cell BK320.out 1).trans rfl
         have hcz33_2 : w11.cell? ⟨gb320, 2, none⟩ = some (.int .i64 a0_2) := (blk_cell BK320.out 2).trans rfl
         have hcz33_3 : w11.cell? ⟨gb320, 3, none⟩ = some (.int .i64 a0_3) := (blk_cell BK320.out 3).trans rfl
         have hcz33_4 : w11.cell? ⟨gb320, 4, none⟩ = some (.int .i64 a0_4) := (blk_cell BK320.out 4).trans rfl
         have hfz33_0 := blk_frozen BK320.out 0
         have hfz33_1 := blk_frozen BK320.out 1
         have hfz33_2 := blk_frozen BK320.out 2
         have hfz33_3 := blk_frozen BK320.out 3
         have hfz33_4 := blk_frozen BK320.out 4
         go_wp2_with (first | ((with_reducible refine gate_callee (f := 13) rfl ?_); refine goesL_ (some 27) rfl rfl Try.func13 (by kernel_rfl) rfl #[.agg #[.int .i64 a0_0, .int .i64 a0_1, .int .i64 a0_2, .int .i64 a0_3, .int .i64 a0_4]] rfl (by (try simp only [List.map_toArray, List.map_cons, List.map_nil]); first | done | rfl | (simp only [List.length_drop, List.length_take]; rfl)) ?_; (with_reducible refine (medl_Check.calls a0_0 a0_1 a0_2 a0_3 a0_4 t323 _ A12.out).mono ?_); rintro e w34 ⟨rfl, hb⟩; refine ⟨_, rfl, ?_⟩; have n0_ := Aside0.mk (blk_below (g := gb320) (o := .cells #[.int .i64 a0_0, .int .i64 a0_1, .int .i64 a0_2, .int .i64 a0_3, .int .i64 a0_4] 23 (0, 0)) (by (with_reducible repeat (first | refine blk_drewN ?_ _ | refine blk_drew ?_ | refine blk_alloc ?_ _)); exact BK320.out) hb); have n1_ := Aside0.mk (blk_below (g := gb321) (o := .cells #[.int .i64 a3_0, .int .i64 a3_1, .int .u64 a3_2, .int .u16 a3_3] 52 (0, 0)) (by (with_reducible repeat (first | refine blk_drewN ?_ _ | refine blk_drew ?_ | refine blk_alloc ?_ _)); exact BK321.out) hb); have n2_ := Aside0.mk (below_step (by repeat (first | (with_reducible first | exact HB.out | apply below_alloc | apply pw_below_drewN | apply below_drew1 | refine below_set ?_ GE320.out | refine below_set ?_ GE321.out) | exact HB.out)) hb); clear BK320; clear BK321; clear HB; have BK320 := n0_; have BK321 := n1_; have HB := n2_; clear n0_ n1_ n2_; (try clear hb); (try clear hb2); (try clear hk); (try clear hi); have hcz35_0 : w34.cell? ⟨gb320, 0, none⟩ = some (.int .i64 a0_0) := (blk_cell BK320.out 0).trans rfl; have hcz35_1 : w34.cell? ⟨gb320, 1, none⟩ = some (.int .i64 a0_1) := (blk_cell BK320.out 1).trans rfl; have hcz35_2 : w34.cell? ⟨gb320, 2, none⟩ = some (.int .i64 a0_2) := (blk_cell BK320.out 2).trans rfl; have hcz35_3 : w34.cell? ⟨gb320, 3, none⟩ = some (.int .i64 a0_3) := (blk_cell BK320.out 3).trans rfl; have hcz35_4 : w34.cell? ⟨gb320, 4, none⟩ = some (.int .i64 a0_4) := (blk_cell BK320.out 4).trans rfl; have hfz35_0 := blk_frozen BK320.out 0; have hfz35_1 := blk_frozen BK320.out 1; have hfz35_2 := blk_frozen BK320.out 2; have hfz35_3 := blk_frozen BK320.out 3; have hfz35_4 := blk_frozen BK320.out 4))
         go_meet
         case rel => exact ⟨_, (true), (by first | rfl | (simp; done) | (simp [*]; done)), H', ⟨by first | omega | exact Nat.le_refl _⟩, ⟨by (with_reducible repeat (first | refine blk_drewN ?_ _ | refine blk_drew ?_ | refine blk_alloc ?_ _)); exact BK320.out⟩, ⟨by (with_reducible repeat (first | refine blk_drewN ?_ _ | refine blk_drew ?_ | refine blk_alloc ?_ _)); exact BK321.out⟩, ⟨by repeat (first | (with_reducible first | exact HB.out | apply below_alloc | apply pw_below_drewN | apply below_drew1 | refine below_set ?_ GE320.out | refine below_set ?_ GE321.out) | exact HB.out)⟩⟩
        ·rw [if_neg c31] at H
         have c31b0 : decide (a4 < 0) = false := decide_eq_false c31
         clear c31
         obtain ⟨y324, hy324⟩ : ∃ y_ : List Int, y_ = (([a4] : List Int)) := ⟨_, rfl⟩
         replace H : ((palletref01_May.f k y324).bind fun t327 => (palletlaw12_GuardCold.j0 k a1 a2 a4 true (!t327) a0_0 a0_1 a0_2 a0_3 a0_4 a3_0 a3_1 a3_2 a3_3)) = some r := by first | (rw [hy324]; with_reducible exact H) | (have H2_ := (Option.bind_some _ _).symm.trans H; rw [hy324]; with_reducible exact H2_) | (have H2_ := (Option.bind_some _ _).symm.trans H; with_reducible exact H2_) | with_reducible exact H | (rw [hy324]; exact H) | exact H
         have Ny324 := Aside0.mk hy324
         clear hy324
         replace H := Option.bind_eq_some_iff.mp H
         obtain ⟨t327, A360, H⟩ := H
         replace H : (palletlaw12_GuardCold.j0 k a1 a2 a4 true (!t327) a0_0 a0_1 a0_2 a0_3 a0_4 a3_0 a3_1 a3_2 a3_3) = some r := H
         have A36 := Aside0.mk A360
         clear A360
         have H' := Aside0.mk H
         clear H
         have hnb37 := NB320_321.out
         have hnc37 := NB321_320.out
         have hcz38_0 : w11.cell? ⟨gb320, 0, none⟩ = some (.int .i64 a0_0) := (blk_cell BK320.out 0).trans rfl
         have hcz38_1 : w11.cell? ⟨gb320, 1, none⟩ = some (.int .i64 a0_1) := (blk_cell BK320.out 1).trans rfl
         have hcz38_2 : w11.cell? ⟨gb320, 2, none⟩ = some (.int .i64 a0_2) := (blk_cell BK320.out 2).trans rfl
         have hcz38_3 : w11.cell? ⟨gb320, 3, none⟩ = some (.int .i64 a0_3) := (blk_cell BK320.out 3).trans rfl
         have hcz38_4 : w11.cell? ⟨gb320, 4, none⟩ = some (.int .i64 a0_4) := (blk_cell BK320.out 4).trans rfl
         have hfz38_0 := blk_frozen BK320.out 0
         have hfz38_1 := blk_frozen BK320.out 1
         have hfz38_2 := blk_frozen BK320.out 2
         have hfz38_3 := blk_frozen BK320.out 3
         have hfz38_4 := blk_frozen BK320.out 4
         go_wp2_with (first | ((with_reducible refine gate_callee (f := 13) rfl ?_); refine goesL_ (some 27) rfl rfl Try.func13 (by kernel_rfl) rfl #[.agg #[.int .i64 a0_0, .int .i64 a0_1, .int .i64 a0_2, .int .i64 a0_3, .int .i64 a0_4]] rfl (by (try simp only [List.map_toArray, List.map_cons, List.map_nil]); first | done | rfl | (simp only [List.length_drop, List.length_take]; rfl)) ?_; (with_reducible refine (medl_Check.calls a0_0 a0_1 a0_2 a0_3 a0_4 t323 _ A12.out).mono ?_); rintro e w39 ⟨rfl, hb⟩; refine ⟨_, rfl, ?_⟩; have n0_ := Aside0.mk (blk_below (g := gb320) (o := .cells #[.int .i64 a0_0, .int .i64 a0_1, .int .i64 a0_2, .int .i64 a0_3, .int .i64 a0_4] 23 (0, 0)) (by (with_reducible repeat (first | refine blk_drewN ?_ _ | refine blk_drew ?_ | refine blk_alloc ?_ _)); exact BK320.out) hb); have n1_ := Aside0.mk (blk_below (g := gb321) (o := .cells #[.int .i64 a3_0, .int .i64 a3_1, .int .u64 a3_2, .int .u16 a3_3] 52 (0, 0)) (by (with_reducible repeat (first | refine blk_drewN ?_ _ | refine blk_drew ?_ | refine blk_alloc ?_ _)); exact BK321.out) hb); have n2_ := Aside0.mk (below_step (by repeat (first | (with_reducible first | exact HB.out | apply below_alloc | apply pw_below_drewN | apply below_drew1 | refine below_set ?_ GE320.out | refine below_set ?_ GE321.out) | exact HB.out)) hb); clear BK320; clear BK321; clear HB; have BK320 := n0_; have BK321 := n1_; have HB := n2_; clear n0_ n1_ n2_; (try clear hb); (try clear hb2); (try clear hk); (try clear hi); have hcz40_0 : w39.cell? ⟨gb320, 0, none⟩ = some (.int .i64 a0_0) := (blk_cell BK320.out 0).trans rfl; have hcz40_1 : w39.cell? ⟨gb320, 1, none⟩ = some (.int .i64 a0_1) := (blk_cell BK320.out 1).trans rfl; have hcz40_2 : w39.cell? ⟨gb320, 2, none⟩ = some (.int .i64 a0_2) := (blk_cell BK320.out 2).trans rfl; have hcz40_3 : w39.cell? ⟨gb320, 3, none⟩ = some (.int .i64 a0_3) := (blk_cell BK320.out 3).trans rfl; have hcz40_4 : w39.cell? ⟨gb320, 4, none⟩ = some (.int .i64 a0_4) := (blk_cell BK320.out 4).trans rfl; have hfz40_0 := blk_frozen BK320.out 0; have hfz40_1 := blk_frozen BK320.out 1; have hfz40_2 := blk_frozen BK320.out 2; have hfz40_3 := blk_frozen BK320.out 3; have hfz40_4 := blk_frozen BK320.out 4) | ((with_reducible refine gate_dst (N := 53) rfl ?_); (try (refine gate_guard (by rfl) ?_; dsimp only)); refine Kd.R_lit (Kd.int .i64) _ 2 ?hg (N := 53) ?hd (xs := ([a4] : List Int)) (inner := [.int .i64 a4]) (ok := fun _ => True) (okp := fun _ => True) ?hr ?hp (fun _ hk => hk) trivial (Below.refl _ _) (Nat.le_refl _) (by simp) ?_; (case hd => rfl); (case hg => rfl); (case hr => first | (go_simp; done) | (go_simp; rfl)); (case hp => exact (Reps.one (show Kd.M (Kd.int .i64) _ _ _ a4 [.int .i64 a4] from rfl) (Reps.none _ _))); intro v325 w41 ho42 hb hg_ hnew_; clear hg_ hnew_; (first | rw [← Ny324.out] at ho42 | (simp only [Int.reduceToNat] at ho42; rw [← Ny324.out] at ho42)); have n0_ := Aside0.mk (Kd.R_lower ho42 (below_size (by repeat (first | (with_reducible first | exact HB.out | apply below_alloc | apply pw_below_drewN | apply below_drew1 | refine below_set ?_ GE320.out | refine below_set ?_ GE321.out) | exact HB.out)))); have n1_ := Aside0.mk (blk_below (g := gb320) (o := .cells #[.int .i64 a0_0, .int .i64 a0_1, .int .i64 a0_2, .int .i64 a0_3, .int .i64 a0_4] 23 (0, 0)) (by (with_reducible repeat (first | refine blk_drewN ?_ _ | refine blk_drew ?_ | refine blk_alloc ?_ _)); exact BK320.out) hb); have n2_ := Aside0.mk (blk_below (g := gb321) (o := .cells #[.int .i64 a3_0, .int .i64 a3_1, .int .u64 a3_2, .int .u16 a3_3] 52 (0, 0)) (by (with_reducible repeat (first | refine blk_drewN ?_ _ | refine blk_drew ?_ | refine blk_alloc ?_ _)); exact BK321.out) hb); have n3_ := Aside0.mk (below_step (by repeat (first | (with_reducible first | exact HB.out | apply below_alloc | apply pw_below_drewN | apply below_drew1 | refine below_set ?_ GE320.out | refine below_set ?_ GE321.out) | exact HB.out)) hb); clear BK320; clear BK321; clear HB; have HO326 := n0_; have BK320 := n1_; have BK321 := n2_; have HB := n3_; clear n0_ n1_ n2_ n3_; clear hb ho42; obtain ⟨Ao43, co43, eo43⟩ := Kd.R_slice HO326.out; subst eo43) | (go_at_call 26; (with_reducible refine (palletref01_May.calls k _ _ y324 t327 _ ?side1 ?side2 A36.out).mono ?_); (case side1 => repeat (first | exact (Kd.R_reads' HO326.out).2.2 | (with_reducible refine Kd.C_alloc ?_ _) | (with_reducible refine Kd.C_drewN ?_ _) | (with_reducible refine Kd.C_drew ?_))); (case side2 => exact (Kd.R_reads' HO326.out).2.1); rintro e w' ⟨rfl, ⟨nd, rfl⟩⟩))
         go_meet
         case rel => exact ⟨_, (!t327), (by first | rfl | (simp; done) | (simp [*]; done)), H', ⟨by first | omega | exact Nat.le_refl _⟩, ⟨by (with_reducible repeat (first | refine blk_drewN ?_ _ | refine blk_drew ?_ | refine blk_alloc ?_ _)); exact BK320.out⟩, ⟨by (with_reducible repeat (first | refine blk_drewN ?_ _ | refine blk_drew ?_ | refine blk_alloc ?_ _)); exact BK321.out⟩, ⟨by repeat (first | (with_reducible first | exact HB.out | apply below_alloc | apply pw_below_drewN | apply below_drew1 | refine below_set ?_ GE320.out | refine below_set ?_ GE321.out) | exact HB.out)⟩⟩
   ·rw [if_neg c13] at H
    have c13b0 : (t323 == 0) = false := beq_eq_false_iff_ne.mpr c13
    have c13b1 : (t323 != 0) = true := bne_iff_ne.mpr c13
    (first | rw [c13b0] | (simp only [i64_w, i32_w]; rw [c13b0]) | skip)
    have H' := Aside0.mk H
    clear H
    have hnb44 := NB320_321.out
    have hnc44 := NB321_320.out
    have hcz45_0 : w11.cell? ⟨gb320, 0, none⟩ = some (.int .i64 a0_0) := (blk_cell BK320.out 0).trans rfl
    have hcz45_1 : w11.cell? ⟨gb320, 1, none⟩ = some (.int .i64 a0_1) := (blk_cell BK320.out 1).trans rfl
    have hcz45_2 : w11.cell? ⟨gb320, 2, none⟩ = some (.int .i64 a0_2) := (blk_cell BK320.out 2).trans rfl
    have hcz45_3 : w11.cell? ⟨gb320, 3, none⟩ = some (.int .i64 a0_3) := (blk_cell BK320.out 3).trans rfl
    have hcz45_4 : w11.cell? ⟨gb320, 4, none⟩ = some (.int .i64 a0_4) := (blk_cell BK320.out 4).trans rfl
    have hfz45_0 := blk_frozen BK320.out 0
    have hfz45_1 := blk_frozen BK320.out 1
    have hfz45_2 := blk_frozen BK320.out 2
    have hfz45_3 := blk_frozen BK320.out 3
    have hfz45_4 := blk_frozen BK320.out 4
    go_wp2_with (first | ((with_reducible refine gate_callee (f := 13) rfl ?_); refine goesL_ (some 27) rfl rfl Try.func13 (by kernel_rfl) rfl #[.agg #[.int .i64 a0_0, .int .i64 a0_1, .int .i64 a0_2, .int .i64 a0_3, .int .i64 a0_4]] rfl (by (try simp only [List.map_toArray, List.map_cons, List.map_nil]); first | done | rfl | (simp only [List.length_drop, List.length_take]; rfl)) ?_; (with_reducible refine (medl_Check.calls a0_0 a0_1 a0_2 a0_3 a0_4 t323 _ A12.out).mono ?_); rintro e w46 ⟨rfl, hb⟩; refine ⟨_, rfl, ?_⟩; have n0_ := Aside0.mk (blk_below (g := gb320) (o := .cells #[.int .i64 a0_0, .int .i64 a0_1, .int .i64 a0_2, .int .i64 a0_3, .int .i64 a0_4] 23 (0, 0)) (by (with_reducible repeat (first | refine blk_drewN ?_ _ | refine blk_drew ?_ | refine blk_alloc ?_ _)); exact BK320.out) hb); have n1_ := Aside0.mk (blk_below (g := gb321) (o := .cells #[.int .i64 a3_0, .int .i64 a3_1, .int .u64 a3_2, .int .u16 a3_3] 52 (0, 0)) (by (with_reducible repeat (first | refine blk_drewN ?_ _ | refine blk_drew ?_ | refine blk_alloc ?_ _)); exact BK321.out) hb); have n2_ := Aside0.mk (below_step (by repeat (first | (with_reducible first | exact HB.out | apply below_alloc | apply pw_below_drewN | apply below_drew1 | refine below_set ?_ GE320.out | refine below_set ?_ GE321.out) | exact HB.out)) hb); clear BK320; clear BK321; clear HB; have BK320 := n0_; have BK321 := n1_; have HB := n2_; clear n0_ n1_ n2_; (try clear hb); (try clear hb2); (try clear hk); (try clear hi)))
    go_meet
    case rel => exact ⟨_, (true), (by first | rfl | (simp; done) | (simp [*]; done)), H', ⟨by first | omega | exact Nat.le_refl _⟩, ⟨by (with_reducible repeat (first | refine blk_drewN ?_ _ | refine blk_drew ?_ | refine blk_alloc ?_ _)); exact BK320.out⟩, ⟨by (with_reducible repeat (first | refine blk_drewN ?_ _ | refine blk_drew ?_ | refine blk_alloc ?_ _)); exact BK321.out⟩, ⟨by repeat (first | (with_reducible first | exact HB.out | apply below_alloc | apply pw_below_drewN | apply below_drew1 | refine below_set ?_ GE320.out | refine below_set ?_ GE321.out) | exact HB.out)⟩⟩
  case rest =>
   clear HC8
   try clear c1
   try clear c2
   try clear p2
   try clear c3
   try clear c4
   try clear c7
   try clear c9
   try clear c13
   try clear c13b0
   try clear c13b1
   try clear c14
   try clear c14b0
   try clear c15
   try clear c18
   try clear c18b0
   try clear c19
   try clear c21
   try clear c22
   try clear c22b0
   try clear c23
   try clear c26
   try clear c26b0
   try clear c27
   try clear c31
   try clear c31b0
   try clear c32
   try clear c37
   try clear c44
   try clear hcz16_0
   try clear hcz16_1
   try clear hcz16_2
   try clear hcz16_3
   try clear hcz16_4
   try clear hcz20_0
   try clear hcz20_1
   try clear hcz20_2
   try clear hcz20_3
   try clear hcz20_4
   try clear hcz24_0
   try clear hcz24_1
   try clear hcz24_2
   try clear hcz24_3
   try clear hcz24_4
   try clear hcz28_0
   try clear hcz28_1
   try clear hcz28_2
   try clear hcz28_3
   try clear hcz28_4
   try clear hcz30_0
   try clear hcz30_1
   try clear hcz30_2
   try clear hcz30_3
   try clear hcz30_4
   try clear hcz33_0
   try clear hcz33_1
   try clear hcz33_2
   try clear hcz33_3
   try clear hcz33_4
   try clear hcz35_0
   try clear hcz35_1
   try clear hcz35_2
   try clear hcz35_3
   try clear hcz35_4
   try clear hcz38_0
   try clear hcz38_1
   try clear hcz38_2
   try clear hcz38_3
   try clear hcz38_4
   try clear hcz40_0
   try clear hcz40_1
   try clear hcz40_2
   try clear hcz40_3
   try clear hcz40_4
   try clear hcz45_0
   try clear hcz45_1
   try clear hcz45_2
   try clear hcz45_3
   try clear hcz45_4
   try clear hfz16_0
   try clear hfz16_1
   try clear hfz16_2
   try clear hfz16_3
   try clear hfz16_4
   try clear hfz20_0
   try clear hfz20_1
   try clear hfz20_2
   try clear hfz20_3
   try clear hfz20_4
   try clear hfz24_0
   try clear hfz24_1
   try clear hfz24_2
   try clear hfz24_3
   try clear hfz24_4
   try clear hfz28_0
   try clear hfz28_1
   try clear hfz28_2
   try clear hfz28_3
   try clear hfz28_4
   try clear hfz30_0
   try clear hfz30_1
   try clear hfz30_2
   try clear hfz30_3
   try clear hfz30_4
   try clear hfz33_0
   try clear hfz33_1
   try clear hfz33_2
   try clear hfz33_3
   try clear hfz33_4
   try clear hfz35_0
   try clear hfz35_1
   try clear hfz35_2
   try clear hfz35_3
   try clear hfz35_4
   try clear hfz38_0
   try clear hfz38_1
   try clear hfz38_2
   try clear hfz38_3
   try clear hfz38_4
   try clear hfz40_0
   try clear hfz40_1
   try clear hfz40_2
   try clear hfz40_3
   try clear hfz40_4
   try clear hfz45_0
   try clear hfz45_1
   try clear hfz45_2
   try clear hfz45_3
   try clear hfz45_4
   obtain ⟨kq, x56_7, rfl, HA, HJ7, BK320, BK321, HB⟩ := hcut
   cases kq with
   | zero => exact absurd HA.out (by simp [palletlaw12_GuardCold.j0])
   | succ kj7 =>
    have H := HA.out
    clear HA
    simp only [palletlaw12_GuardCold.j0] at H
    by_cases c47 : x56_7 = true
    ·subst c47
     have H1 : (some true) = some r := by rw [if_pos rfl] at H; exact H
     clear H
     have H := H1
     clear H1
     obtain rfl := Option.some.inj H
     go_wp2
     go_ret
     exact ⟨by first | rfl | (simp [errW_none, errW_some] <;> rfl) | (simp [*, errW_none, errW_some] <;> rfl), by repeat (first | (with_reducible first | exact HB.out | apply below_alloc | apply pw_below_drewN | apply below_drew1 | refine below_set ?_ GE320.out | refine below_set ?_ GE321.out) | exact HB.out)⟩
    ·replace c47 := Bool.eq_false_iff.mpr c47
     subst c47
     have H1 : ((guard_Pass.f kj7 false false 0 0 a0_0 a0_1 a0_2 a0_3 a0_4 a1 a2 a3_0 a3_1 a3_2 a3_3 a4).bind fun bt328 => (if bt328.2.2.2.2.1 = true then (if bt328.2.2.2.2.2 = 0 then (palletlaw12_GuardCold.j1 kj7 a1 a2 a4 true (bt328.1 || (bt328.2.1 || (!(bt328.2.2.1 == 0) || (!(bt328.2.2.2.1 == 0))))) a0_0 a0_1 a0_2 a0_3 a0_4 a3_0 a3_1 a3_2 a3_3) else (palletlaw12_GuardCold.j1 kj7 a1 a2 a4 true true a0_0 a0_1 a0_2 a0_3 a0_4 a3_0 a3_1 a3_2 a3_3)) else (palletlaw12_GuardCold.j1 kj7 a1 a2 a4 true true a0_0 a0_1 a0_2 a0_3 a0_4 a3_0 a3_1 a3_2 a3_3))) = some r := by rw [if_neg (show ¬ (false = true) by decide)] at H; exact H
     clear H
     have H := H1
     clear H1
     replace H := Option.bind_eq_some_iff.mp H
     obtain ⟨⟨t328, t329, t330, t331, t332, t333⟩, A480, H⟩ := H
     replace H : (if t332 = true then (if t333 = 0 then (palletlaw12_GuardCold.j1 kj7 a1 a2 a4 true (t328 || (t329 || (!(t330 == 0) || (!(t331 == 0))))) a0_0 a0_1 a0_2 a0_3 a0_4 a3_0 a3_1 a3_2 a3_3) else (palletlaw12_GuardCold.j1 kj7 a1 a2 a4 true true a0_0 a0_1 a0_2 a0_3 a0_4 a3_0 a3_1 a3_2 a3_3)) else (palletlaw12_GuardCold.j1 kj7 a1 a2 a4 true true a0_0 a0_1 a0_2 a0_3 a0_4 a3_0 a3_1 a3_2 a3_3)) = some r := H
     have A48 := Aside0.mk A480
     clear A480
     have HC49 := Aside0.mk H
     clear H
     have hnb50 := NB320_321.out
     have hnc50 := NB321_320.out
     have hcz51_0 : wc.cell? ⟨gb320, 0, none⟩ = some (.int .i64 a0_0) := (blk_cell BK320.out 0).trans rfl
     have hcz51_1 : wc.cell? ⟨gb320, 1, none⟩ = some (.int .i64 a0_1) := (blk_cell BK320.out 1).trans rfl
     have hcz51_2 : wc.cell? ⟨gb320, 2, none⟩ = some (.int .i64 a0_2) := (blk_cell BK320.out 2).trans rfl
     have hcz51_3 : wc.cell? ⟨gb320, 3, none⟩ = some (.int .i64 a0_3) := (blk_cell BK320.out 3).trans rfl
     have hcz51_4 : wc.cell? ⟨gb320, 4, none⟩ = some (.int .i64 a0_4) := (blk_cell BK320.out 4).trans rfl
     have hfz51_0 := blk_frozen BK320.out 0
     have hfz51_1 := blk_frozen BK320.out 1
     have hfz51_2 := blk_frozen BK320.out 2
     have hfz51_3 := blk_frozen BK320.out 3
     have hfz51_4 := blk_frozen BK320.out 4
     have hcz52_0 : wc.cell? ⟨gb321, 0, none⟩ = some (.int .i64 a3_0) := (blk_cell BK321.out 0).trans rfl
     have hcz52_1 : wc.cell? ⟨gb321, 1, none⟩ = some (.int .i64 a3_1) := (blk_cell BK321.out 1).trans rfl
     have hcz52_2 : wc.cell? ⟨gb321, 2, none⟩ = some (.int .u64 a3_2) := (blk_cell BK321.out 2).trans rfl
     have hcz52_3 : wc.cell? ⟨gb321, 3, none⟩ = some (.int .u16 a3_3) := (blk_cell BK321.out 3).trans rfl
     have hfz52_0 := blk_frozen BK321.out 0
     have hfz52_1 := blk_frozen BK321.out 1
     have hfz52_2 := blk_frozen BK321.out 2
     have hfz52_3 := blk_frozen BK321.out 3
     go_upto_region 7 with (first | ((with_reducible refine gate_callee (f := 27) rfl ?_); refine goesL_ (some 65) rfl rfl Try.func27 (by kernel_rfl) rfl #[.agg #[.bool false, .bool false, .int .u64 0, .int .i64 0], .agg #[.int .i64 a0_0, .int .i64 a0_1, .int .i64 a0_2, .int .i64 a0_3, .int .i64 a0_4], .int .i64 a1, .int .i64 a2, .agg #[.int .i64 a3_0, .int .i64 a3_1, .int .u64 a3_2, .int .u16 a3_3], .int .i64 a4] rfl (by (try simp only [List.map_toArray, List.map_cons, List.map_nil]); first | done | rfl | (simp only [List.length_drop, List.length_take]; rfl)) ?_; (with_reducible refine (guard_Pass.calls kj7 false false 0 0 a0_0 a0_1 a0_2 a0_3 a0_4 a1 a2 a3_0 a3_1 a3_2 a3_3 a4 t328 t329 t330 t331 t332 t333 _ A48.out).mono ?_); rintro e w53 ⟨rfl, hb⟩; refine ⟨_, rfl, ?_⟩; have n0_ := Aside0.mk (blk_below (g := gb320) (o := .cells #[.int .i64 a0_0, .int .i64 a0_1, .int .i64 a0_2, .int .i64 a0_3, .int .i64 a0_4] 23 (0, 0)) (by (with_reducible repeat (first | refine blk_drewN ?_ _ | refine blk_drew ?_ | refine blk_alloc ?_ _)); exact BK320.out) hb); have n1_ := Aside0.mk (blk_below (g := gb321) (o := .cells #[.int .i64 a3_0, .int .i64 a3_1, .int .u64 a3_2, .int .u16 a3_3] 52 (0, 0)) (by (with_reducible repeat (first | refine blk_drewN ?_ _ | refine blk_drew ?_ | refine blk_alloc ?_ _)); exact BK321.out) hb); have n2_ := Aside0.mk (below_step (by repeat (first | (with_reducible first | exact HB.out | apply below_alloc | apply pw_below_drewN | apply below_drew1 | refine below_set ?_ GE320.out | refine below_set ?_ GE321.out) | exact HB.out)) hb); clear BK320; clear BK321; clear HB; have BK320 := n0_; have BK321 := n1_; have HB := n2_; clear n0_ n1_ n2_; (try clear hb); (try clear hb2); (try clear hk); (try clear hi)) | ((with_reducible refine gate_dst (N := 12) rfl ?_); (try (refine gate_guard (by rfl) ?_; dsimp only)); refine box_event ?hg (N := 12) ?hd (cs := #[.bool false, .bool false, .int .u64 0, .int .i64 0]) (t := 55) ?hr ?_; (case hd => rfl); (case hg => rfl); (case hr => first | (go_simp; done) | (go_simp; rfl)); intro gb334 hg w54 hbox hb; have n0_ := Aside0.mk (blk_below (g := gb320) (o := .cells #[.int .i64 a0_0, .int .i64 a0_1, .int .i64 a0_2, .int .i64 a0_3, .int .i64 a0_4] 23 (0, 0)) (by (with_reducible repeat (first | refine blk_drewN ?_ _ | refine blk_drew ?_ | refine blk_alloc ?_ _)); exact BK320.out) hb); have n1_ := Aside0.mk (blk_below (g := gb321) (o := .cells #[.int .i64 a3_0, .int .i64 a3_1, .int .u64 a3_2, .int .u16 a3_3] 52 (0, 0)) (by (with_reducible repeat (first | refine blk_drewN ?_ _ | refine blk_drew ?_ | refine blk_alloc ?_ _)); exact BK321.out) hb); have n2_ := Aside0.mk (below_step (by repeat (first | (with_reducible first | exact HB.out | apply below_alloc | apply pw_below_drewN | apply below_drew1 | refine below_set ?_ GE320.out | refine below_set ?_ GE321.out) | exact HB.out)) hb); have n3_ := Aside0.mk (hbox); have n4_ := Aside0.mk ((by rw [hg]; exact (below_size (by repeat (first | (with_reducible first | exact HB.out | apply below_alloc | apply pw_below_drewN | apply below_drew1 | refine below_set ?_ GE320.out | refine below_set ?_ GE321.out) | exact HB.out))) : w.heap.size ≤ gb334)); have n5_ := Aside0.mk ((by rw [hg]; exact (below_size (by repeat (first | (with_reducible first | exact HB.out | apply below_alloc | apply pw_below_drewN | apply below_drew1 | refine below_set ?_ GE320.out | refine below_set ?_ GE321.out) | exact HB.out))) : w.heap.size ≤ gb334)); have n6_ := Aside0.mk ((by rw [hg]; exact Nat.ne_of_lt (blk_lt (g := gb320) (o := .cells #[.int .i64 a0_0, .int .i64 a0_1, .int .i64 a0_2, .int .i64 a0_3, .int .i64 a0_4] 23 (0, 0)) (by (with_reducible repeat (first | refine blk_drewN ?_ _ | refine blk_drew ?_ | refine blk_alloc ?_ _)); exact BK320.out)) : gb320 ≠ gb334)); have n7_ := Aside0.mk ((by rw [hg]; exact Nat.ne_of_gt (blk_lt (g := gb320) (o := .cells #[.int .i64 a0_0, .int .i64 a0_1, .int .i64 a0_2, .int .i64 a0_3, .int .i64 a0_4] 23 (0, 0)) (by (with_reducible repeat (first | refine blk_drewN ?_ _ | refine blk_drew ?_ | refine blk_alloc ?_ _)); exact BK320.out)) : gb334 ≠ gb320)); have n8_ := Aside0.mk ((by rw [hg]; exact Nat.ne_of_lt (blk_lt (g := gb321) (o := .cells #[.int .i64 a3_0, .int .i64 a3_1, .int .u64 a3_2, .int .u16 a3_3] 52 (0, 0)) (by (with_reducible repeat (first | refine blk_drewN ?_ _ | refine blk_drew ?_ | refine blk_alloc ?_ _)); exact BK321.out)) : gb321 ≠ gb334)); have n9_ := Aside0.mk ((by rw [hg]; exact Nat.ne_of_gt (blk_lt (g := gb321) (o := .cells #[.int .i64 a3_0, .int .i64 a3_1, .int .u64 a3_2, .int .u16 a3_3] 52 (0, 0)) (by (with_reducible repeat (first | refine blk_drewN ?_ _ | refine blk_drew ?_ | refine blk_alloc ?_ _)); exact BK321.out)) : gb334 ≠ gb321)); clear BK320; clear BK321; clear HB; have BK320 := n0_; have BK321 := n1_; have HB := n2_; have BK334 := n3_; have GW334 := n4_; have GE334 := n5_; have NB320_334 := n6_; have NB334_320 := n7_; have NB321_334 := n8_; have NB334_321 := n9_; clear n0_ n1_ n2_ n3_ n4_ n5_ n6_ n7_ n8_ n9_; clear hb hbox hg; have hnb55 := NB334_320.out; have hnc55 := NB320_334.out; have hnb56 := NB334_321.out; have hnc56 := NB321_334.out; have hcz57_0 : w54.cell? ⟨gb334, 0, none⟩ = some (.bool false) := (blk_cell BK334.out 0).trans rfl; have hcz57_1 : w54.cell? ⟨gb334, 1, none⟩ = some (.bool false) := (blk_cell BK334.out 1).trans rfl; have hcz57_2 : w54.cell? ⟨gb334, 2, none⟩ = some (.int .u64 0) := (blk_cell BK334.out 2).trans rfl; have hcz57_3 : w54.cell? ⟨gb334, 3, none⟩ = some (.int .i64 0) := (blk_cell BK334.out 3).trans rfl; have hfz57_0 := blk_frozen BK334.out 0; have hfz57_1 := blk_frozen BK334.out 1; have hfz57_2 := blk_frozen BK334.out 2; have hfz57_3 := blk_frozen BK334.out 3))
     (try simp only [Act.put, List.setIfInBounds_toArray, List.set_cons_zero, List.set_cons_succ])
     go_cut [79] (fun v79 wc => ∃ (kq : Nat) (x79_48 : Bool), v79 = .bool x79_48 ∧ Aside0 (palletlaw12_GuardCold.j1 kq a1 a2 a4 true x79_48 a0_0 a0_1 a0_2 a0_3 a0_4 a3_0 a3_1 a3_2 a3_3 = some r) ∧ Aside0 (kq ≤ kj7) ∧ Aside0 (wc.heap[gb320]? = some (.cells #[.int .i64 a0_0, .int .i64 a0_1, .int .i64 a0_2, .int .i64 a0_3, .int .i64 a0_4] 23 (0, 0))) ∧ Aside0 (wc.heap[gb321]? = some (.cells #[.int .i64 a3_0, .int .i64 a3_1, .int .u64 a3_2, .int .u16 a3_3] 52 (0, 0))) ∧ Aside0 (wc.heap[gb334]? = some (.cells #[.bool t328, .bool t329, .int .u64 t330, .int .i64 t331] 55 (0, 0))) ∧ Aside0 (Below w.heap.size w wc))
     case first =>
      have H := HC49.out
      clear HC49
      by_cases c58 : t332 = true
      ·subst c58
       have H1 : (if t333 = 0 then (palletlaw12_GuardCold.j1 kj7 a1 a2 a4 true (t328 || (t329 || (!(t330 == 0) || (!(t331 == 0))))) a0_0 a0_1 a0_2 a0_3 a0_4 a3_0 a3_1 a3_2 a3_3) else (palletlaw12_GuardCold.j1 kj7 a1 a2 a4 true true a0_0 a0_1 a0_2 a0_3 a0_4 a3_0 a3_1 a3_2 a3_3)) = some r := by rw [if_pos rfl] at H; exact H
       clear H
       have H := H1
       clear H1
       by_cases c59 : t333 = 0
       ·rw [if_pos c59] at H
        have c59b0 : (t333 == 0) = true := beq_iff_eq.mpr c59
        have c59b1 : (t333 != 0) = false := bne_eq_false_iff_eq.mpr c59
        clear c59
        (first | rw [c59b0] | (simp only [i64_w, i32_w]; rw [c59b0]) | skip)
        have H' := Aside0.mk H
        clear H
        have hnb60 := NB334_320.out
        have hnc60 := NB320_334.out
        have hnb61 := NB334_321.out
        have hnc61 := NB321_334.out
        have hcz62_0 : w54.cell? ⟨gb334, 0, none⟩ = some (.bool false) := (blk_cell BK334.out 0).trans rfl
        have hcz62_1 : w54.cell? ⟨gb334, 1, none⟩ = some (.bool false) := (blk_cell BK334.out 1).trans rfl
        have hcz62_2 : w54.cell? ⟨gb334, 2, none⟩ = some (.int .u64 0) := (blk_cell BK334.out 2).trans rfl
        have hcz62_3 : w54.cell? ⟨gb334, 3, none⟩ = some (.int .i64 0) := (blk_cell BK334.out 3).trans rfl
        have hfz62_0 := blk_frozen BK334.out 0
        have hfz62_1 := blk_frozen BK334.out 1
        have hfz62_2 := blk_frozen BK334.out 2
        have hfz62_3 := blk_frozen BK334.out 3
        go_wp2
        go_meet
        case rel => exact ⟨_, ((t328 || (t329 || (!(t330 == 0) || (!(t331 == 0)))))), (by first | rfl | (simp; done) | (simp [*]; done)), H', ⟨by have := HJ7.out; first | omega | exact Nat.le_refl _⟩, ⟨by (with_reducible repeat (first | refine blk_drewN ?_ _ | refine blk_drew ?_ | refine blk_alloc ?_ _)); refine blk_far ?_ NB320_334.out _; (with_reducible repeat (first | refine blk_drewN ?_ _ | refine blk_drew ?_ | refine blk_alloc ?_ _)); refine blk_far ?_ NB320_334.out _; (with_reducible repeat (first | refine blk_drewN ?_ _ | refine blk_drew ?_ | refine blk_alloc ?_ _)); refine blk_far ?_ NB320_334.out _; (with_reducible repeat (first | refine blk_drewN ?_ _ | refine blk_drew ?_ | refine blk_alloc ?_ _)); refine blk_far ?_ NB320_334.out _; (with_reducible repeat (first | refine blk_drewN ?_ _ | refine blk_drew ?_ | refine blk_alloc ?_ _)); exact BK320.out⟩, ⟨by (with_reducible repeat (first | refine blk_drewN ?_ _ | refine blk_drew ?_ | refine blk_alloc ?_ _)); refine blk_far ?_ NB321_334.out _; (with_reducible repeat (first | refine blk_drewN ?_ _ | refine blk_drew ?_ | refine blk_alloc ?_ _)); refine blk_far ?_ NB321_334.out _; (with_reducible repeat (first | refine blk_drewN ?_ _ | refine blk_drew ?_ | refine blk_alloc ?_ _)); refine blk_far ?_ NB321_334.out _; (with_reducible repeat (first | refine blk_drewN ?_ _ | refine blk_drew ?_ | refine blk_alloc ?_ _)); refine blk_far ?_ NB321_334.out _; (with_reducible repeat (first | refine blk_drewN ?_ _ | refine blk_drew ?_ | refine blk_alloc ?_ _)); exact BK321.out⟩, ⟨by (with_reducible repeat (first | refine blk_drewN ?_ _ | refine blk_drew ?_ | refine blk_alloc ?_ _)); refine blk_put (cs := #[.bool t328, .bool t329, .int .u64 t330, .int .i64 0]) ?_ 3 _ rfl; (with_reducible repeat (first | refine blk_drewN ?_ _ | refine blk_drew ?_ | refine blk_alloc ?_ _)); refine blk_put (cs := #[.bool t328, .bool t329, .int .u64 0, .int .i64 0]) ?_ 2 _ rfl; (with_reducible repeat (first | refine blk_drewN ?_ _ | refine blk_drew ?_ | refine blk_alloc ?_ _)); refine blk_put (cs := #[.bool t328, .bool false, .int .u64 0, .int .i64 0]) ?_ 1 _ rfl; (with_reducible repeat (first | refine blk_drewN ?_ _ | refine blk_drew ?_ | refine blk_alloc ?_ _)); refine blk_put (cs := #[.bool false, .bool false, .int .u64 0, .int .i64 0]) ?_ 0 _ rfl; (with_reducible repeat (first | refine blk_drewN ?_ _ | refine blk_drew ?_ | refine blk_alloc ?_ _)); exact BK334.out⟩, ⟨by repeat (first | (with_reducible first | exact HB.out | apply below_alloc | apply pw_below_drewN | apply below_drew1 | refine below_set ?_ GE320.out | refine below_set ?_ GE321.out | refine below_set ?_ GE334.out) | exact HB.out)⟩⟩
       ·rw [if_neg c59] at H
        have c59b0 : (t333 == 0) = false := beq_eq_false_iff_ne.mpr c59
        have c59b1 : (t333 != 0) = true := bne_iff_ne.mpr c59
        (first | rw [c59b0] | (simp only [i64_w, i32_w]; rw [c59b0]) | skip)
        have H' := Aside0.mk H
        clear H
        go_wp2
        go_meet
        case rel => exact ⟨_, (true), (by first | rfl | (simp; done) | (simp [*]; done)), H', ⟨by have := HJ7.out; first | omega | exact Nat.le_refl _⟩, ⟨by (with_reducible repeat (first | refine blk_drewN ?_ _ | refine blk_drew ?_ | refine blk_alloc ?_ _)); refine blk_far ?_ NB320_334.out _; (with_reducible repeat (first | refine blk_drewN ?_ _ | refine blk_drew ?_ | refine blk_alloc ?_ _)); refine blk_far ?_ NB320_334.out _; (with_reducible repeat (first | refine blk_drewN ?_ _ | refine blk_drew ?_ | refine blk_alloc ?_ _)); refine blk_far ?_ NB320_334.out _; (with_reducible repeat (first | refine blk_drewN ?_ _ | refine blk_drew ?_ | refine blk_alloc ?_ _)); refine blk_far ?_ NB320_334.out _; (with_reducible repeat (first | refine blk_drewN ?_ _ | refine blk_drew ?_ | refine blk_alloc ?_ _)); exact BK320.out⟩, ⟨by (with_reducible repeat (first | refine blk_drewN ?_ _ | refine blk_drew ?_ | refine blk_alloc ?_ _)); refine blk_far ?_ NB321_334.out _; (with_reducible repeat (first | refine blk_drewN ?_ _ | refine blk_drew ?_ | refine blk_alloc ?_ _)); refine blk_far ?_ NB321_334.out _; (with_reducible repeat (first | refine blk_drewN ?_ _ | refine blk_drew ?_ | refine blk_alloc ?_ _)); refine blk_far ?_ NB321_334.out _; (with_reducible repeat (first | refine blk_drewN ?_ _ | refine blk_drew ?_ | refine blk_alloc ?_ _)); refine blk_far ?_ NB321_334.out _; (with_reducible repeat (first | refine blk_drewN ?_ _ | refine blk_drew ?_ | refine blk_alloc ?_ _)); exact BK321.out⟩, ⟨by (with_reducible repeat (first | refine blk_drewN ?_ _ | refine blk_drew ?_ | refine blk_alloc ?_ _)); refine blk_put (cs := #[.bool t328, .bool t329, .int .u64 t330, .int .i64 0]) ?_ 3 _ rfl; (with_reducible repeat (first | refine blk_drewN ?_ _ | refine blk_drew ?_ | refine blk_alloc ?_ _)); refine blk_put (cs := #[.bool t328, .bool t329, .int .u64 0, .int .i64 0]) ?_ 2 _ rfl; (with_reducible repeat (first | refine blk_drewN ?_ _ | refine blk_drew ?_ | refine blk_alloc ?_ _)); refine blk_put (cs := #[.bool t328, .bool false, .int .u64 0, .int .i64 0]) ?_ 1 _ rfl; (with_reducible repeat (first | refine blk_drewN ?_ _ | refine blk_drew ?_ | refine blk_alloc ?_ _)); refine blk_put (cs := #[.bool false, .bool false, .int .u64 0, .int .i64 0]) ?_ 0 _ rfl; (with_reducible repeat (first | refine blk_drewN ?_ _ | refine blk_drew ?_ | refine blk_alloc ?_ _)); exact BK334.out⟩, ⟨by repeat (first | (with_reducible first | exact HB.out | apply below_alloc | apply pw_below_drewN | apply below_drew1 | refine below_set ?_ GE320.out | refine below_set ?_ GE321.out | refine below_set ?_ GE334.out) | exact HB.out)⟩⟩
      ·replace c58 := Bool.eq_false_iff.mpr c58
       subst c58
       have H1 : (palletlaw12_GuardCold.j1 kj7 a1 a2 a4 true true a0_0 a0_1 a0_2 a0_3 a0_4 a3_0 a3_1 a3_2 a3_3) = some r := by rw [if_neg (show ¬ (false = true) by decide)] at H; exact H
       clear H
       have H := H1
       clear H1
       have H' := Aside0.mk H
       clear H
       go_wp2
       go_meet
       case rel => exact ⟨_, (true), (by first | rfl | (simp; done) | (simp [*]; done)), H', ⟨by have := HJ7.out; first | omega | exact Nat.le_refl _⟩, ⟨by (with_reducible repeat (first | refine blk_drewN ?_ _ | refine blk_drew ?_ | refine blk_alloc ?_ _)); refine blk_far ?_ NB320_334.out _; (with_reducible repeat (first | refine blk_drewN ?_ _ | refine blk_drew ?_ | refine blk_alloc ?_ _)); refine blk_far ?_ NB320_334.out _; (with_reducible repeat (first | refine blk_drewN ?_ _ | refine blk_drew ?_ | refine blk_alloc ?_ _)); refine blk_far ?_ NB320_334.out _; (with_reducible repeat (first | refine blk_drewN ?_ _ | refine blk_drew ?_ | refine blk_alloc ?_ _)); refine blk_far ?_ NB320_334.out _; (with_reducible repeat (first | refine blk_drewN ?_ _ | refine blk_drew ?_ | refine blk_alloc ?_ _)); exact BK320.out⟩, ⟨by (with_reducible repeat (first | refine blk_drewN ?_ _ | refine blk_drew ?_ | refine blk_alloc ?_ _)); refine blk_far ?_ NB321_334.out _; (with_reducible repeat (first | refine blk_drewN ?_ _ | refine blk_drew ?_ | refine blk_alloc ?_ _)); refine blk_far ?_ NB321_334.out _; (with_reducible repeat (first | refine blk_drewN ?_ _ | refine blk_drew ?_ | refine blk_alloc ?_ _)); refine blk_far ?_ NB321_334.out _; (with_reducible repeat (first | refine blk_drewN ?_ _ | refine blk_drew ?_ | refine blk_alloc ?_ _)); refine blk_far ?_ NB321_334.out _; (with_reducible repeat (first | refine blk_drewN ?_ _ | refine blk_drew ?_ | refine blk_alloc ?_ _)); exact BK321.out⟩, ⟨by (with_reducible repeat (first | refine blk_drewN ?_ _ | refine blk_drew ?_ | refine blk_alloc ?_ _)); refine blk_put (cs := #[.bool t328, .bool t329, .int .u64 t330, .int .i64 0]) ?_ 3 _ rfl; (with_reducible repeat (first | refine blk_drewN ?_ _ | refine blk_drew ?_ | refine blk_alloc ?_ _)); refine blk_put (cs := #[.bool t328, .bool t329, .int .u64 0, .int .i64 0]) ?_ 2 _ rfl; (with_reducible repeat (first | refine blk_drewN ?_ _ | refine blk_drew ?_ | refine blk_alloc ?_ _)); refine blk_put (cs := #[.bool t328, .bool false, .int .u64 0, .int .i64 0]) ?_ 1 _ rfl; (with_reducible repeat (first | refine blk_drewN ?_ _ | refine blk_drew ?_ | refine blk_alloc ?_ _)); refine blk_put (cs := #[.bool false, .bool false, .int .u64 0, .int .i64 0]) ?_ 0 _ rfl; (with_reducible repeat (first | refine blk_drewN ?_ _ | refine blk_drew ?_ | refine blk_alloc ?_ _)); exact BK334.out⟩, ⟨by repeat (first | (with_reducible first | exact HB.out | apply below_alloc | apply pw_below_drewN | apply below_drew1 | refine below_set ?_ GE320.out | refine below_set ?_ GE321.out | refine below_set ?_ GE334.out) | exact HB.out)⟩⟩
     case rest =>
      clear HC49
      try clear c1
      try clear c2
      try clear p2
      try clear c3
      try clear c4
      try clear c5
      try clear c6
      try clear c7
      try clear c9
      try clear c13
      try clear c13b0
      try clear c13b1
      try clear c14
      try clear c14b0
      try clear c15
      try clear c18
      try clear c18b0
      try clear c19
      try clear c21
      try clear c22
      try clear c22b0
      try clear c23
      try clear c26
      try clear c26b0
      try clear c27
      try clear c31
      try clear c31b0
      try clear c32
      try clear c37
      try clear c44
      try clear c47
      try clear c50
      try clear c55
      try clear c56
      try clear c58
      try clear c59
      try clear c59b0
      try clear c59b1
      try clear c60
      try clear c61
      try clear hcz16_0
      try clear hcz16_1
      try clear hcz16_2
      try clear hcz16_3
      try clear hcz16_4
      try clear hcz20_0
      try clear hcz20_1
      try clear hcz20_2
      try clear hcz20_3
      try clear hcz20_4
      try clear hcz24_0
      try clear hcz24_1
      try clear hcz24_2
      try clear hcz24_3
      try clear hcz24_4
      try clear hcz28_0
      try clear hcz28_1
      try clear hcz28_2
      try clear hcz28_3
      try clear hcz28_4
      try clear hcz30_0
      try clear hcz30_1
      try clear hcz30_2
      try clear hcz30_3
      try clear hcz30_4
      try clear hcz33_0
      try clear hcz33_1
      try clear hcz33_2
      try clear hcz33_3
      try clear hcz33_4
      try clear hcz35_0
      try clear hcz35_1
      try clear hcz35_2
      try clear hcz35_3
      try clear hcz35_4
      try clear hcz38_0
      try clear hcz38_1
      try clear hcz38_2
      try clear hcz38_3
      try clear hcz38_4
      try clear hcz40_0
      try clear hcz40_1
      try clear hcz40_2
      try clear hcz40_3
      try clear hcz40_4
      try clear hcz45_0
      try clear hcz45_1
      try clear hcz45_2
      try clear hcz45_3
      try clear hcz45_4
      try clear hcz51_0
      try clear hcz51_1
      try clear hcz51_2
      try clear hcz51_3
      try clear hcz51_4
      try clear hcz52_0
      try clear hcz52_1
      try clear hcz52_2
      try clear hcz52_3
      try clear hcz57_0
      try clear hcz57_1
      try clear hcz57_2
      try clear hcz57_3
      try clear hcz62_0
      try clear hcz62_1
      try clear hcz62_2
      try clear hcz62_3
      try clear hfz16_0
      try clear hfz16_1
      try clear hfz16_2
      try clear hfz16_3
      try clear hfz16_4
      try clear hfz20_0
      try clear hfz20_1
      try clear hfz20_2
      try clear hfz20_3
      try clear hfz20_4
      try clear hfz24_0
      try clear hfz24_1
      try clear hfz24_2
      try clear hfz24_3
      try clear hfz24_4
      try clear hfz28_0
      try clear hfz28_1
      try clear hfz28_2
      try clear hfz28_3
      try clear hfz28_4
      try clear hfz30_0
      try clear hfz30_1
      try clear hfz30_2
      try clear hfz30_3
      try clear hfz30_4
      try clear hfz33_0
      try clear hfz33_1
      try clear hfz33_2
      try clear hfz33_3
      try clear hfz33_4
      try clear hfz35_0
      try clear hfz35_1
      try clear hfz35_2
      try clear hfz35_3
      try clear hfz35_4
      try clear hfz38_0
      try clear hfz38_1
      try clear hfz38_2
      try clear hfz38_3
      try clear hfz38_4
      try clear hfz40_0
      try clear hfz40_1
      try clear hfz40_2
      try clear hfz40_3
      try clear hfz40_4
      try clear hfz45_0
      try clear hfz45_1
      try clear hfz45_2
      try clear hfz45_3
      try clear hfz45_4
      try clear hfz51_0
      try clear hfz51_1
      try clear hfz51_2
      try clear hfz51_3
      try clear hfz51_4
      try clear hfz52_0
      try clear hfz52_1
      try clear hfz52_2
      try clear hfz52_3
      try clear hfz57_0
      try clear hfz57_1
      try clear hfz57_2
      try clear hfz57_3
      try clear hfz62_0
      try clear hfz62_1
      try clear hfz62_2
      try clear hfz62_3
      try clear p2
      obtain ⟨kq, x79_48, rfl, HA, HJ48, BK320, BK321, BK334, HB⟩ := hcut
      cases kq with
      | zero => exact absurd HA.out (by simp [palletlaw12_GuardCold.j1])
      | succ kj48 =>
       have H := HA.out
       clear HA
       simp only [palletlaw12_GuardCold.j1] at H
       by_cases c63 : x79_48 = true
       ·subst c63
        have H1 : (some false) = some r := by rw [if_pos rfl] at H; exact H
        clear H
        have H := H1
        clear H1
        obtain rfl := Option.some.inj H
        exact absurd hr_.out (by decide)
       ·replace c63 := Bool.eq_false_iff.mpr c63
        subst c63
        have H1 : ((guard_Pass.f kj48 true false 0 0 a0_0 a0_1 a0_2 a0_3 a0_4 a1 a2 a3_0 a3_1 a3_2 a3_3 a4).bind fun bt335 => ((medl_Owner.f a0_0 a0_1 a0_2 a0_3 a0_4 a3_2).bind fun bt342 => (if bt335.2.2.2.2.2 = 0 then (if a3_0 = 2 then (if a3_1 = a2 then (if bt342.2 = 0 then (palletlaw12_GuardCold.j2 kj48 a1 a2 a4 true bt335.2.2.2.2.1 (bt335.2.2.2.2.1 != (bt342.1 == a2)) a0_0 a0_1 a0_2 a0_3 a0_4 a3_0 a3_1 a3_2 a3_3 bt335.1 bt335.2.1 bt335.2.2.1 bt335.2.2.2.1) else (palletlaw12_GuardCold.j2 kj48 a1 a2 a4 true bt335.2.2.2.2.1 (bt335.2.2.2.2.1 != false) a0_0 a0_1 a0_2 a0_3 a0_4 a3_0 a3_1 a3_2 a3_3 bt335.1 bt335.2.1 bt335.2.2.1 bt335.2.2.2.1)) else (palletlaw12_GuardCold.j2 kj48 a1 a2 a4 true bt335.2.2.2.2.1 (bt335.2.2.2.2.1 != false) a0_0 a0_1 a0_2 a0_3 a0_4 a3_0 a3_1 a3_2 a3_3 bt335.1 bt335.2.1 bt335.2.2.1 bt335.2.2.2.1)) else (palletlaw12_GuardCold.j2 kj48 a1 a2 a4 true bt335.2.2.2.2.1 (bt335.2.2.2.2.1 != false) a0_0 a0_1 a0_2 a0_3 a0_4 a3_0 a3_1 a3_2 a3_3 bt335.1 bt335.2.1 bt335.2.2.1 bt335.2.2.2.1)) else (palletlaw12_GuardCold.j2 kj48 a1 a2 a4 true bt335.2.2.2.2.1 true a0_0 a0_1 a0_2 a0_3 a0_4 a3_0 a3_1 a3_2 a3_3 bt335.1 bt335.2.1 bt335.2.2.1 bt335.2.2.2.1)))) = some r := by rw [if_neg (show ¬ (false = true) by decide)] at H; exact H
        clear H
        have H := H1
        clear H1
        replace H := Option.bind_eq_some_iff.mp H
        obtain ⟨⟨t335, t336, t337, t338, t339, t340⟩, A640, H⟩ := H
        replace H : ((medl_Owner.f a0_0 a0_1 a0_2 a0_3 a0_4 a3_2).bind fun bt342 => (if t340 = 0 then (if a3_0 = 2 then (if a3_1 = a2 then (if bt342.2 = 0 then (palletlaw12_GuardCold.j2 kj48 a1 a2 a4 true t339 (t339 != (bt342.1 == a2)) a0_0 a0_1 a0_2 a0_3 a0_4 a3_0 a3_1 a3_2 a3_3 t335 t336 t337 t338) else (palletlaw12_GuardCold.j2 kj48 a1 a2 a4 true t339 (t339 != false) a0_0 a0_1 a0_2 a0_3 a0_4 a3_0 a3_1 a3_2 a3_3 t335 t336 t337 t338)) else (palletlaw12_GuardCold.j2 kj48 a1 a2 a4 true t339 (t339 != false) a0_0 a0_1 a0_2 a0_3 a0_4 a3_0 a3_1 a3_2 a3_3 t335 t336 t337 t338)) else (palletlaw12_GuardCold.j2 kj48 a1 a2 a4 true t339 (t339 != false) a0_0 a0_1 a0_2 a0_3 a0_4 a3_0 a3_1 a3_2 a3_3 t335 t336 t337 t338)) else (palletlaw12_GuardCold.j2 kj48 a1 a2 a4 true t339 true a0_0 a0_1 a0_2 a0_3 a0_4 a3_0 a3_1 a3_2 a3_3 t335 t336 t337 t338))) = some r := H
        have A64 := Aside0.mk A640
        clear A640
        replace H := Option.bind_eq_some_iff.mp H
        obtain ⟨⟨t342, t343⟩, A650, H⟩ := H
        replace H : (if t340 = 0 then (if a3_0 = 2 then (if a3_1 = a2 then (if t343 = 0 then (palletlaw12_GuardCold.j2 kj48 a1 a2 a4 true t339 (t339 != (t342 == a2)) a0_0 a0_1 a0_2 a0_3 a0_4 a3_0 a3_1 a3_2 a3_3 t335 t336 t337 t338) else (palletlaw12_GuardCold.j2 kj48 a1 a2 a4 true t339 (t339 != false) a0_0 a0_1 a0_2 a0_3 a0_4 a3_0 a3_1 a3_2 a3_3 t335 t336 t337 t338)) else (palletlaw12_GuardCold.j2 kj48 a1 a2 a4 true t339 (t339 != false) a0_0 a0_1 a0_2 a0_3 a0_4 a3_0 a3_1 a3_2 a3_3 t335 t336 t337 t338)) else (palletlaw12_GuardCold.j2 kj48 a1 a2 a4 true t339 (t339 != false) a0_0 a0_1 a0_2 a0_3 a0_4 a3_0 a3_1 a3_2 a3_3 t335 t336 t337 t338)) else (palletlaw12_GuardCold.j2 kj48 a1 a2 a4 true t339 true a0_0 a0_1 a0_2 a0_3 a0_4 a3_0 a3_1 a3_2 a3_3 t335 t336 t337 t338)) = some r := H
        have A65 := Aside0.mk A650
        clear A650
        have HC66 := Aside0.mk H
        clear H
        have hnb67 := NB320_321.out
        have hnc67 := NB321_320.out
        have hnb68 := NB320_334.out
        have hnc68 := NB334_320.out
        have hcz69_0 : wc.cell? ⟨gb320, 0, none⟩ = some (.int .i64 a0_0) := (blk_cell BK320.out 0).trans rfl
        have hcz69_1 : wc.cell? ⟨gb320, 1, none⟩ = some (.int .i64 a0_1) := (blk_cell BK320.out 1).trans rfl
        have hcz69_2 : wc.cell? ⟨gb320, 2, none⟩ = some (.int .i64 a0_2) := (blk_cell BK320.out 2).trans rfl
        have hcz69_3 : wc.cell? ⟨gb320, 3, none⟩ = some (.int .i64 a0_3) := (blk_cell BK320.out 3).trans rfl
        have hcz69_4 : wc.cell? ⟨gb320, 4, none⟩ = some (.int .i64 a0_4) := (blk_cell BK320.out 4).trans rfl
        have hfz69_0 := blk_frozen BK320.out 0
        have hfz69_1 := blk_frozen BK320.out 1
        have hfz69_2 := blk_frozen BK320.out 2
        have hfz69_3 := blk_frozen BK320.out 3
        have hfz69_4 := blk_frozen BK320.out 4
        have hnb70 := NB321_334.out
        have hnc70 := NB334_321.out
        have hcz71_0 : wc.cell? ⟨gb321, 0, none⟩ = some (.int .i64 a3_0) := (blk_cell BK321.out 0).trans rfl
        have hcz71_1 : wc.cell? ⟨gb321, 1, none⟩ = some (.int .i64 a3_1) := (blk_cell BK321.out 1).trans rfl
        have hcz71_2 : wc.cell? ⟨gb321, 2, none⟩ = some (.int .u64 a3_2) := (blk_cell BK321.out 2).trans rfl
        have hcz71_3 : wc.cell? ⟨gb321, 3, none⟩ = some (.int .u16 a3_3) := (blk_cell BK321.out 3).trans rfl
        have hfz71_0 := blk_frozen BK321.out 0
        have hfz71_1 := blk_frozen BK321.out 1
        have hfz71_2 := blk_frozen BK321.out 2
        have hfz71_3 := blk_frozen BK321.out 3
        go_upto_region 11 with (first | ((with_reducible refine gate_callee (f := 27) rfl ?_); refine goesL_ (some 87) rfl rfl Try.func27 (by kernel_rfl) rfl #[.agg #[.bool true, .bool false, .int .u64 0, .int .i64 0], .agg #[.int .i64 a0_0, .int .i64 a0_1, .int .i64 a0_2, .int .i64 a0_3, .int .i64 a0_4], .int .i64 a1, .int .i64 a2, .agg #[.int .i64 a3_0, .int .i64 a3_1, .int .u64 a3_2, .int .u16 a3_3], .int .i64 a4] rfl (by (try simp only [List.map_toArray, List.map_cons, List.map_nil]); first | done | rfl | (simp only [List.length_drop, List.length_take]; rfl)) ?_; (with_reducible refine (guard_Pass.calls kj48 true false 0 0 a0_0 a0_1 a0_2 a0_3 a0_4 a1 a2 a3_0 a3_1 a3_2 a3_3 a4 t335 t336 t337 t338 t339 t340 _ A64.out).mono ?_); rintro e w72 ⟨rfl, hb⟩; refine ⟨_, rfl, ?_⟩; have n0_ := Aside0.mk (blk_below (g := gb320) (o := .cells #[.int .i64 a0_0, .int .i64 a0_1, .int .i64 a0_2, .int .i64 a0_3, .int .i64 a0_4] 23 (0, 0)) (by (with_reducible repeat (first | refine blk_drewN ?_ _ | refine blk_drew ?_ | refine blk_alloc ?_ _)); exact BK320.out) hb); have n1_ := Aside0.mk (blk_below (g := gb321) (o := .cells #[.int .i64 a3_0, .int .i64 a3_1, .int .u64 a3_2, .int .u16 a3_3] 52 (0, 0)) (by (with_reducible repeat (first | refine blk_drewN ?_ _ | refine blk_drew ?_ | refine blk_alloc ?_ _)); exact BK321.out) hb); have n2_ := Aside0.mk (blk_below (g := gb334) (o := .cells #[.bool t328, .bool t329, .int .u64 t330, .int .i64 t331] 55 (0, 0)) (by (with_reducible repeat (first | refine blk_drewN ?_ _ | refine blk_drew ?_ | refine blk_alloc ?_ _)); exact BK334.out) hb); have n3_ := Aside0.mk (below_step (by repeat (first | (with_reducible first | exact HB.out | apply below_alloc | apply pw_below_drewN | apply below_drew1 | refine below_set ?_ GE320.out | refine below_set ?_ GE321.out | refine below_set ?_ GE334.out) | exact HB.out)) hb); clear BK320; clear BK321; clear BK334; clear HB; have BK320 := n0_; have BK321 := n1_; have BK334 := n2_; have HB := n3_; clear n0_ n1_ n2_ n3_; (try clear hb); (try clear hb2); (try clear hk); (try clear hi)) | ((with_reducible refine gate_dst (N := 15) rfl ?_); (try (refine gate_guard (by rfl) ?_; dsimp only)); refine box_event ?hg (N := 15) ?hd (cs := #[.bool false, .bool false, .int .u64 0, .int .i64 0]) (t := 55) ?hr ?_; (case hd => rfl); (case hg => rfl); (case hr => first | (go_simp; done) | (go_simp; rfl)); intro gb341 hg w73 hbox hb; have n0_ := Aside0.mk (blk_below (g := gb320) (o := .cells #[.int .i64 a0_0, .int .i64 a0_1, .int .i64 a0_2, .int .i64 a0_3, .int .i64 a0_4] 23 (0, 0)) (by (with_reducible repeat (first | refine blk_drewN ?_ _ | refine blk_drew ?_ | refine blk_alloc ?_ _)); exact BK320.out) hb); have n1_ := Aside0.mk (blk_below (g := gb321) (o := .cells #[.int .i64 a3_0, .int .i64 a3_1, .int .u64 a3_2, .int .u16 a3_3] 52 (0, 0)) (by (with_reducible repeat (first | refine blk_drewN ?_ _ | refine blk_drew ?_ | refine blk_alloc ?_ _)); exact BK321.out) hb); have n2_ := Aside0.mk (blk_below (g := gb334) (o := .cells #[.bool t328, .bool t329, .int .u64 t330, .int .i64 t331] 55 (0, 0)) (by (with_reducible repeat (first | refine blk_drewN ?_ _ | refine blk_drew ?_ | refine blk_alloc ?_ _)); exact BK334.out) hb); have n3_ := Aside0.mk (below_step (by repeat (first | (with_reducible first | exact HB.out | apply below_alloc | apply pw_below_drewN | apply below_drew1 | refine below_set ?_ GE320.out | refine below_set ?_ GE321.out | refine below_set ?_ GE334.out) | exact HB.out)) hb); have n4_ := Aside0.mk (hbox); have n5_ := Aside0.mk ((by rw [hg]; exact (below_size (by repeat (first | (with_reducible first | exact HB.out | apply below_alloc | apply pw_below_drewN | apply below_drew1 | refine below_set ?_ GE320.out | refine below_set ?_ GE321.out | refine below_set ?_ GE334.out) | exact HB.out))) : w.heap.size ≤ gb341)); have n6_ := Aside0.mk ((by rw [hg]; exact (below_size (by repeat (first | (with_reducible first | exact HB.out | apply below_alloc | apply pw_below_drewN | apply below_drew1 | refine below_set ?_ GE320.out | refine below_set ?_ GE321.out | refine below_set ?_ GE334.out) | exact HB.out))) : w.heap.size ≤ gb341)); have n7_ := Aside0.mk ((by rw [hg]; exact Nat.ne_of_lt (blk_lt (g := gb320) (o := .cells #[.int .i64 a0_0, .int .i64 a0_1, .int .i64 a0_2, .int .i64 a0_3, .int .i64 a0_4] 23 (0, 0)) (by (with_reducible repeat (first | refine blk_drewN ?_ _ | refine blk_drew ?_ | refine blk_alloc ?_ _)); exact BK320.out)) : gb320 ≠ gb341)); have n8_ := Aside0.mk ((by rw [hg]; exact Nat.ne_of_gt (blk_lt (g := gb320) (o := .cells #[.int .i64 a0_0, .int .i64 a0_1, .int .i64 a0_2, .int .i64 a0_3, .int .i64 a0_4] 23 (0, 0)) (by (with_reducible repeat (first | refine blk_drewN ?_ _ | refine blk_drew ?_ | refine blk_alloc ?_ _)); exact BK320.out)) : gb341 ≠ gb320)); have n9_ := Aside0.mk ((by rw [hg]; exact Nat.ne_of_lt (blk_lt (g := gb321) (o := .cells #[.int .i64 a3_0, .int .i64 a3_1, .int .u64 a3_2, .int .u16 a3_3] 52 (0, 0)) (by (with_reducible repeat (first | refine blk_drewN ?_ _ | refine blk_drew ?_ | refine blk_alloc ?_ _)); exact BK321.out)) : gb321 ≠ gb341)); have n10_ := Aside0.mk ((by rw [hg]; exact Nat.ne_of_gt (blk_lt (g := gb321) (o := .cells #[.int .i64 a3_0, .int .i64 a3_1, .int .u64 a3_2, .int .u16 a3_3] 52 (0, 0)) (by (with_reducible repeat (first | refine blk_drewN ?_ _ | refine blk_drew ?_ | refine blk_alloc ?_ _)); exact BK321.out)) : gb341 ≠ gb321)); have n11_ := Aside0.mk ((by rw [hg]; exact Nat.ne_of_lt (blk_lt (g := gb334) (o := .cells #[.bool t328, .bool t329, .int .u64 t330, .int .i64 t331] 55 (0, 0)) (by (with_reducible repeat (first | refine blk_drewN ?_ _ | refine blk_drew ?_ | refine blk_alloc ?_ _)); exact BK334.out)) : gb334 ≠ gb341)); have n12_ := Aside0.mk ((by rw [hg]; exact Nat.ne_of_gt (blk_lt (g := gb334) (o := .cells #[.bool t328, .bool t329, .int .u64 t330, .int .i64 t331] 55 (0, 0)) (by (with_reducible repeat (first | refine blk_drewN ?_ _ | refine blk_drew ?_ | refine blk_alloc ?_ _)); exact BK334.out)) : gb341 ≠ gb334)); clear BK320; clear BK321; clear BK334; clear HB; have BK320 := n0_; have BK321 := n1_; have BK334 := n2_; have HB := n3_; have BK341 := n4_; have GW341 := n5_; have GE341 := n6_; have NB320_341 := n7_; have NB341_320 := n8_; have NB321_341 := n9_; have NB341_321 := n10_; have NB334_341 := n11_; have NB341_334 := n12_; clear n0_ n1_ n2_ n3_ n4_ n5_ n6_ n7_ n8_ n9_ n10_ n11_ n12_; clear hb hbox hg; have hnb74 := NB341_320.out; have hnc74 := NB320_341.out; have hnb75 := NB341_321.out; have hnc75 := NB321_341.out; have hnb76 := NB341_334.out; have hnc76 := NB334_341.out; have hcz77_0 : w73.cell? ⟨gb341, 0, none⟩ = some (.bool false) := (blk_cell BK341.out 0).trans rfl; have hcz77_1 : w73.cell? ⟨gb341, 1, none⟩ = some (.bool false) := (blk_cell BK341.out 1).trans rfl; have hcz77_2 : w73.cell? ⟨gb341, 2, none⟩ = some (.int .u64 0) := (blk_cell BK341.out 2).trans rfl; have hcz77_3 : w73.cell? ⟨gb341, 3, none⟩ = some (.int .i64 0) := (blk_cell BK341.out 3).trans rfl; have hfz77_0 := blk_frozen BK341.out 0; have hfz77_1 := blk_frozen BK341.out 1; have hfz77_2 := blk_frozen BK341.out 2; have hfz77_3 := blk_frozen BK341.out 3; have hcz78_0 : w73.cell? ⟨gb320, 0, none⟩ = some (.int .i64 a0_0) := (blk_cell BK320.out 0).trans rfl; have hcz78_1 : w73.cell? ⟨gb320, 1, none⟩ = some (.int .i64 a0_1) := (blk_cell BK320.out 1).trans rfl; have hcz78_2 : w73.cell? ⟨gb320, 2, none⟩ = some (.int .i64 a0_2) := (blk_cell BK320.out 2).trans rfl; have hcz78_3 : w73.cell? ⟨gb320, 3, none⟩ = some (.int .i64 a0_3) := (blk_cell BK320.out 3).trans rfl; have hcz78_4 : w73.cell? ⟨gb320, 4, none⟩ = some (.int .i64 a0_4) := (blk_cell BK320.out 4).trans rfl; have hfz78_0 := blk_frozen BK320.out 0; have hfz78_1 := blk_frozen BK320.out 1; have hfz78_2 := blk_frozen BK320.out 2; have hfz78_3 := blk_frozen BK320.out 3; have hfz78_4 := blk_frozen BK320.out 4; have hcz79_0 : w73.cell? ⟨gb321, 0, none⟩ = some (.int .i64 a3_0) := (blk_cell BK321.out 0).trans rfl; have hcz79_1 : w73.cell? ⟨gb321, 1, none⟩ = some (.int .i64 a3_1) := (blk_cell BK321.out 1).trans rfl; have hcz79_2 : w73.cell? ⟨gb321, 2, none⟩ = some (.int .u64 a3_2) := (blk_cell BK321.out 2).trans rfl; have hcz79_3 : w73.cell? ⟨gb321, 3, none⟩ = some (.int .u16 a3_3) := (blk_cell BK321.out 3).trans rfl; have hfz79_0 := blk_frozen BK321.out 0; have hfz79_1 := blk_frozen BK321.out 1; have hfz79_2 := blk_frozen BK321.out 2; have hfz79_3 := blk_frozen BK321.out 3) | ((with_reducible refine gate_callee (f := 15) rfl ?_); refine goesL_ (some 95) rfl rfl Try.func15 (by kernel_rfl) rfl #[.agg #[.int .i64 a0_0, .int .i64 a0_1, .int .i64 a0_2, .int .i64 a0_3, .int .i64 a0_4], .int .u64 a3_2] rfl (by (try simp only [List.map_toArray, List.map_cons, List.map_nil]); first | done | rfl | (simp only [List.length_drop, List.length_take]; rfl)) ?_; (with_reducible refine (medl_Owner.calls a0_0 a0_1 a0_2 a0_3 a0_4 a3_2 t342 t343 _ A65.out).mono ?_); rintro e w80 ⟨rfl, hb⟩; refine ⟨_, rfl, ?_⟩; have n0_ := Aside0.mk (blk_below (g := gb320) (o := .cells #[.int .i64 a0_0, .int .i64 a0_1, .int .i64 a0_2, .int .i64 a0_3, .int .i64 a0_4] 23 (0, 0)) (by (with_reducible repeat (first | refine blk_drewN ?_ _ | refine blk_drew ?_ | refine blk_alloc ?_ _)); refine blk_far ?_ NB320_341.out _; (with_reducible repeat (first | refine blk_drewN ?_ _ | refine blk_drew ?_ | refine blk_alloc ?_ _)); refine blk_far ?_ NB320_341.out _; (with_reducible repeat (first | refine blk_drewN ?_ _ | refine blk_drew ?_ | refine blk_alloc ?_ _)); refine blk_far ?_ NB320_341.out _; (with_reducible repeat (first | refine blk_drewN ?_ _ | refine blk_drew ?_ | refine blk_alloc ?_ _)); refine blk_far ?_ NB320_341.out _; (with_reducible repeat (first | refine blk_drewN ?_ _ | refine blk_drew ?_ | refine blk_alloc ?_ _)); exact BK320.out) hb); have n1_ := Aside0.mk (blk_below (g := gb321) (o := .cells #[.int .i64 a3_0, .int .i64 a3_1, .int .u64 a3_2, .int .u16 a3_3] 52 (0, 0)) (by (with_reducible repeat (first | refine blk_drewN ?_ _ | refine blk_drew ?_ | refine blk_alloc ?_ _)); refine blk_far ?_ NB321_341.out _; (with_reducible repeat (first | refine blk_drewN ?_ _ | refine blk_drew ?_ | refine blk_alloc ?_ _)); refine blk_far ?_ NB321_341.out _; (with_reducible repeat (first | refine blk_drewN ?_ _ | refine blk_drew ?_ | refine blk_alloc ?_ _)); refine blk_far ?_ NB321_341.out _; (with_reducible repeat (first | refine blk_drewN ?_ _ | refine blk_drew ?_ | refine blk_alloc ?_ _)); refine blk_far ?_ NB321_341.out _; (with_reducible repeat (first | refine blk_drewN ?_ _ | refine blk_drew ?_ | refine blk_alloc ?_ _)); exact BK321.out) hb); have n2_ := Aside0.mk (blk_below (g := gb334) (o := .cells #[.bool t328, .bool t329, .int .u64 t330, .int .i64 t331] 55 (0, 0)) (by (with_reducible repeat (first | refine blk_drewN ?_ _ | refine blk_drew ?_ | refine blk_alloc ?_ _)); refine blk_far ?_ NB334_341.out _; (with_reducible repeat (first | refine blk_drewN ?_ _ | refine blk_drew ?_ | refine blk_alloc ?_ _)); refine blk_far ?_ NB334_341.out _; (with_reducible repeat (first | refine blk_drewN ?_ _ | refine blk_drew ?_ | refine blk_alloc ?_ _)); refine blk_far ?_ NB334_341.out _; (with_reducible repeat (first | refine blk_drewN ?_ _ | refine blk_drew ?_ | refine blk_alloc ?_ _)); refine blk_far ?_ NB334_341.out _; (with_reducible repeat (first | refine blk_drewN ?_ _ | refine blk_drew ?_ | refine blk_alloc ?_ _)); exact BK334.out) hb); have n3_ := Aside0.mk (blk_below (g := gb341) (o := .cells #[.bool t335, .bool t336, .int .u64 t337, .int .i64 t338] 55 (0, 0)) (by (with_reducible repeat (first | refine blk_drewN ?_ _ | refine blk_drew ?_ | refine blk_alloc ?_ _)); refine blk_put (cs := #[.bool t335, .bool t336, .int .u64 t337, .int .i64 0]) ?_ 3 _ rfl; (with_reducible repeat (first | refine blk_drewN ?_ _ | refine blk_drew ?_ | refine blk_alloc ?_ _)); refine blk_put (cs := #[.bool t335, .bool t336, .int .u64 0, .int .i64 0]) ?_ 2 _ rfl; (with_reducible repeat (first | refine blk_drewN ?_ _ | refine blk_drew ?_ | refine blk_alloc ?_ _)); refine blk_put (cs := #[.bool t335, .bool false, .int .u64 0, .int .i64 0]) ?_ 1 _ rfl; (with_reducible repeat (first | refine blk_drewN ?_ _ | refine blk_drew ?_ | refine blk_alloc ?_ _)); refine blk_put (cs := #[.bool false, .bool false, .int .u64 0, .int .i64 0]) ?_ 0 _ rfl; (with_reducible repeat (first | refine blk_drewN ?_ _ | refine blk_drew ?_ | refine blk_alloc ?_ _)); exact BK341.out) hb); have n4_ := Aside0.mk (below_step (by repeat (first | (with_reducible first | exact HB.out | apply below_alloc | apply pw_below_drewN | apply below_drew1 | refine below_set ?_ GE320.out | refine below_set ?_ GE321.out | refine below_set ?_ GE334.out | refine below_set ?_ GE341.out) | exact HB.out)) hb); clear BK320; clear BK321; clear BK334; clear BK341; clear HB; have BK320 := n0_; have BK321 := n1_; have BK334 := n2_; have BK341 := n3_; have HB := n4_; clear n0_ n1_ n2_ n3_ n4_; (try clear hb); (try clear hb2); (try clear hk); (try clear hi)))
        (try simp only [Act.put, List.setIfInBounds_toArray, List.set_cons_zero, List.set_cons_succ])
        go_cut [121] (fun v121 wc => ∃ (kq : Nat) (x121_65 : Bool), v121 = .bool x121_65 ∧ Aside0 (palletlaw12_GuardCold.j2 kq a1 a2 a4 true t339 x121_65 a0_0 a0_1 a0_2 a0_3 a0_4 a3_0 a3_1 a3_2 a3_3 t335 t336 t337 t338 = some r) ∧ Aside0 (kq ≤ kj48) ∧ Aside0 (wc.heap[gb320]? = some (.cells #[.int .i64 a0_0, .int .i64 a0_1, .int .i64 a0_2, .int .i64 a0_3, .int .i64 a0_4] 23 (0, 0))) ∧ Aside0 (wc.heap[gb321]? = some (.cells #[.int .i64 a3_0, .int .i64 a3_1, .int .u64 a3_2, .int .u16 a3_3] 52 (0, 0))) ∧ Aside0 (wc.heap[gb334]? = some (.cells #[.bool t328, .bool t329, .int .u64 t330, .int .i64 t331] 55 (0, 0))) ∧ Aside0 (wc.heap[gb341]? = some (.cells #[.bool t335, .bool t336, .int .u64 t337, .int .i64 t338] 55 (0, 0))) ∧ Aside0 (Below w.heap.size w wc))
        case first =>
         have H := HC66.out
         clear HC66
         by_cases c81 : t340 = 0
         ·rw [if_pos c81] at H
          have c81b0 : (t340 == 0) = true := beq_iff_eq.mpr c81
          have c81b1 : (t340 != 0) = false := bne_eq_false_iff_eq.mpr c81
          clear c81
          (first | rw [c81b0] | (simp only [i64_w, i32_w]; rw [c81b0]) | skip)
          by_cases c82 : a3_0 = 2
          ·rw [if_pos c82] at H
           have c82b0 : (a3_0 == 2) = true := beq_iff_eq.mpr c82
           have c82b1 : (a3_0 != 2) = false := bne_eq_false_iff_eq.mpr c82
           clear c82
           by_cases c83 : a3_1 = a2
           ·rw [if_pos c83] at H
            have c83b0 : (a3_1 == a2) = true := beq_iff_eq.mpr c83
            have c83b1 : (a3_1 != a2) = false := bne_eq_false_iff_eq.mpr c83
            clear c83
            by_cases c84 : t343 = 0
            ·rw [if_pos c84] at H
             have c84b0 : (t343 == 0) = true := beq_iff_eq.mpr c84
             have c84b1 : (t343 != 0) = false := bne_eq_false_iff_eq.mpr c84
             clear c84
             have H' := Aside0.mk H
             clear H
             have hnb85 := NB321_320.out
             have hnc85 := NB320_321.out
             have hnb86 := NB321_334.out
             have hnc86 := NB334_321.out
             have hnb87 := NB321_341.out
             have hnc87 := NB341_321.out
             have hcz88_0 : w80.cell? ⟨gb321, 0, none⟩ = some (.int .i64 a3_0) := (blk_cell BK321.out 0).trans rfl
             have hcz88_1 : w80.cell? ⟨gb321, 1, none⟩ = some (.int .i64 a3_1) := (blk_cell BK321.out 1).trans rfl
             have hcz88_2 : w80.cell? ⟨gb321, 2, none⟩ = some (.int .u64 a3_2) := (blk_cell BK321.out 2).trans rfl
             have hcz88_3 : w80.cell? ⟨gb321, 3, none⟩ = some (.int .u16 a3_3) := (blk_cell BK321.out 3).trans rfl
             have hfz88_0 := blk_frozen BK321.out 0
             have hfz88_1 := blk_frozen BK321.out 1
             have hfz88_2 := blk_frozen BK321.out 2
             have hfz88_3 := blk_frozen BK321.out 3
             go_wp2
             go_meet
             case rel => exact ⟨_, ((t339 != (t342 == a2))), (by first | rfl | (simp; done) | (simp [*]; done)), H', ⟨by have := HJ7.out; have := HJ48.out; first | omega | exact Nat.le_refl _⟩, ⟨by (with_reducible repeat (first | refine blk_drewN ?_ _ | refine blk_drew ?_ | refine blk_alloc ?_ _)); exact BK320.out⟩, ⟨by (with_reducible repeat (first | refine blk_drewN ?_ _ | refine blk_drew ?_ | refine blk_alloc ?_ _)); exact BK321.out⟩, ⟨by (with_reducible repeat (first | refine blk_drewN ?_ _ | refine blk_drew ?_ | refine blk_alloc ?_ _)); exact BK334.out⟩, ⟨by (with_reducible repeat (first | refine blk_drewN ?_ _ | refine blk_drew ?_ | refine blk_alloc ?_ _)); exact BK341.out⟩, ⟨by repeat (first | (with_reducible first | exact HB.out | apply below_alloc | apply pw_below_drewN | apply below_drew1 | refine below_set ?_ GE320.out | refine below_set ?_ GE321.out | refine below_set ?_ GE334.out | refine below_set ?_ GE341.out) | exact HB.out)⟩⟩
            ·rw [if_neg c84] at H
             have c84b0 : (t343 == 0) = false := beq_eq_false_iff_ne.mpr c84
             have c84b1 : (t343 != 0) = true := bne_iff_ne.mpr c84
             have H' := Aside0.mk H
             clear H
             have hnb89 := NB321_320.out
             have hnc89 := NB320_321.out
             have hnb90 := NB321_334.out
             have hnc90 := NB334_321.out
             have hnb91 := NB321_341.out
             have hnc91 := NB341_321.out
             have hcz92_0 : w80.cell? ⟨gb321, 0, none⟩ = some (.int .i64 a3_0) := (blk_cell BK321.out 0).trans rfl
             have hcz92_1 : w80.cell? ⟨gb321, 1, none⟩ = some (.int .i64 a3_1) := (blk_cell BK321.out 1).trans rfl
             have hcz92_2 : w80.cell? ⟨gb321, 2, none⟩ = some (.int .u64 a3_2) := (blk_cell BK321.out 2).trans rfl
             have hcz92_3 : w80.cell? ⟨gb321, 3, none⟩ = some (.int .u16 a3_3) := (blk_cell BK321.out 3).trans rfl
             have hfz92_0 := blk_frozen BK321.out 0
             have hfz92_1 := blk_frozen BK321.out 1
             have hfz92_2 := blk_frozen BK321.out 2
             have hfz92_3 := blk_frozen BK321.out 3
             go_wp2
             go_meet
             case rel => exact ⟨_, ((t339 != false)), (by first | rfl | (simp; done) | (simp [*]; done)), H', ⟨by have := HJ7.out; have := HJ48.out; first | omega | exact Nat.le_refl _⟩, ⟨by (with_reducible repeat (first | refine blk_drewN ?_ _ | refine blk_drew ?_ | refine blk_alloc ?_ _)); exact BK320.out⟩, ⟨by (with_reducible repeat (first | refine blk_drewN ?_ _ | refine blk_drew ?_ | refine blk_alloc ?_ _)); exact BK321.out⟩, ⟨by (with_reducible repeat (first | refine blk_drewN ?_ _ | refine blk_drew ?_ | refine blk_alloc ?_ _)); exact BK334.out⟩, ⟨by (with_reducible repeat (first | refine blk_drewN ?_ _ | refine blk_drew ?_ | refine blk_alloc ?_ _)); exact BK341.out⟩, ⟨by repeat (first | (with_reducible first | exact HB.out | apply below_alloc | apply pw_below_drewN | apply below_drew1 | refine below_set ?_ GE320.out | refine below_set ?_ GE321.out | refine below_set ?_ GE334.out | refine below_set ?_ GE341.out) | exact HB.out)⟩⟩
           ·rw [if_neg c83] at H
            have c83b0 : (a3_1 == a2) = false := beq_eq_false_iff_ne.mpr c83
            have c83b1 : (a3_1 != a2) = true := bne_iff_ne.mpr c83
            have H' := Aside0.mk H
            clear H
            have hnb93 := NB321_320.out
            have hnc93 := NB320_321.out
            have hnb94 := NB321_334.out
            have hnc94 := NB334_321.out
            have hnb95 := NB321_341.out
            have hnc95 := NB341_321.out
            have hcz96_0 : w80.cell? ⟨gb321, 0, none⟩ = some (.int .i64 a3_0) := (blk_cell BK321.out 0).trans rfl
            have hcz96_1 : w80.cell? ⟨gb321, 1, none⟩ = some (.int .i64 a3_1) := (blk_cell BK321.out 1).trans rfl
            have hcz96_2 : w80.cell? ⟨gb321, 2, none⟩ = some (.int .u64 a3_2) := (blk_cell BK321.out 2).trans rfl
            have hcz96_3 : w80.cell? ⟨gb321, 3, none⟩ = some (.int .u16 a3_3) := (blk_cell BK321.out 3).trans rfl
            have hfz96_0 := blk_frozen BK321.out 0
            have hfz96_1 := blk_frozen BK321.out 1
            have hfz96_2 := blk_frozen BK321.out 2
            have hfz96_3 := blk_frozen BK321.out 3
            go_wp2
            go_meet
            case rel => exact ⟨_, ((t339 != false)), (by first | rfl | (simp; done) | (simp [*]; done)), H', ⟨by have := HJ7.out; have := HJ48.out; first | omega | exact Nat.le_refl _⟩, ⟨by (with_reducible repeat (first | refine blk_drewN ?_ _ | refine blk_drew ?_ | refine blk_alloc ?_ _)); exact BK320.out⟩, ⟨by (with_reducible repeat (first | refine blk_drewN ?_ _ | refine blk_drew ?_ | refine blk_alloc ?_ _)); exact BK321.out⟩, ⟨by (with_reducible repeat (first | refine blk_drewN ?_ _ | refine blk_drew ?_ | refine blk_alloc ?_ _)); exact BK334.out⟩, ⟨by (with_reducible repeat (first | refine blk_drewN ?_ _ | refine blk_drew ?_ | refine blk_alloc ?_ _)); exact BK341.out⟩, ⟨by repeat (first | (with_reducible first | exact HB.out | apply below_alloc | apply pw_below_drewN | apply below_drew1 | refine below_set ?_ GE320.out | refine below_set ?_ GE321.out | refine below_set ?_ GE334.out | refine below_set ?_ GE341.out) | exact HB.out)⟩⟩
          ·rw [if_neg c82] at H
           have c82b0 : (a3_0 == 2) = false := beq_eq_false_iff_ne.mpr c82
           have c82b1 : (a3_0 != 2) = true := bne_iff_ne.mpr c82
           have H' := Aside0.mk H
           clear H
           have hnb97 := NB321_320.out
           have hnc97 := NB320_321.out
           have hnb98 := NB321_334.out
           have hnc98 := NB334_321.out
           have hnb99 := NB321_341.out
           have hnc99 := NB341_321.out
           have hcz100_0 : w80.cell? ⟨gb321, 0, none⟩ = some (.int .i64 a3_0) := (blk_cell BK321.out 0).trans rfl
           have hcz100_1 : w80.cell? ⟨gb321, 1, none⟩ = some (.int .i64 a3_1) := (blk_cell BK321.out 1).trans rfl
           have hcz100_2 : w80.cell? ⟨gb321, 2, none⟩ = some (.int .u64 a3_2) := (blk_cell BK321.out 2).trans rfl
           have hcz100_3 : w80.cell? ⟨gb321, 3, none⟩ = some (.int .u16 a3_3) := (blk_cell BK321.out 3).trans rfl
           have hfz100_0 := blk_frozen BK321.out 0
           have hfz100_1 := blk_frozen BK321.out 1
           have hfz100_2 := blk_frozen BK321.out 2
           have hfz100_3 := blk_frozen BK321.out 3
           go_wp2
           go_meet
           case rel => exact ⟨_, ((t339 != false)), (by first | rfl | (simp; done) | (simp [*]; done)), H', ⟨by have := HJ7.out; have := HJ48.out; first | omega | exact Nat.le_refl _⟩, ⟨by (with_reducible repeat (first | refine blk_drewN ?_ _ | refine blk_drew ?_ | refine blk_alloc ?_ _)); exact BK320.out⟩, ⟨by (with_reducible repeat (first | refine blk_drewN ?_ _ | refine blk_drew ?_ | refine blk_alloc ?_ _)); exact BK321.out⟩, ⟨by (with_reducible repeat (first | refine blk_drewN ?_ _ | refine blk_drew ?_ | refine blk_alloc ?_ _)); exact BK334.out⟩, ⟨by (with_reducible repeat (first | refine blk_drewN ?_ _ | refine blk_drew ?_ | refine blk_alloc ?_ _)); exact BK341.out⟩, ⟨by repeat (first | (with_reducible first | exact HB.out | apply below_alloc | apply pw_below_drewN | apply below_drew1 | refine below_set ?_ GE320.out | refine below_set ?_ GE321.out | refine below_set ?_ GE334.out | refine below_set ?_ GE341.out) | exact HB.out)⟩⟩
         ·rw [if_neg c81] at H
          have c81b0 : (t340 == 0) = false := beq_eq_false_iff_ne.mpr c81
          have c81b1 : (t340 != 0) = true := bne_iff_ne.mpr c81
          (first | rw [c81b0] | (simp only [i64_w, i32_w]; rw [c81b0]) | skip)
          have H' := Aside0.mk H
          clear H
          go_wp2
          go_meet
          case rel => exact ⟨_, (true), (by first | rfl | (simp; done) | (simp [*]; done)), H', ⟨by have := HJ7.out; have := HJ48.out; first | omega | exact Nat.le_refl _⟩, ⟨by (with_reducible repeat (first | refine blk_drewN ?_ _ | refine blk_drew ?_ | refine blk_alloc ?_ _)); exact BK320.out⟩, ⟨by (with_reducible repeat (first | refine blk_drewN ?_ _ | refine blk_drew ?_ | refine blk_alloc ?_ _)); exact BK321.out⟩, ⟨by (with_reducible repeat (first | refine blk_drewN ?_ _ | refine blk_drew ?_ | refine blk_alloc ?_ _)); exact BK334.out⟩, ⟨by (with_reducible repeat (first | refine blk_drewN ?_ _ | refine blk_drew ?_ | refine blk_alloc ?_ _)); exact BK341.out⟩, ⟨by repeat (first | (with_reducible first | exact HB.out | apply below_alloc | apply pw_below_drewN | apply below_drew1 | refine below_set ?_ GE320.out | refine below_set ?_ GE321.out | refine below_set ?_ GE334.out | refine below_set ?_ GE341.out) | exact HB.out)⟩⟩
        case rest =>
         clear HC66
         try clear c1
         try clear c2
         try clear p2
         try clear c3
         try clear c4
         try clear c5
         try clear c6
         try clear c7
         try clear c8
         try clear c9
         try clear c13
         try clear c13b0
         try clear c13b1
         try clear c14
         try clear c14b0
         try clear c15
         try clear c18
         try clear c18b0
         try clear c19
         try clear c21
         try clear c22
         try clear c22b0
         try clear c23
         try clear c26
         try clear c26b0
         try clear c27
         try clear c31
         try clear c31b0
         try clear c32
         try clear c37
         try clear c44
         try clear c47
         try clear c50
         try clear c55
         try clear c56
         try clear c58
         try clear c59
         try clear c59b0
         try clear c59b1
         try clear c60
         try clear c61
         try clear c63
         try clear c67
         try clear c68
         try clear c70
         try clear c74
         try clear c75
         try clear c76
         try clear c81
         try clear c81b0
         try clear c81b1
         try clear c82
         try clear c82b0
         try clear c82b1
         try clear c83
         try clear c83b0
         try clear c83b1
         try clear c84
         try clear c84b0
         try clear c84b1
         try clear c85
         try clear c86
         try clear c87
         try clear c89
         try clear c90
         try clear c91
         try clear c93
         try clear c94
         try clear c95
         try clear c97
         try clear c98
         try clear c99
         try clear hcz100_0
         try clear hcz100_1
         try clear hcz100_2
         try clear hcz100_3
         try clear hcz16_0
         try clear hcz16_1
         try clear hcz16_2
         try clear hcz16_3
         try clear hcz16_4
         try clear hcz20_0
         try clear hcz20_1
         try clear hcz20_2
         try clear hcz20_3
         try clear hcz20_4
         try clear hcz24_0
         try clear hcz24_1
         try clear hcz24_2
         try clear hcz24_3
         try clear hcz24_4
         try clear hcz28_0
         try clear hcz28_1
         try clear hcz28_2
         try clear hcz28_3
         try clear hcz28_4
         try clear hcz30_0
         try clear hcz30_1
         try clear hcz30_2
         try clear hcz30_3
         try clear hcz30_4
         try clear hcz33_0
         try clear hcz33_1
         try clear hcz33_2
         try clear hcz33_3
         try clear hcz33_4
         try clear hcz35_0
         try clear hcz35_1
         try clear hcz35_2
         try clear hcz35_3
         try clear hcz35_4
         try clear hcz38_0
         try clear hcz38_1
         try clear hcz38_2
         try clear hcz38_3
         try clear hcz38_4
         try clear hcz40_0
         try clear hcz40_1
         try clear hcz40_2
         try clear hcz40_3
         try clear hcz40_4
         try clear hcz45_0
         try clear hcz45_1
         try clear hcz45_2
         try clear hcz45_3
         try clear hcz45_4
         try clear hcz51_0
         try clear hcz51_1
         try clear hcz51_2
         try clear hcz51_3
         try clear hcz51_4
         try clear hcz52_0
         try clear hcz52_1
         try clear hcz52_2
         try clear hcz52_3
         try clear hcz57_0
         try clear hcz57_1
         try clear hcz57_2
         try clear hcz57_3
         try clear hcz62_0
         try clear hcz62_1
         try clear hcz62_2
         try clear hcz62_3
         try clear hcz69_0
         try clear hcz69_1
         try clear hcz69_2
         try clear hcz69_3
         try clear hcz69_4
         try clear hcz71_0
         try clear hcz71_1
         try clear hcz71_2
         try clear hcz71_3
         try clear hcz77_0
         try clear hcz77_1
         try clear hcz77_2
         try clear hcz77_3
         try clear hcz78_0
         try clear hcz78_1
         try clear hcz78_2
         try clear hcz78_3
         try clear hcz78_4
         try clear hcz79_0
         try clear hcz79_1
         try clear hcz79_2
         try clear hcz79_3
         try clear hcz88_0
         try clear hcz88_1
         try clear hcz88_2
         try clear hcz88_3
         try clear hcz92_0
         try clear hcz92_1
         try clear hcz92_2
         try clear hcz92_3
         try clear hcz96_0
         try clear hcz96_1
         try clear hcz96_2
         try clear hcz96_3
         try clear hfz100_0
         try clear hfz100_1
         try clear hfz100_2
         try clear hfz100_3
         try clear hfz16_0
         try clear hfz16_1
         try clear hfz16_2
         try clear hfz16_3
         try clear hfz16_4
         try clear hfz20_0
         try clear hfz20_1
         try clear hfz20_2
         try clear hfz20_3
         try clear hfz20_4
         try clear hfz24_0
         try clear hfz24_1
         try clear hfz24_2
         try clear hfz24_3
         try clear hfz24_4
         try clear hfz28_0
         try clear hfz28_1
         try clear hfz28_2
         try clear hfz28_3
         try clear hfz28_4
         try clear hfz30_0
         try clear hfz30_1
         try clear hfz30_2
         try clear hfz30_3
         try clear hfz30_4
         try clear hfz33_0
         try clear hfz33_1
         try clear hfz33_2
         try clear hfz33_3
         try clear hfz33_4
         try clear hfz35_0
         try clear hfz35_1
         try clear hfz35_2
         try clear hfz35_3
         try clear hfz35_4
         try clear hfz38_0
         try clear hfz38_1
         try clear hfz38_2
         try clear hfz38_3
         try clear hfz38_4
         try clear hfz40_0
         try clear hfz40_1
         try clear hfz40_2
         try clear hfz40_3
         try clear hfz40_4
         try clear hfz45_0
         try clear hfz45_1
         try clear hfz45_2
         try clear hfz45_3
         try clear hfz45_4
         try clear hfz51_0
         try clear hfz51_1
         try clear hfz51_2
         try clear hfz51_3
         try clear hfz51_4
         try clear hfz52_0
         try clear hfz52_1
         try clear hfz52_2
         try clear hfz52_3
         try clear hfz57_0
         try clear hfz57_1
         try clear hfz57_2
         try clear hfz57_3
         try clear hfz62_0
         try clear hfz62_1
         try clear hfz62_2
         try clear hfz62_3
         try clear hfz69_0
         try clear hfz69_1
         try clear hfz69_2
         try clear hfz69_3
         try clear hfz69_4
         try clear hfz71_0
         try clear hfz71_1
         try clear hfz71_2
         try clear hfz71_3
         try clear hfz77_0
         try clear hfz77_1
         try clear hfz77_2
         try clear hfz77_3
         try clear hfz78_0
         try clear hfz78_1
         try clear hfz78_2
         try clear hfz78_3
         try clear hfz78_4
         try clear hfz79_0
         try clear hfz79_1
         try clear hfz79_2
         try clear hfz79_3
         try clear hfz88_0
         try clear hfz88_1
         try clear hfz88_2
         try clear hfz88_3
         try clear hfz92_0
         try clear hfz92_1
         try clear hfz92_2
         try clear hfz92_3
         try clear hfz96_0
         try clear hfz96_1
         try clear hfz96_2
         try clear hfz96_3
         try clear p2
         obtain ⟨kq, x121_65, rfl, HA, HJ65, BK320, BK321, BK334, BK341, HB⟩ := hcut
         cases kq with
         | zero => exact absurd HA.out (by simp [palletlaw12_GuardCold.j2])
         | succ kj65 =>
          have H := HA.out
          clear HA
          simp only [palletlaw12_GuardCold.j2] at H
          by_cases c101 : x121_65 = true
          ·subst c101
           have H1 : (some false) = some r := by rw [if_pos rfl] at H; exact H
           clear H
           have H := H1
           clear H1
           obtain rfl := Option.some.inj H
           exact absurd hr_.out (by decide)
          ·replace c101 := Bool.eq_false_iff.mpr c101
           subst c101
           have H1 : (if t339 = true then ((guard_Pass.f kj65 t335 t336 t337 t338 a0_0 a0_1 a0_2 a0_3 a0_4 a1 a2 0 0 0 0 a4).bind fun bt344 => (if true = true then (if t336 = true then (if t337 = a3_2 then (if bt344.2.2.2.2.1 = true then (if bt344.2.2.2.2.2 = 0 then (if (bt344.1 == t335 && (bt344.2.1 == t336 && (bt344.2.2.1 == t337 && (bt344.2.2.2.1 == t338)))) = true then ((guard_Check.f kj65 t335 t336 t337 t338).bind fun t351 => (some (t351 == 0))) else (some false)) else (some false)) else (some false)) else (some false)) else (some false)) else (some false))) else (if true = true then (some (t335 && (!t336 && (t337 == 0 && (t338 == 0))))) else (some false))) = some r := by rw [if_neg (show ¬ (false = true) by decide)] at H; exact H
           clear H
           have H := H1
           clear H1
           by_cases c102 : t339 = true
           ·subst c102
            have H1 : ((guard_Pass.f kj65 t335 t336 t337 t338 a0_0 a0_1 a0_2 a0_3 a0_4 a1 a2 0 0 0 0 a4).bind fun bt344 => (if true = true then (if t336 = true then (if t337 = a3_2 then (if bt344.2.2.2.2.1 = true then (if bt344.2.2.2.2.2 = 0 then (if (bt344.1 == t335 && (bt344.2.1 == t336 && (bt344.2.2.1 == t337 && (bt344.2.2.2.1 == t338)))) = true then ((guard_Check.f kj65 t335 t336 t337 t338).bind fun t351 => (some (t351 == 0))) else (some false)) else (some false)) else (some false)) else (some false)) else (some false)) else (some false))) = some r := by rw [if_pos rfl] at H; exact H
            clear H
            have H := H1
            clear H1
            replace H := Option.bind_eq_some_iff.mp H
            obtain ⟨⟨t344, t345, t346, t347, t348, t349⟩, A1030, H⟩ := H
            replace H : (if true = true then (if t336 = true then (if t337 = a3_2 then (if t348 = true then (if t349 = 0 then (if (t344 == t335 && (t345 == t336 && (t346 == t337 && (t347 == t338)))) = true then ((guard_Check.f kj65 t335 t336 t337 t338).bind fun t351 => (some (t351 == 0))) else (some false)) else (some false)) else (some false)) else (some false)) else (some false)) else (some false)) = some r := H
            have A103 := Aside0.mk A1030
            clear A1030
            have H1 : (if t336 = true then (if t337 = a3_2 then (if t348 = true then (if t349 = 0 then (if (t344 == t335 && (t345 == t336 && (t346 == t337 && (t347 == t338)))) = true then ((guard_Check.f kj65 t335 t336 t337 t338).bind fun t351 => (some (t351 == 0))) else (some false)) else (some false)) else (some false)) else (some false)) else (some false)) = some r := by first | (rw [if_pos rfl] at H; exact H) | exact H
            clear H
            have H := H1
            clear H1
            by_cases c104 : t336 = true
            ·subst c104
             have H1 : (if t337 = a3_2 then (if t348 = true then (if t349 = 0 then (if (t344 == t335 && (t345 == true && (t346 == t337 && (t347 == t338)))) = true then ((guard_Check.f kj65 t335 true t337 t338).bind fun t351 => (some (t351 == 0))) else (some false)) else (some false)) else (some false)) else (some false)) = some r := by rw [if_pos rfl] at H; exact H
             clear H
             have H := H1
             clear H1
             by_cases c105 : t337 = a3_2
             ·rw [if_pos c105] at H
              have c105b0 : (t337 == a3_2) = true := beq_iff_eq.mpr c105
              have c105b1 : (t337 != a3_2) = false := bne_eq_false_iff_eq.mpr c105
              clear c105
              by_cases c106 : t348 = true
              ·subst c106
               have H1 : (if t349 = 0 then (if (t344 == t335 && (t345 == true && (t346 == t337 && (t347 == t338)))) = true then ((guard_Check.f kj65 t335 true t337 t338).bind fun t351 => (some (t351 == 0))) else (some false)) else (some false)) = some r := by rw [if_pos rfl] at H; exact H
               clear H
               have H := H1
               clear H1
               by_cases c107 : t349 = 0
               ·rw [if_pos c107] at H
                have c107b0 : (t349 == 0) = true := beq_iff_eq.mpr c107
                have c107b1 : (t349 != 0) = false := bne_eq_false_iff_eq.mpr c107
                clear c107
                by_cases c108 : (t344 == t335 && (t345 == true && (t346 == t337 && (t347 == t338)))) = true
                ·rw [if_pos c108] at H
                 have c108b0 : (t344 == t335 && (t345 == true && (t346 == t337 && (t347 == t338)))) = true := c108
                 have c108b1 : ((t344 == t335 && (t345 && (t346 == t337 && (t347 == t338))))) = true := by simpa using c108
                 (try (have c108b2 : decide (t344 = t335 && (t345 == true && (t346 == t337 && (t347 == t338)))) = true := by simpa using c108))
                 (try (have c108b3 : (t344 == t335 && (t345 == true && (t346 == t337 && (t347 == t338)))) = true := by simpa using c108))
                 clear c108
                 replace H := Option.bind_eq_some_iff.mp H
                 obtain ⟨t351, A1090, H⟩ := H
                 replace H : (some (t351 == 0)) = some r := H
                 have A109 := Aside0.mk A1090
                 clear A1090
                 obtain rfl := Option.some.inj H
                 have hnb110 := NB341_320.out
                 have hnc110 := NB320_341.out
                 have hnb111 := NB341_321.out
                 have hnc111 := NB321_341.out
                 have hnb112 := NB341_334.out
                 have hnc112 := NB334_341.out
                 have hcz113_0 : wc.cell? ⟨gb341, 0, none⟩ = some (.bool t335) := (blk_cell BK341.out 0).trans rfl
                 have hcz113_1 : wc.cell? ⟨gb341, 1, none⟩ = some (.bool true) := (blk_cell BK341.out 1).trans rfl
                 have hcz113_2 : wc.cell? ⟨gb341, 2, none⟩ = some (.int .u64 t337) := (blk_cell BK341.out 2).trans rfl
                 have hcz113_3 : wc.cell? ⟨gb341, 3, none⟩ = some (.int .i64 t338) := (blk_cell BK341.out 3).trans rfl
                 have hfz113_0 := blk_frozen BK341.out 0
                 have hfz113_1 := blk_frozen BK341.out 1
                 have hfz113_2 := blk_frozen BK341.out 2
                 have hfz113_3 := blk_frozen BK341.out 3
                 have hnb114 := NB320_321.out
                 have hnc114 := NB321_320.out
                 have hnb115 := NB320_334.out
                 have hnc115 := NB334_320.out
                 have hcz116_0 : wc.cell? ⟨gb320, 0, none⟩ = some (.int .i64 a0_0) := (blk_cell BK320.out 0).trans rfl
                 have hcz116_1 : wc.cell? ⟨gb320, 1, none⟩ = some (.int .i64 a0_1) := (blk_cell BK320.out 1).trans rfl
                 have hcz116_2 : wc.cell? ⟨gb320, 2, none⟩ = some (.int .i64 a0_2) := (blk_cell BK320.out 2).trans rfl
                 have hcz116_3 : wc.cell? ⟨gb320, 3, none⟩ = some (.int .i64 a0_3) := (blk_cell BK320.out 3).trans rfl
                 have hcz116_4 : wc.cell? ⟨gb320, 4, none⟩ = some (.int .i64 a0_4) := (blk_cell BK320.out 4).trans rfl
                 have hfz116_0 := blk_frozen BK320.out 0
                 have hfz116_1 := blk_frozen BK320.out 1
                 have hfz116_2 := blk_frozen BK320.out 2
                 have hfz116_3 := blk_frozen BK320.out 3
                 have hfz116_4 := blk_frozen BK320.out 4
                 go_wp2_with (first | ((with_reducible refine gate_callee (f := 27) rfl ?_); refine goesL_ (some 137) rfl rfl Try.func27 (by kernel_rfl) rfl #[.agg #[.bool t335, .bool true, .int .u64 t337, .int .i64 t338], .agg #[.int .i64 a0_0, .int .i64 a0_1, .int .i64 a0_2, .int .i64 a0_3, .int .i64 a0_4], .int .i64 a1, .int .i64 a2, .agg #[.int .i64 0, .int .i64 0, .int .u64 0, .int .u16 0], .int .i64 a4] rfl (by (try simp only [List.map_toArray, List.map_cons, List.map_nil]); first | done | rfl | (simp only [List.length_drop, List.length_take]; rfl)) ?_; (with_reducible refine (guard_Pass.calls kj65 t335 true t337 t338 a0_0 a0_1 a0_2 a0_3 a0_4 a1 a2 0 0 0 0 a4 t344 t345 t346 t347 true t349 _ A103.out).mono ?_); rintro e w117 ⟨rfl, hb⟩; refine ⟨_, rfl, ?_⟩; have n0_ := Aside0.mk (blk_below (g := gb320) (o := .cells #[.int .i64 a0_0, .int .i64 a0_1, .int .i64 a0_2, .int .i64 a0_3, .int .i64 a0_4] 23 (0, 0)) (by (with_reducible repeat (first | refine blk_drewN ?_ _ | refine blk_drew ?_ | refine blk_alloc ?_ _)); exact BK320.out) hb); have n1_ := Aside0.mk (blk_below (g := gb321) (o := .cells #[.int .i64 a3_0, .int .i64 a3_1, .int .u64 a3_2, .int .u16 a3_3] 52 (0, 0)) (by (with_reducible repeat (first | refine blk_drewN ?_ _ | refine blk_drew ?_ | refine blk_alloc ?_ _)); exact BK321.out) hb); have n2_ := Aside0.mk (blk_below (g := gb334) (o := .cells #[.bool t328, .bool t329, .int .u64 t330, .int .i64 t331] 55 (0, 0)) (by (with_reducible repeat (first | refine blk_drewN ?_ _ | refine blk_drew ?_ | refine blk_alloc ?_ _)); exact BK334.out) hb); have n3_ := Aside0.mk (blk_below (g := gb341) (o := .cells #[.bool t335, .bool true, .int .u64 t337, .int .i64 t338] 55 (0, 0)) (by (with_reducible repeat (first | refine blk_drewN ?_ _ | refine blk_drew ?_ | refine blk_alloc ?_ _)); exact BK341.out) hb); have n4_ := Aside0.mk (below_step (by repeat (first | (with_reducible first | exact HB.out | apply below_alloc | apply pw_below_drewN | apply below_drew1 | refine below_set ?_ GE320.out | refine below_set ?_ GE321.out | refine below_set ?_ GE334.out | refine below_set ?_ GE341.out) | exact HB.out)) hb); clear BK320; clear BK321; clear BK334; clear BK341; clear HB; have BK320 := n0_; have BK321 := n1_; have BK334 := n2_; have BK341 := n3_; have HB := n4_; clear n0_ n1_ n2_ n3_ n4_; (try clear hb); (try clear hb2); (try clear hk); (try clear hi)) | ((with_reducible refine gate_dst (N := 20) rfl ?_); (try (refine gate_guard (by rfl) ?_; dsimp only)); refine box_event ?hg (N := 20) ?hd (cs := #[.bool false, .bool false, .int .u64 0, .int .i64 0]) (t := 55) ?hr ?_; (case hd => rfl); (case hg => rfl); (case hr => first | (go_simp; done) | (go_simp; rfl)); intro gb350 hg w118 hbox hb; have n0_ := Aside0.mk (blk_below (g := gb320) (o := .cells #[.int .i64 a0_0, .int .i64 a0_1, .int .i64 a0_2, .int .i64 a0_3, .int .i64 a0_4] 23 (0, 0)) (by (with_reducible repeat (first | refine blk_drewN ?_ _ | refine blk_drew ?_ | refine blk_alloc ?_ _)); exact BK320.out) hb); have n1_ := Aside0.mk (blk_below (g := gb321) (o := .cells #[.int .i64 a3_0, .int .i64 a3_1, .int .u64 a3_2, .int .u16 a3_3] 52 (0, 0)) (by (with_reducible repeat (first | refine blk_drewN ?_ _ | refine blk_drew ?_ | refine blk_alloc ?_ _)); exact BK321.out) hb); have n2_ := Aside0.mk (blk_below (g := gb334) (o := .cells #[.bool t328, .bool t329, .int .u64 t330, .int .i64 t331] 55 (0, 0)) (by (with_reducible repeat (first | refine blk_drewN ?_ _ | refine blk_drew ?_ | refine blk_alloc ?_ _)); exact BK334.out) hb); have n3_ := Aside0.mk (blk_below (g := gb341) (o := .cells #[.bool t335, .bool true, .int .u64 t337, .int .i64 t338] 55 (0, 0)) (by (with_reducible repeat (first | refine blk_drewN ?_ _ | refine blk_drew ?_ | refine blk_alloc ?_ _)); exact BK341.out) hb); have n4_ := Aside0.mk (below_step (by repeat (first | (with_reducible first | exact HB.out | apply below_alloc | apply pw_below_drewN | apply below_drew1 | refine below_set ?_ GE320.out | refine below_set ?_ GE321.out | refine below_set ?_ GE334.out | refine below_set ?_ GE341.out) | exact HB.out)) hb); have n5_ := Aside0.mk (hbox); have n6_ := Aside0.mk ((by rw [hg]; exact (below_size (by repeat (first | (with_reducible first | exact HB.out | apply below_alloc | apply pw_below_drewN | apply below_drew1 | refine below_set ?_ GE320.out | refine below_set ?_ GE321.out | refine below_set ?_ GE334.out | refine below_set ?_ GE341.out) | exact HB.out))) : w.heap.size ≤ gb350)); have n7_ := Aside0.mk ((by rw [hg]; exact (below_size (by repeat (first | (with_reducible first | exact HB.out | apply below_alloc | apply pw_below_drewN | apply below_drew1 | refine below_set ?_ GE320.out | refine below_set ?_ GE321.out | refine below_set ?_ GE334.out | refine below_set ?_ GE341.out) | exact HB.out))) : w.heap.size ≤ gb350)); have n8_ := Aside0.mk ((by rw [hg]; exact Nat.ne_of_lt (blk_lt (g := gb320) (o := .cells #[.int .i64 a0_0, .int .i64 a0_1, .int .i64 a0_2, .int .i64 a0_3, .int .i64 a0_4] 23 (0, 0)) (by (with_reducible repeat (first | refine blk_drewN ?_ _ | refine blk_drew ?_ | refine blk_alloc ?_ _)); exact BK320.out)) : gb320 ≠ gb350)); have n9_ := Aside0.mk ((by rw [hg]; exact Nat.ne_of_gt (blk_lt (g := gb320) (o := .cells #[.int .i64 a0_0, .int .i64 a0_1, .int .i64 a0_2, .int .i64 a0_3, .int .i64 a0_4] 23 (0, 0)) (by (with_reducible repeat (first | refine blk_drewN ?_ _ | refine blk_drew ?_ | refine blk_alloc ?_ _)); exact BK320.out)) : gb350 ≠ gb320)); have n10_ := Aside0.mk ((by rw [hg]; exact Nat.ne_of_lt (blk_lt (g := gb321) (o := .cells #[.int .i64 a3_0, .int .i64 a3_1, .int .u64 a3_2, .int .u16 a3_3] 52 (0, 0)) (by (with_reducible repeat (first | refine blk_drewN ?_ _ | refine blk_drew ?_ | refine blk_alloc ?_ _)); exact BK321.out)) : gb321 ≠ gb350)); have n11_ := Aside0.mk ((by rw [hg]; exact Nat.ne_of_gt (blk_lt (g := gb321) (o := .cells #[.int .i64 a3_0, .int .i64 a3_1, .int .u64 a3_2, .int .u16 a3_3] 52 (0, 0)) (by (with_reducible repeat (first | refine blk_drewN ?_ _ | refine blk_drew ?_ | refine blk_alloc ?_ _)); exact BK321.out)) : gb350 ≠ gb321)); have n12_ := Aside0.mk ((by rw [hg]; exact Nat.ne_of_lt (blk_lt (g := gb334) (o := .cells #[.bool t328, .bool t329, .int .u64 t330, .int .i64 t331] 55 (0, 0)) (by (with_reducible repeat (first | refine blk_drewN ?_ _ | refine blk_drew ?_ | refine blk_alloc ?_ _)); exact BK334.out)) : gb334 ≠ gb350)); have n13_ := Aside0.mk ((by rw [hg]; exact Nat.ne_of_gt (blk_lt (g := gb334) (o := .cells #[.bool t328, .bool t329, .int .u64 t330, .int .i64 t331] 55 (0, 0)) (by (with_reducible repeat (first | refine blk_drewN ?_ _ | refine blk_drew ?_ | refine blk_alloc ?_ _)); exact BK334.out)) : gb350 ≠ gb334)); have n14_ := Aside0.mk ((by rw [hg]; exact Nat.ne_of_lt (blk_lt (g := gb341) (o := .cells #[.bool t335, .bool true, .int .u64 t337, .int .i64 t338] 55 (0, 0)) (by (with_reducible repeat (first | refine blk_drewN ?_ _ | refine blk_drew ?_ | refine blk_alloc ?_ _)); exact BK341.out)) : gb341 ≠ gb350)); have n15_ := Aside0.mk ((by rw [hg]; exact Nat.ne_of_gt (blk_lt (g := gb341) (o := .cells #[.bool t335, .bool true, .int .u64 t337, .int .i64 t338] 55 (0, 0)) (by (with_reducible repeat (first | refine blk_drewN ?_ _ | refine blk_drew ?_ | refine blk_alloc ?_ _)); exact BK341.out)) : gb350 ≠ gb341)); clear BK320; clear BK321; clear BK334; clear BK341; clear HB; have BK320 := n0_; have BK321 := n1_; have BK334 := n2_; have BK341 := n3_; have HB := n4_; have BK350 := n5_; have GW350 := n6_; have GE350 := n7_; have NB320_350 := n8_; have NB350_320 := n9_; have NB321_350 := n10_; have NB350_321 := n11_; have NB334_350 := n12_; have NB350_334 := n13_; have NB341_350 := n14_; have NB350_341 := n15_; clear n0_ n1_ n2_ n3_ n4_ n5_ n6_ n7_ n8_ n9_ n10_ n11_ n12_ n13_ n14_ n15_; clear hb hbox hg; have hnb119 := NB350_320.out; have hnc119 := NB320_350.out; have hnb120 := NB350_321.out; have hnc120 := NB321_350.out; have hnb121 := NB350_334.out; have hnc121 := NB334_350.out; have hnb122 := NB350_341.out; have hnc122 := NB341_350.out; have hcz123_0 : w118.cell? ⟨gb350, 0, none⟩ = some (.bool false) := (blk_cell BK350.out 0).trans rfl; have hcz123_1 : w118.cell? ⟨gb350, 1, none⟩ = some (.bool false) := (blk_cell BK350.out 1).trans rfl; have hcz123_2 : w118.cell? ⟨gb350, 2, none⟩ = some (.int .u64 0) := (blk_cell BK350.out 2).trans rfl; have hcz123_3 : w118.cell? ⟨gb350, 3, none⟩ = some (.int .i64 0) := (blk_cell BK350.out 3).trans rfl; have hfz123_0 := blk_frozen BK350.out 0; have hfz123_1 := blk_frozen BK350.out 1; have hfz123_2 := blk_frozen BK350.out 2; have hfz123_3 := blk_frozen BK350.out 3; have hcz124_0 : w118.cell? ⟨gb341, 0, none⟩ = some (.bool t335) := (blk_cell BK341.out 0).trans rfl; have hcz124_1 : w118.cell? ⟨gb341, 1, none⟩ = some (.bool true) := (blk_cell BK341.out 1).trans rfl; have hcz124_2 : w118.cell? ⟨gb341, 2, none⟩ = some (.int .u64 t337) := (blk_cell BK341.out 2).trans rfl; have hcz124_3 : w118.cell? ⟨gb341, 3, none⟩ = some (.int .i64 t338) := (blk_cell BK341.out 3).trans rfl; have hfz124_0 := blk_frozen BK341.out 0; have hfz124_1 := blk_frozen BK341.out 1; have hfz124_2 := blk_frozen BK341.out 2; have hfz124_3 := blk_frozen BK341.out 3; have hnb125 := NB321_334.out; have hnc125 := NB334_321.out; have hcz126_0 : w118.cell? ⟨gb321, 0, none⟩ = some (.int .i64 a3_0) := (blk_cell BK321.out 0).trans rfl; have hcz126_1 : w118.cell? ⟨gb321, 1, none⟩ = some (.int .i64 a3_1) := (blk_cell BK321.out 1).trans rfl; have hcz126_2 : w118.cell? ⟨gb321, 2, none⟩ = some (.int .u64 a3_2) := (blk_cell BK321.out 2).trans rfl; have hcz126_3 : w118.cell? ⟨gb321, 3, none⟩ = some (.int .u16 a3_3) := (blk_cell BK321.out 3).trans rfl; have hfz126_0 := blk_frozen BK321.out 0; have hfz126_1 := blk_frozen BK321.out 1; have hfz126_2 := blk_frozen BK321.out 2; have hfz126_3 := blk_frozen BK321.out 3) | (go_at_call 28; (with_reducible refine (guard_Check.calls kj65 t335 true t337 t338 t351 _ A109.out).mono ?_); rintro e w127 ⟨rfl, hb⟩; have n0_ := Aside0.mk (blk_below (g := gb320) (o := .cells #[.int .i64 a0_0, .int .i64 a0_1, .int .i64 a0_2, .int .i64 a0_3, .int .i64 a0_4] 23 (0, 0)) (by (with_reducible repeat (first | refine blk_drewN ?_ _ | refine blk_drew ?_ | refine blk_alloc ?_ _)); refine blk_far ?_ NB320_350.out _; (with_reducible repeat (first | refine blk_drewN ?_ _ | refine blk_drew ?_ | refine blk_alloc ?_ _)); refine blk_far ?_ NB320_350.out _; (with_reducible repeat (first | refine blk_drewN ?_ _ | refine blk_drew ?_ | refine blk_alloc ?_ _)); refine blk_far ?_ NB320_350.out _; (with_reducible repeat (first | refine blk_drewN ?_ _ | refine blk_drew ?_ | refine blk_alloc ?_ _)); refine blk_far ?_ NB320_350.out _; (with_reducible repeat (first | refine blk_drewN ?_ _ | refine blk_drew ?_ | refine blk_alloc ?_ _)); exact BK320.out) hb); have n1_ := Aside0.mk (blk_below (g := gb321) (o := .cells #[.int .i64 a3_0, .int .i64 a3_1, .int .u64 a3_2, .int .u16 a3_3] 52 (0, 0)) (by (with_reducible repeat (first | refine blk_drewN ?_ _ | refine blk_drew ?_ | refine blk_alloc ?_ _)); refine blk_far ?_ NB321_350.out _; (with_reducible repeat (first | refine blk_drewN ?_ _ | refine blk_drew ?_ | refine blk_alloc ?_ _)); refine blk_far ?_ NB321_350.out _; (with_reducible repeat (first | refine blk_drewN ?_ _ | refine blk_drew ?_ | refine blk_alloc ?_ _)); refine blk_far ?_ NB321_350.out _; (with_reducible repeat (first | refine blk_drewN ?_ _ | refine blk_drew ?_ | refine blk_alloc ?_ _)); refine blk_far ?_ NB321_350.out _; (with_reducible repeat (first | refine blk_drewN ?_ _ | refine blk_drew ?_ | refine blk_alloc ?_ _)); exact BK321.out) hb); have n2_ := Aside0.mk (blk_below (g := gb334) (o := .cells #[.bool t328, .bool t329, .int .u64 t330, .int .i64 t331] 55 (0, 0)) (by (with_reducible repeat (first | refine blk_drewN ?_ _ | refine blk_drew ?_ | refine blk_alloc ?_ _)); refine blk_far ?_ NB334_350.out _; (with_reducible repeat (first | refine blk_drewN ?_ _ | refine blk_drew ?_ | refine blk_alloc ?_ _)); refine blk_far ?_ NB334_350.out _; (with_reducible repeat (first | refine blk_drewN ?_ _ | refine blk_drew ?_ | refine blk_alloc ?_ _)); refine blk_far ?_ NB334_350.out _; (with_reducible repeat (first | refine blk_drewN ?_ _ | refine blk_drew ?_ | refine blk_alloc ?_ _)); refine blk_far ?_ NB334_350.out _; (with_reducible repeat (first | refine blk_drewN ?_ _ | refine blk_drew ?_ | refine blk_alloc ?_ _)); exact BK334.out) hb); have n3_ := Aside0.mk (blk_below (g := gb341) (o := .cells #[.bool t335, .bool true, .int .u64 t337, .int .i64 t338] 55 (0, 0)) (by (with_reducible repeat (first | refine blk_drewN ?_ _ | refine blk_drew ?_ | refine blk_alloc ?_ _)); refine blk_far ?_ NB341_350.out _; (with_reducible repeat (first | refine blk_drewN ?_ _ | refine blk_drew ?_ | refine blk_alloc ?_ _)); refine blk_far ?_ NB341_350.out _; (with_reducible repeat (first | refine blk_drewN ?_ _ | refine blk_drew ?_ | refine blk_alloc ?_ _)); refine blk_far ?_ NB341_350.out _; (with_reducible repeat (first | refine blk_drewN ?_ _ | refine blk_drew ?_ | refine blk_alloc ?_ _)); refine blk_far ?_ NB341_350.out _; (with_reducible repeat (first | refine blk_drewN ?_ _ | refine blk_drew ?_ | refine blk_alloc ?_ _)); exact BK341.out) hb); have n4_ := Aside0.mk (blk_below (g := gb350) (o := .cells #[.bool t344, .bool t345, .int .u64 t346, .int .i64 t347] 55 (0, 0)) (by (with_reducible repeat (first | refine blk_drewN ?_ _ | refine blk_drew ?_ | refine blk_alloc ?_ _)); refine blk_put (cs := #[.bool t344, .bool t345, .int .u64 t346, .int .i64 0]) ?_ 3 _ rfl; (with_reducible repeat (first | refine blk_drewN ?_ _ | refine blk_drew ?_ | refine blk_alloc ?_ _)); refine blk_put (cs := #[.bool t344, .bool t345, .int .u64 0, .int .i64 0]) ?_ 2 _ rfl; (with_reducible repeat (first | refine blk_drewN ?_ _ | refine blk_drew ?_ | refine blk_alloc ?_ _)); refine blk_put (cs := #[.bool t344, .bool false, .int .u64 0, .int .i64 0]) ?_ 1 _ rfl; (with_reducible repeat (first | refine blk_drewN ?_ _ | refine blk_drew ?_ | refine blk_alloc ?_ _)); refine blk_put (cs := #[.bool false, .bool false, .int .u64 0, .int .i64 0]) ?_ 0 _ rfl; (with_reducible repeat (first | refine blk_drewN ?_ _ | refine blk_drew ?_ | refine blk_alloc ?_ _)); exact BK350.out) hb); have n5_ := Aside0.mk (below_step (by repeat (first | (with_reducible first | exact HB.out | apply below_alloc | apply pw_below_drewN | apply below_drew1 | refine below_set ?_ GE320.out | refine below_set ?_ GE321.out | refine below_set ?_ GE334.out | refine below_set ?_ GE341.out | refine below_set ?_ GE350.out) | exact HB.out)) hb); clear BK320; clear BK321; clear BK334; clear BK341; clear BK350; clear HB; have BK320 := n0_; have BK321 := n1_; have BK334 := n2_; have BK341 := n3_; have BK350 := n4_; have HB := n5_; clear n0_ n1_ n2_ n3_ n4_ n5_; (try clear hb); (try clear hb2); (try clear hk); (try clear hi)))
                 go_ret
                 exact ⟨by first | rfl | (simp [errW_none, errW_some] <;> rfl) | (simp [*, errW_none, errW_some] <;> rfl), by repeat (first | (with_reducible first | exact HB.out | apply below_alloc | apply pw_below_drewN | apply below_drew1 | refine below_set ?_ GE320.out | refine below_set ?_ GE321.out | refine below_set ?_ GE334.out | refine below_set ?_ GE341.out | refine below_set ?_ GE350.out) | exact HB.out)⟩
                ·rw [if_neg c108] at H
                 have c108b0 : (t344 == t335 && (t345 == true && (t346 == t337 && (t347 == t338)))) = false := by simpa using c108
                 have c108b1 : ((t344 == t335 && (t345 && (t346 == t337 && (t347 == t338))))) = false := by simpa using c108
                 (try (have c108b2 : decide (t344 = t335 && (t345 == true && (t346 == t337 && (t347 == t338)))) = false := by simpa using c108))
                 (try (have c108b3 : (t344 == t335 && (t345 == true && (t346 == t337 && (t347 == t338)))) = false := by simpa using c108))
                 (try (have c108b4 : ¬ (t344 = t335 && (t345 == true && (t346 == t337 && (t347 == t338)))) := by simpa using c108))
                 clear c108
                 obtain rfl := Option.some.inj H
                 exact absurd hr_.out (by decide)
               ·rw [if_neg c107] at H
                have c107b0 : (t349 == 0) = false := beq_eq_false_iff_ne.mpr c107
                have c107b1 : (t349 != 0) = true := bne_iff_ne.mpr c107
                obtain rfl := Option.some.inj H
                exact absurd hr_.out (by decide)
              ·replace c106 := Bool.eq_false_iff.mpr c106
               subst c106
               have H1 : (some false) = some r := by rw [if_neg (show ¬ (false = true) by decide)] at H; exact H
               clear H
               have H := H1
               clear H1
               obtain rfl := Option.some.inj H
               exact absurd hr_.out (by decide)
             ·rw [if_neg c105] at H
              have c105b0 : (t337 == a3_2) = false := beq_eq_false_iff_ne.mpr c105
              have c105b1 : (t337 != a3_2) = true := bne_iff_ne.mpr c105
              obtain rfl := Option.some.inj H
              exact absurd hr_.out (by decide)
            ·replace c104 := Bool.eq_false_iff.mpr c104
             subst c104
             have H1 : (some false) = some r := by rw [if_neg (show ¬ (false = true) by decide)] at H; exact H
             clear H
             have H := H1
             clear H1
             obtain rfl := Option.some.inj H
             exact absurd hr_.out (by decide)
           ·replace c102 := Bool.eq_false_iff.mpr c102
            subst c102
            have H1 : (if true = true then (some (t335 && (!t336 && (t337 == 0 && (t338 == 0))))) else (some false)) = some r := by rw [if_neg (show ¬ (false = true) by decide)] at H; exact H
            clear H
            have H := H1
            clear H1
            have H1 : (some (t335 && (!t336 && (t337 == 0 && (t338 == 0))))) = some r := by first | (rw [if_pos rfl] at H; exact H) | exact H
            clear H
            have H := H1
            clear H1
            obtain rfl := Option.some.inj H
            have hnb128 := NB341_320.out
            have hnc128 := NB320_341.out
            have hnb129 := NB341_321.out
            have hnc129 := NB321_341.out
            have hnb130 := NB341_334.out
            have hnc130 := NB334_341.out
            have hcz131_0 : wc.cell? ⟨gb341, 0, none⟩ = some (.bool t335) := (blk_cell BK341.out 0).trans rfl
            have hcz131_1 : wc.cell? ⟨gb341, 1, none⟩ = some (.bool t336) := (blk_cell BK341.out 1).trans rfl
            have hcz131_2 : wc.cell? ⟨gb341, 2, none⟩ = some (.int .u64 t337) := (blk_cell BK341.out 2).trans rfl
            have hcz131_3 : wc.cell? ⟨gb341, 3, none⟩ = some (.int .i64 t338) := (blk_cell BK341.out 3).trans rfl
            have hfz131_0 := blk_frozen BK341.out 0
            have hfz131_1 := blk_frozen BK341.out 1
            have hfz131_2 := blk_frozen BK341.out 2
            have hfz131_3 := blk_frozen BK341.out 3
            go_wp2
            go_ret
            exact ⟨by first | rfl | (simp [errW_none, errW_some] <;> rfl) | (simp [*, errW_none, errW_some] <;> rfl), by repeat (first | (with_reducible first | exact HB.out | apply below_alloc | apply pw_below_drewN | apply below_drew1 | refine below_set ?_ GE320.out | refine below_set ?_ GE321.out | refine below_set ?_ GE334.out | refine below_set ?_ GE341.out) | exact HB.out)⟩
 ·replace c7 := Bool.eq_false_iff.mpr c7
  subst c7
  have H1 : (some false) = some r := by rw [if_neg (show ¬ (false = true) by decide)] at H; exact H
  clear H
  have H := H1
  clear H1
  obtain rfl := Option.some.inj H
  exact absurd hr_.out (by decide)

end Go.Proofs.Ytpfkiljakiiieaa.Print
