-- PRINTED by print.py (a twelfth state) out of the translation. Not trusted: Lean checks it.
import Derived.Test.YtcofclkgfandfaaSq
import Derived.Test.YtcofclkgfandfaaPrint0
import Derived.Test.YtcofclkgfandfaaPrint12
import Derived.Test.YtcofclkgfandfaaPrint13
import Derived.Test.YtcofclkgfandfaaPrint25
import Derived.Test.YtcofclkgfandfaaPrint26
namespace Go.Proofs.Ytcofclkgfandfaa.Print
open Go.RowKit Go.Proofs.YtcofclkgfandfaaW.PrintWords Go.Proofs.YtcofclkgfandfaaW.PrintLast Go.Proofs.YtcofclkgfandfaaW.PrintMore Go.Proofs.YtcofclkgfandfaaX
attribute [local go_sem] str_lss str_geq max2_int min2_int max_two min_two max_three min_three max_four min_four   -- for this text's walks alone
set_option linter.unusedVariables false
set_option linter.unusedSimpArgs false

attribute [local go_sem high] eqA42
/-! ### palletlaw13_NodeSends: function 3 -/
mutual
def palletlaw13_NodeSends.l0 : Nat → Int → Int → Bool → List (S44) → Int → Int → Int → Int → Int → Int → Int → Int → Int → Int → Int → Int → Int → Int → Int → Int → Int → Int → Int → Int → List Int → Bool → Int → Option (Bool)
 | 0, _, _, _, _, _, _, _, _, _, _, _, _, _, _, _, _, _, _, _, _, _, _, _, _, _, _, _ => none
 | k + 1, x1, x4, x11, x14, x15, x16, x54, x55, x498000, x498001, x498002, x498003, x498004, x518000, x518001, x518002, x518003, x518004, x518005, x518006, x518007, x518008, x518009, x518010, x518011, x518012, x518013 => if x55 < x54 then ((palletlaw13_timers.f k x14).bind fun t538 => (if (t538.length : Int) = 1 then (if 0 < (t538.length : Int) then (palletlaw13_NodeSends.j1 k x1 x4 x11 x15 t538 x54 x55 (decide ((rd t538 0) < x16)) x498000 x498001 x498002 x498003 x498004 x518000 x518001 x518002 x518003 x518004 x518005 x518006 x518007 x518008 x518009 x518010 x518011 x518012 x518013) else (none)) else (none))) else (if x11 = true then (if x15 ≥ 1 then (some (decide (x15 ≤ ((((Int.tmod x4 4) + 1) % 256) + 1)))) else (none)) else (none))
def palletlaw13_NodeSends.j1 : Nat → Int → Int → Bool → Int → List Int → Int → Int → Bool → Int → Int → Int → Int → Int → Int → Int → Int → Int → Int → Int → Int → Int → Int → Int → Int → List Int → Bool → Int → Option (Bool)
 | 0, _, _, _, _, _, _, _, _, _, _, _, _, _, _, _, _, _, _, _, _, _, _, _, _, _, _, _ => none
 | k + 1, x1, x4, x11, x15, x17, x54, x55, x68, x498000, x498001, x498002, x498003, x498004, x518000, x518001, x518002, x518003, x518004, x518005, x518006, x518007, x518008, x518009, x518010, x518011, x518012, x518013 => if x68 = true then (none) else (if 0 < (x17.length : Int) then ((node_Timer.f k x498000 x498001 x498002 x498003 x498004 x518000 x518001 x518002 x518003 x518004 x518005 x518006 x518007 x518008 x518009 x518010 x518011 x518012 x518013 (rd x17 0)).bind fun bt543 => (if bt543.2.2.2.2.2.2.2.2.2.2.2.2.2.2.2 = 0 then (palletlaw13_NodeSends.j2 k x1 x4 x11 bt543.2.2.2.2.2.2.2.2.2.2.2.2.2.2.1 x15 (rd x17 0) x54 x55 (bt543.2.1 != 2) x498000 x498001 x498002 x498003 x498004 bt543.1 bt543.2.1 bt543.2.2.1 bt543.2.2.2.1 bt543.2.2.2.2.1 bt543.2.2.2.2.2.1 bt543.2.2.2.2.2.2.1 bt543.2.2.2.2.2.2.2.1 bt543.2.2.2.2.2.2.2.2.1 bt543.2.2.2.2.2.2.2.2.2.1 bt543.2.2.2.2.2.2.2.2.2.2.1 bt543.2.2.2.2.2.2.2.2.2.2.2.1 bt543.2.2.2.2.2.2.2.2.2.2.2.2.1 bt543.2.2.2.2.2.2.2.2.2.2.2.2.2.1) else (none))) else (none))
def palletlaw13_NodeSends.j2 : Nat → Int → Int → Bool → List (S44) → Int → Int → Int → Int → Bool → Int → Int → Int → Int → Int → Int → Int → Int → Int → Int → Int → Int → Int → Int → Int → Int → List Int → Bool → Int → Option (Bool)
 | 0, _, _, _, _, _, _, _, _, _, _, _, _, _, _, _, _, _, _, _, _, _, _, _, _, _, _, _, _ => none
 | k + 1, x1, x4, x11, x14, x15, x16, x54, x55, x86, x498000, x498001, x498002, x498003, x498004, x518000, x518001, x518002, x518003, x518004, x518005, x518006, x518007, x518008, x518009, x518010, x518011, x518012, x518013 => if x86 = true then (none) else (palletlaw13_NodeSends.l1 k x1 x4 x11 x14 x15 x16 x54 x55 x14 (x14.length : Int) 0 x498000 x498001 x498002 x498003 x498004 x518000 x518001 x518002 x518003 x518004 x518005 x518006 x518007 x518008 x518009 x518010 x518011 x518012 x518013)
def palletlaw13_NodeSends.l1 : Nat → Int → Int → Bool → List (S44) → Int → Int → Int → Int → List (S44) → Int → Int → Int → Int → Int → Int → Int → Int → Int → Int → Int → Int → Int → Int → Int → Int → Int → Int → List Int → Bool → Int → Option (Bool)
 | 0, _, _, _, _, _, _, _, _, _, _, _, _, _, _, _, _, _, _, _, _, _, _, _, _, _, _, _, _, _, _ => none
 | k + 1, x1, x4, x11, x14, x15, x16, x54, x55, x87, x88, x89, x498000, x498001, x498002, x498003, x498004, x518000, x518001, x518002, x518003, x518004, x518005, x518006, x518007, x518008, x518009, x518010, x518011, x518012, x518013 => if x89 < x88 then (if 0 ≤ x89 then (if x89 < (x87.length : Int) then (if ((rd_T44 x87 x89).f0) = 2 then ((frame_With.f 0 x1).bind fun t565 => (if (!(((rd_T44 x87 x89).f2.f0) == 2) || (!(((rd_T44 x87 x89).f2.f1) == x1) || (!(((rd_T44 x87 x89).f2.f2) == (IntKind.u64.wrap (wrap64 (x1 + (wrap64 (x498000 * x15)))))) || (!(((rd_T44 x87 x89).f2.f3) == t565))))) = true then (none) else (palletlaw13_NodeSends.j4 k x1 x4 x11 x14 (wrap64 (x15 + 1)) x16 x54 x55 x87 x88 x89 x498000 x498001 x498002 x498003 x498004 x518000 x518001 x518002 x518003 x518004 x518005 x518006 x518007 x518008 x518009 x518010 x518011 x518012 x518013 ((rd_T44 x87 x89).f0) ((rd_T44 x87 x89).f1) ((rd_T44 x87 x89).f2.f0) ((rd_T44 x87 x89).f2.f1) ((rd_T44 x87 x89).f2.f2) ((rd_T44 x87 x89).f2.f3) ((rd_T44 x87 x89).f3) ((rd_T44 x87 x89).f4)))) else (palletlaw13_NodeSends.j4 k x1 x4 x11 x14 x15 x16 x54 x55 x87 x88 x89 x498000 x498001 x498002 x498003 x498004 x518000 x518001 x518002 x518003 x518004 x518005 x518006 x518007 x518008 x518009 x518010 x518011 x518012 x518013 ((rd_T44 x87 x89).f0) ((rd_T44 x87 x89).f1) ((rd_T44 x87 x89).f2.f0) ((rd_T44 x87 x89).f2.f1) ((rd_T44 x87 x89).f2.f2) ((rd_T44 x87 x89).f2.f3) ((rd_T44 x87 x89).f3) ((rd_T44 x87 x89).f4))) else (none)) else (none)) else (palletlaw13_NodeSends.l0 k x1 x4 x11 x14 x15 x16 x54 (wrap64 (x55 + 1)) x498000 x498001 x498002 x498003 x498004 x518000 x518001 x518002 x518003 x518004 x518005 x518006 x518007 x518008 x518009 x518010 x518011 x518012 x518013)
def palletlaw13_NodeSends.j4 : Nat → Int → Int → Bool → List (S44) → Int → Int → Int → Int → List (S44) → Int → Int → Int → Int → Int → Int → Int → Int → Int → Int → Int → Int → Int → Int → Int → Int → Int → Int → List Int → Bool → Int → Int → Int → Int → Int → Int → Int → Int → Int → Option (Bool)
 | 0, _, _, _, _, _, _, _, _, _, _, _, _, _, _, _, _, _, _, _, _, _, _, _, _, _, _, _, _, _, _, _, _, _, _, _, _, _, _ => none
 | k + 1, x1, x4, x11, x14, x15, x16, x54, x55, x87, x88, x89, x498000, x498001, x498002, x498003, x498004, x518000, x518001, x518002, x518003, x518004, x518005, x518006, x518007, x518008, x518009, x518010, x518011, x518012, x518013, x565000, x565001, x565002, x565003, x565004, x565005, x565006, x565007 => if x565000 = 3 then (if x565006 = 8 then (if x565007 = 0 then (if x565006 = 4 then (none) else (palletlaw13_NodeSends.j5 k x1 x4 x11 x14 x15 x16 x54 x55 x87 x88 x89 (x565006 == 9) x498000 x498001 x498002 x498003 x498004 x518000 x518001 x518002 x518003 x518004 x518005 x518006 x518007 x518008 x518009 x518010 x518011 x518012 x518013)) else (none)) else (if x565006 = 4 then (none) else (palletlaw13_NodeSends.j5 k x1 x4 x11 x14 x15 x16 x54 x55 x87 x88 x89 (x565006 == 9) x498000 x498001 x498002 x498003 x498004 x518000 x518001 x518002 x518003 x518004 x518005 x518006 x518007 x518008 x518009 x518010 x518011 x518012 x518013))) else (palletlaw13_NodeSends.j5 k x1 x4 x11 x14 x15 x16 x54 x55 x87 x88 x89 false x498000 x498001 x498002 x498003 x498004 x518000 x518001 x518002 x518003 x518004 x518005 x518006 x518007 x518008 x518009 x518010 x518011 x518012 x518013)
def palletlaw13_NodeSends.j5 : Nat → Int → Int → Bool → List (S44) → Int → Int → Int → Int → List (S44) → Int → Int → Bool → Int → Int → Int → Int → Int → Int → Int → Int → Int → Int → Int → Int → Int → Int → Int → Int → List Int → Bool → Int → Option (Bool)
 | 0, _, _, _, _, _, _, _, _, _, _, _, _, _, _, _, _, _, _, _, _, _, _, _, _, _, _, _, _, _, _, _ => none
 | k + 1, x1, x4, x11, x14, x15, x16, x54, x55, x87, x88, x89, x140, x498000, x498001, x498002, x498003, x498004, x518000, x518001, x518002, x518003, x518004, x518005, x518006, x518007, x518008, x518009, x518010, x518011, x518012, x518013 => if x140 = true then (none) else (palletlaw13_NodeSends.l1 k x1 x4 x11 x14 x15 x16 x54 x55 x87 x88 (wrap64 (x89 + 1)) x498000 x498001 x498002 x498003 x498004 x518000 x518001 x518002 x518003 x518004 x518005 x518006 x518007 x518008 x518009 x518010 x518011 x518012 x518013)
end
def palletlaw13_NodeSends.f (k : Nat) (a0_0 : Int) (a0_1 : Int) (a0_2 : Int) (a0_3 : Int) (a0_4 : Int) (a1 : Int) (a2_0 : Int) (a2_1 : Int) (a2_2 : Int) (a3 : Int) (a4 : Int) : Option (Bool) := (palletlaw13_live.f k).bind fun t499 => (if t499 = true then ((node_New.f k a0_0 a0_1 a0_2 a0_3 a0_4 a1 a2_0 a2_1 a2_2).bind fun bt500 => (if bt500.2.2.2.2.2.2.2.2.2.2.2.2.2.2 = 0 then ((node_Wake.f k a0_0 a0_1 a0_2 a0_3 a0_4 bt500.1 bt500.2.1 bt500.2.2.1 bt500.2.2.2.1 bt500.2.2.2.2.1 bt500.2.2.2.2.2.1 bt500.2.2.2.2.2.2.1 bt500.2.2.2.2.2.2.2.1 bt500.2.2.2.2.2.2.2.2.1 bt500.2.2.2.2.2.2.2.2.2.1 bt500.2.2.2.2.2.2.2.2.2.2.1 bt500.2.2.2.2.2.2.2.2.2.2.2.1 bt500.2.2.2.2.2.2.2.2.2.2.2.2.1 bt500.2.2.2.2.2.2.2.2.2.2.2.2.2.1 (Go.bits .and .i64 a3 1099511627775)).bind fun bt518 => (if bt518.2.2.2.2.2.2.2.2.2.2.2.2.2.2.2 = 0 then (palletlaw13_NodeSends.l0 k a1 a4 t499 bt518.2.2.2.2.2.2.2.2.2.2.2.2.2.2.1 0 (Go.bits .and .i64 a3 1099511627775) (wrap64 ((((Int.tmod a4 4) + 1) % 256) * (wrap64 (a0_0 + 1)))) 0 a0_0 a0_1 a0_2 a0_3 a0_4 bt518.1 bt518.2.1 bt518.2.2.1 bt518.2.2.2.1 bt518.2.2.2.2.1 bt518.2.2.2.2.2.1 bt518.2.2.2.2.2.2.1 bt518.2.2.2.2.2.2.2.1 bt518.2.2.2.2.2.2.2.2.1 bt518.2.2.2.2.2.2.2.2.2.1 bt518.2.2.2.2.2.2.2.2.2.2.1 bt518.2.2.2.2.2.2.2.2.2.2.2.1 bt518.2.2.2.2.2.2.2.2.2.2.2.2.1 bt518.2.2.2.2.2.2.2.2.2.2.2.2.2.1) else (none))) else (some t499))) else (none))
def palletlaw13_NodeSends.T26 : Bool × List (List Nat × List Nat) := (true, [([], []), ([], []), ([], []), ([2], [2]), ([], []), ([3, 4], [3, 4]), ([1, 5], [1, 5]), ([6], [6]), ([], []), ([8], [8]), ([0, 7, 9], [0, 7, 9]), ([], []), ([11, 10, 9, 0, 1, 2, 3, 4, 5, 6, 7, 8, 9, 10, 11], [10, 11])])
def palletlaw13_NodeSends.B26 : List Nat := [0, 0, 0, 4, 0, 28, 62, 126, 0, 256, 1023, 0, 4095]
theorem palletlaw13_NodeSends.tab26 : rtab .any (opsOf Try.f3 26) = palletlaw13_NodeSends.T26 := by kernel_rfl
theorem palletlaw13_NodeSends.bits26 : waitsOk palletlaw13_NodeSends.T26.2 palletlaw13_NodeSends.B26 = true := by kernel_rfl
set_option maxHeartbeats 8000000 in
set_option maxRecDepth 100000 in
theorem palletlaw13_NodeSends.calls (k : Nat) (a0_0 : Int) (a0_1 : Int) (a0_2 : Int) (a0_3 : Int) (a0_4 : Int) (a1 : Int) (a2_0 : Int) (a2_1 : Int) (a2_2 : Int) (a3 : Int) (a4 : Int) (r : Bool) (w : World) (hr_ : Aside0 (r = true)) (h : palletlaw13_NodeSends.f k a0_0 a0_1 a0_2 a0_3 a0_4 a1 a2_0 a2_1 a2_2 a3 a4 = some r) :
  Calls Try.prog 3 #[.agg #[.int .i64 a0_0, .int .i64 a0_1, .int .i64 a0_2, .int .i64 a0_3, .int .i64 a0_4], .int .i64 a1, .agg #[.int .i64 a2_0, .int .i64 a2_1, .int .i64 a2_2], .int .i64 a3, .int .u8 a4] w fun e w' => e = .returned (.bool r) ∧ Below w.heap.size w w' := by
 have hu23 := Try.underlying23
 have hu25 := Try.underlying25
 have hu33 := Try.underlying33
 have hu44 := Try.underlying44
 have hu42 := Try.underlying42
 have HB := asd (Below.refl w.heap.size w)
 have H : ((palletlaw13_live.f k).bind fun t499 => (if t499 = true then ((node_New.f k a0_0 a0_1 a0_2 a0_3 a0_4 a1 a2_0 a2_1 a2_2).bind fun bt500 => (if bt500.2.2.2.2.2.2.2.2.2.2.2.2.2.2 = 0 then ((node_Wake.f k a0_0 a0_1 a0_2 a0_3 a0_4 bt500.1 bt500.2.1 bt500.2.2.1 bt500.2.2.2.1 bt500.2.2.2.2.1 bt500.2.2.2.2.2.1 bt500.2.2.2.2.2.2.1 bt500.2.2.2.2.2.2.2.1 bt500.2.2.2.2.2.2.2.2.1 bt500.2.2.2.2.2.2.2.2.2.1 bt500.2.2.2.2.2.2.2.2.2.2.1 bt500.2.2.2.2.2.2.2.2.2.2.2.1 bt500.2.2.2.2.2.2.2.2.2.2.2.2.1 bt500.2.2.2.2.2.2.2.2.2.2.2.2.2.1 (Go.bits .and .i64 a3 1099511627775)).bind fun bt518 => (if bt518.2.2.2.2.2.2.2.2.2.2.2.2.2.2.2 = 0 then (palletlaw13_NodeSends.l0 k a1 a4 t499 bt518.2.2.2.2.2.2.2.2.2.2.2.2.2.2.1 0 (Go.bits .and .i64 a3 1099511627775) (wrap64 ((((Int.tmod a4 4) + 1) % 256) * (wrap64 (a0_0 + 1)))) 0 a0_0 a0_1 a0_2 a0_3 a0_4 bt518.1 bt518.2.1 bt518.2.2.1 bt518.2.2.2.1 bt518.2.2.2.2.1 bt518.2.2.2.2.2.1 bt518.2.2.2.2.2.2.1 bt518.2.2.2.2.2.2.2.1 bt518.2.2.2.2.2.2.2.2.1 bt518.2.2.2.2.2.2.2.2.2.1 bt518.2.2.2.2.2.2.2.2.2.2.1 bt518.2.2.2.2.2.2.2.2.2.2.2.1 bt518.2.2.2.2.2.2.2.2.2.2.2.2.1 bt518.2.2.2.2.2.2.2.2.2.2.2.2.2.1) else (none))) else (some t499))) else (none))) = some r := h
 clear h
 replace H := Option.bind_eq_some_iff.mp H
 obtain ⟨t499, A60, H⟩ := H
 replace H : (if t499 = true then ((node_New.f k a0_0 a0_1 a0_2 a0_3 a0_4 a1 a2_0 a2_1 a2_2).bind fun bt500 => (if bt500.2.2.2.2.2.2.2.2.2.2.2.2.2.2 = 0 then ((node_Wake.f k a0_0 a0_1 a0_2 a0_3 a0_4 bt500.1 bt500.2.1 bt500.2.2.1 bt500.2.2.2.1 bt500.2.2.2.2.1 bt500.2.2.2.2.2.1 bt500.2.2.2.2.2.2.1 bt500.2.2.2.2.2.2.2.1 bt500.2.2.2.2.2.2.2.2.1 bt500.2.2.2.2.2.2.2.2.2.1 bt500.2.2.2.2.2.2.2.2.2.2.1 bt500.2.2.2.2.2.2.2.2.2.2.2.1 bt500.2.2.2.2.2.2.2.2.2.2.2.2.1 bt500.2.2.2.2.2.2.2.2.2.2.2.2.2.1 (Go.bits .and .i64 a3 1099511627775)).bind fun bt518 => (if bt518.2.2.2.2.2.2.2.2.2.2.2.2.2.2.2 = 0 then (palletlaw13_NodeSends.l0 k a1 a4 t499 bt518.2.2.2.2.2.2.2.2.2.2.2.2.2.2.1 0 (Go.bits .and .i64 a3 1099511627775) (wrap64 ((((Int.tmod a4 4) + 1) % 256) * (wrap64 (a0_0 + 1)))) 0 a0_0 a0_1 a0_2 a0_3 a0_4 bt518.1 bt518.2.1 bt518.2.2.1 bt518.2.2.2.1 bt518.2.2.2.2.1 bt518.2.2.2.2.2.1 bt518.2.2.2.2.2.2.1 bt518.2.2.2.2.2.2.2.1 bt518.2.2.2.2.2.2.2.2.1 bt518.2.2.2.2.2.2.2.2.2.1 bt518.2.2.2.2.2.2.2.2.2.2.1 bt518.2.2.2.2.2.2.2.2.2.2.2.1 bt518.2.2.2.2.2.2.2.2.2.2.2.2.1 bt518.2.2.2.2.2.2.2.2.2.2.2.2.2.1) else (none))) else (some t499))) else (none)) = some r := H
 have A6 := asd A60
 clear A60
 by_cases c7 : t499 = true
 ·subst c7
  have H1 : ((node_New.f k a0_0 a0_1 a0_2 a0_3 a0_4 a1 a2_0 a2_1 a2_2).bind fun bt500 => (if bt500.2.2.2.2.2.2.2.2.2.2.2.2.2.2 = 0 then ((node_Wake.f k a0_0 a0_1 a0_2 a0_3 a0_4 bt500.1 bt500.2.1 bt500.2.2.1 bt500.2.2.2.1 bt500.2.2.2.2.1 bt500.2.2.2.2.2.1 bt500.2.2.2.2.2.2.1 bt500.2.2.2.2.2.2.2.1 bt500.2.2.2.2.2.2.2.2.1 bt500.2.2.2.2.2.2.2.2.2.1 bt500.2.2.2.2.2.2.2.2.2.2.1 bt500.2.2.2.2.2.2.2.2.2.2.2.1 bt500.2.2.2.2.2.2.2.2.2.2.2.2.1 bt500.2.2.2.2.2.2.2.2.2.2.2.2.2.1 (Go.bits .and .i64 a3 1099511627775)).bind fun bt518 => (if bt518.2.2.2.2.2.2.2.2.2.2.2.2.2.2.2 = 0 then (palletlaw13_NodeSends.l0 k a1 a4 true bt518.2.2.2.2.2.2.2.2.2.2.2.2.2.2.1 0 (Go.bits .and .i64 a3 1099511627775) (wrap64 ((((Int.tmod a4 4) + 1) % 256) * (wrap64 (a0_0 + 1)))) 0 a0_0 a0_1 a0_2 a0_3 a0_4 bt518.1 bt518.2.1 bt518.2.2.1 bt518.2.2.2.1 bt518.2.2.2.2.1 bt518.2.2.2.2.2.1 bt518.2.2.2.2.2.2.1 bt518.2.2.2.2.2.2.2.1 bt518.2.2.2.2.2.2.2.2.1 bt518.2.2.2.2.2.2.2.2.2.1 bt518.2.2.2.2.2.2.2.2.2.2.1 bt518.2.2.2.2.2.2.2.2.2.2.2.1 bt518.2.2.2.2.2.2.2.2.2.2.2.2.1 bt518.2.2.2.2.2.2.2.2.2.2.2.2.2.1) else (none))) else (some true))) = some r := by rw [if_pos rfl] at H; exact H
  clear H
  have H := H1
  clear H1
  replace H := Option.bind_eq_some_iff.mp H
  obtain ⟨⟨t500, t501, t502, t503, t504, t505, t506, t507, t508, t509, t510, t511, t514, t515, t516⟩, A80, H⟩ := H
  replace H : (if t516 = 0 then ((node_Wake.f k a0_0 a0_1 a0_2 a0_3 a0_4 t500 t501 t502 t503 t504 t505 t506 t507 t508 t509 t510 t511 t514 t515 (Go.bits .and .i64 a3 1099511627775)).bind fun bt518 => (if bt518.2.2.2.2.2.2.2.2.2.2.2.2.2.2.2 = 0 then (palletlaw13_NodeSends.l0 k a1 a4 true bt518.2.2.2.2.2.2.2.2.2.2.2.2.2.2.1 0 (Go.bits .and .i64 a3 1099511627775) (wrap64 ((((Int.tmod a4 4) + 1) % 256) * (wrap64 (a0_0 + 1)))) 0 a0_0 a0_1 a0_2 a0_3 a0_4 bt518.1 bt518.2.1 bt518.2.2.1 bt518.2.2.2.1 bt518.2.2.2.2.1 bt518.2.2.2.2.2.1 bt518.2.2.2.2.2.2.1 bt518.2.2.2.2.2.2.2.1 bt518.2.2.2.2.2.2.2.2.1 bt518.2.2.2.2.2.2.2.2.2.1 bt518.2.2.2.2.2.2.2.2.2.2.1 bt518.2.2.2.2.2.2.2.2.2.2.2.1 bt518.2.2.2.2.2.2.2.2.2.2.2.2.1 bt518.2.2.2.2.2.2.2.2.2.2.2.2.2.1) else (none))) else (some true)) = some r := H
  have A8 := asd A80
  clear A80
  by_cases c9 : t516 = 0
  ·rw [if_pos c9] at H
   have c9b0 : (t516 == 0) = true := beq_iff_eq.mpr c9
   have c9b1 : (t516 != 0) = false := bne_eq_false_iff_eq.mpr c9
   clear c9
   replace H := Option.bind_eq_some_iff.mp H
   obtain ⟨⟨t518, t519, t520, t521, t522, t523, t524, t525, t526, t527, t528, t529, t532, t533, t534, t537⟩, A100, H⟩ := H
   replace H : (if t537 = 0 then (palletlaw13_NodeSends.l0 k a1 a4 true t534 0 (Go.bits .and .i64 a3 1099511627775) (wrap64 ((((Int.tmod a4 4) + 1) % 256) * (wrap64 (a0_0 + 1)))) 0 a0_0 a0_1 a0_2 a0_3 a0_4 t518 t519 t520 t521 t522 t523 t524 t525 t526 t527 t528 t529 t532 t533) else (none)) = some r := H
   have A10 := asd A100
   clear A100
   by_cases c11 : t537 = 0
   ·rw [if_pos c11] at H
    have c11b0 : (t537 == 0) = true := beq_iff_eq.mpr c11
    have c11b1 : (t537 != 0) = false := bne_eq_false_iff_eq.mpr c11
    clear c11
    have H' := asd H
    clear H
    go_enter Try.func3, Try.ntmps3
    go_wp2_with (first | ((with_reducible refine gate_dst (N := 5) rfl ?_); refine bx (N := 5) (cs := #[.int .i64 a0_0, .int .i64 a0_1, .int .i64 a0_2, .int .i64 a0_3, .int .i64 a0_4]) (t := 23) ?_; intro gb497 hg w12 hbox hb; have BK497 := asd (hbox); have GW497 := bz HB hg; have GE497 := bz HB hg; replace HB := bs HB hb; clear hb hbox hg) | ((with_reducible refine gate_dst (N := 7) rfl ?_); refine bx (N := 7) (cs := #[.int .i64 a2_0, .int .i64 a2_1, .int .i64 a2_2]) (t := 25) ?_; intro gb498 hg w13 hbox hb; have BK498 := asd (hbox); have GW498 := bz HB hg; have GE498 := bz HB hg; have NB497_498 := nl BK497 hg; have NB498_497 := nr BK497 hg; replace BK497 := bb BK497 hb; replace HB := bs HB hb; clear hb hbox hg) | ((with_reducible refine gate_callee (f := 4) rfl ?_); refine gL (some 21) Try.func4 #[] ?_; (with_reducible refine (palletlaw13_live.calls k  true _ A6.out).mono ?_); rintro e w14 ⟨rfl, hb⟩; refine ⟨_, rfl, ?_⟩; replace BK497 := bb BK497 hb; replace BK498 := bb BK498 hb; replace HB := bs HB hb; (try clear hb); have hnb15 := NB497_498.out; have hnc15 := NB498_497.out; have hcz16 := cf5 BK497; have hcz17_0 : w14.cell? ⟨gb498, 0, none⟩ = some (.int .i64 a2_0) := (blk_cell BK498.out 0).trans rfl; have hcz17_1 : w14.cell? ⟨gb498, 1, none⟩ = some (.int .i64 a2_1) := (blk_cell BK498.out 1).trans rfl; have hcz17_2 : w14.cell? ⟨gb498, 2, none⟩ = some (.int .i64 a2_2) := (blk_cell BK498.out 2).trans rfl; have hfz17_0 := blk_frozen BK498.out 0; have hfz17_1 := blk_frozen BK498.out 1; have hfz17_2 := blk_frozen BK498.out 2) | ((with_reducible refine gate_callee (f := 5) rfl ?_); refine gL (some 30) Try.func5 #[.agg #[.int .i64 a0_0, .int .i64 a0_1, .int .i64 a0_2, .int .i64 a0_3, .int .i64 a0_4], .int .i64 a1, .agg #[.int .i64 a2_0, .int .i64 a2_1, .int .i64 a2_2]] ?_; (with_reducible refine (node_New.calls k a0_0 a0_1 a0_2 a0_3 a0_4 a1 a2_0 a2_1 a2_2 t500 t501 t502 t503 t504 t505 t506 t507 t508 t509 t510 t511 t514 t515 t516 _ A8.out).mono ?_); rintro e w18 ⟨v512, rfl, ho0, hb⟩; refine ⟨_, rfl, ?_⟩; have HO513 := rl ho0 HB; replace BK497 := bb BK497 hb; replace BK498 := bb BK498 hb; replace HB := bs HB hb; (try clear hb); (try clear ho0)) | ((with_reducible refine gate_dst (N := 12) rfl ?_); refine bx (N := 12) (cs := #[.int .i64 0, .int .i64 0, .int .u64 0, .int .i64 0, .int .i64 0, .int .i64 0, .int .i64 0, .int .i64 0, .int .u16 0, .int .i64 0, .int .i64 0, .slice none 0 0, .bool false, .int .i64 0]) (t := 33) ?_; intro gb517 hg w19 hbox hb; have BK517 := asd (hbox); have GW517 := bz HB hg; have GE517 := bz HB hg; have NB497_517 := nl BK497 hg; have NB517_497 := nr BK497 hg; have NB498_517 := nl BK498 hg; have NB517_498 := nr BK498 hg; replace HO513 := rb HO513 hb; replace BK497 := bb BK497 hb; replace BK498 := bb BK498 hb; replace HB := bs HB hb; clear hb hbox hg; have hnb20 := NB517_497.out; have hnc20 := NB497_517.out; have hnb21 := NB517_498.out; have hnc21 := NB498_517.out; have hcz22 := cf14 BK517; obtain ⟨Ao23, co23, eo23⟩ := Kd.R_slice HO513.out; subst eo23; have hcz24 := cf5 BK497) | ((with_reducible refine gate_callee (f := 6) rfl ?_); refine gL (some 40) Try.func6 #[.agg #[.int .i64 a0_0, .int .i64 a0_1, .int .i64 a0_2, .int .i64 a0_3, .int .i64 a0_4], .agg #[.int .i64 t500, .int .i64 t501, .int .u64 t502, .int .i64 t503, .int .i64 t504, .int .i64 t505, .int .i64 t506, .int .i64 t507, .int .u16 t508, .int .i64 t509, .int .i64 t510, .slice Ao23 t511.length co23, .bool t514, .int .i64 t515], .int .i64 (Go.bits .and .i64 a3 1099511627775)] ?_; (with_reducible refine (node_Wake.calls k a0_0 a0_1 a0_2 a0_3 a0_4 t500 t501 t502 t503 t504 t505 t506 t507 t508 t509 t510 _ _ t511 t514 t515 (Go.bits .and .i64 a3 1099511627775) t518 t519 t520 t521 t522 t523 t524 t525 t526 t527 t528 t529 t532 t533 t534 t537 _ ?side1 ?side2 A10.out).mono ?_); (case side1 => refine (Kd.R_reads' (e := 2) (base := w.heap.size) (ok := fun k_ => True) (n := t511.length) (c := co23) ?_).2.2; exact (rf HO513 BK517 (by decide) (fun _ hk => hk)).out); (case side2 => exact (Kd.R_reads' HO513.out).2.1); rintro e w25 ⟨v530, v535, rfl, ho0, ho1, hb⟩; refine ⟨_, rfl, ?_⟩; have HO531 := asd (Kd.R_lower (Kd.R_new' ho0 (Kd.R_lt (rf HO513 BK517 (by decide) (fun _ hk => hk)).out)) (below_size (bse HB))); have HO536 := rl ho1 HB; replace HO513 := asd (Kd.R_elder' (rf HO513 BK517 (by decide) (fun _ hk => hk)).out (Kd.R_base ho0) hb); replace BK497 := fq NB497_517 BK497 hb; replace BK498 := fq NB498_517 BK498 hb; replace BK517 := asd (blk_below (bp14 BK517).out hb); replace HB := bs HB hb; (try clear hb); (try clear hk); (try clear ho0); (try clear ho1); have hcz26 := cf14 BK517; obtain ⟨Ao27, co27, eo27⟩ := Kd.R_slice HO531.out; subst eo27; have hcz28 := cf5 BK497))
    go_loopg [14, 15, 16, 55] k (fun kq v14 v15 v16 v55 w' => ∃ (x14_1 : List (S44)) (x15_1 : Int) (x16_1 : Int) (x55_1 : Int) (x518000_1 : Int) (x518001_1 : Int) (x518002_1 : Int) (x518003_1 : Int) (x518004_1 : Int) (x518005_1 : Int) (x518006_1 : Int) (x518007_1 : Int) (x518008_1 : Int) (x518009_1 : Int) (x518010_1 : Int) (x518011_1 : List Int) (x518012_1 : Bool) (x518013_1 : Int) (u518011 : Value), v15 = .int .i64 x15_1 ∧ v16 = .int .i64 x16_1 ∧ v55 = .int .i64 x55_1 ∧ Aside0 (palletlaw13_NodeSends.l0 kq a1 a4 true x14_1 x15_1 x16_1 (wrap64 ((((Int.tmod a4 4) + 1) % 256) * (wrap64 (a0_0 + 1)))) x55_1 a0_0 a0_1 a0_2 a0_3 a0_4 x518000_1 x518001_1 x518002_1 x518003_1 x518004_1 x518005_1 x518006_1 x518007_1 x518008_1 x518009_1 x518010_1 x518011_1 x518012_1 x518013_1 = some r) ∧ Aside0 (kq ≤ k) ∧ Aside0 (Kd.R k44 44 w' w.heap.size (fun _ => True) v14 x14_1) ∧ Aside0 (Kd.R (Kd.int .i64) 2 w' w.heap.size (fun _ => True) u518011 x518011_1) ∧ Aside0 (w'.heap[gb497]? = some (.cells #[.int .i64 a0_0, .int .i64 a0_1, .int .i64 a0_2, .int .i64 a0_3, .int .i64 a0_4] 23 (0, 0))) ∧ Aside0 (w'.heap[gb498]? = some (.cells #[.int .i64 a2_0, .int .i64 a2_1, .int .i64 a2_2] 25 (0, 0))) ∧ Aside0 (w'.heap[gb517]? = some (.cells #[.int .i64 x518000_1, .int .i64 x518001_1, .int .u64 x518002_1, .int .i64 x518003_1, .int .i64 x518004_1, .int .i64 x518005_1, .int .i64 x518006_1, .int .i64 x518007_1, .int .u16 x518008_1, .int .i64 x518009_1, .int .i64 x518010_1, u518011, .bool x518012_1, .int .i64 x518013_1] 33 (0, 0))) ∧ Aside0 (Below w.heap.size w w'))
    case atStart => exact ⟨(t534), (0), (Go.bits .and .i64 a3 1099511627775), (0), (t518), (t519), (t520), (t521), (t522), (t523), (t524), (t525), (t526), (t527), (t528), (t529), (t532), (t533), (.slice Ao27 t529.length co27), (by first | rfl | (simp; done) | (simp [*]; done)), (by first | rfl | (simp; done) | (simp [*]; done)), (by first | rfl | (simp; done) | (simp [*]; done)), H', ⟨Nat.le_refl _⟩, rf HO536 BK517 (by decide) (fun _ hk => trivial), rf HO531 BK517 (by decide) (fun _ hk => trivial), ff NB497_517 BK497, ff NB498_517 BK498, bp14 BK517, ⟨bse HB⟩⟩
    case round =>
     clear H'
     try clear c1
     try clear c2
     try clear p2
     try clear c3
     try clear c4
     try clear c5
     try clear c6
     try clear p6
     try clear c7
     try clear c9
     try clear c9b0
     try clear c9b1
     try clear c11
     try clear c11b0
     try clear c11b1
     try clear c15
     try clear c20
     try clear c21
     try clear hcz16
     try clear hcz17_0
     try clear hcz17_1
     try clear hcz17_2
     try clear hcz22
     try clear hcz24
     try clear hcz26
     try clear hcz28
     try clear hcz16
     try clear hfz17_0
     try clear hfz17_1
     try clear hfz17_2
     try clear hcz22
     try clear hcz24
     try clear hcz26
     try clear hcz28
     obtain ⟨x14_1, x15_1, x16_1, x55_1, x518000_1, x518001_1, x518002_1, x518003_1, x518004_1, x518005_1, x518006_1, x518007_1, x518008_1, x518009_1, x518010_1, x518011_1, x518012_1, x518013_1, u518011, rfl, rfl, rfl, HA, HK1, HO_14, HO_518011, BK497, BK498, BK517, HB⟩ := hrel
     cases gk with
     | zero => exact absurd HA.out (by simp [palletlaw13_NodeSends.l0])
     | succ k1 =>
      have H := HA.out
      clear HA
      simp only [palletlaw13_NodeSends.l0] at H
      by_cases c29 : x55_1 < (wrap64 ((((Int.tmod a4 4) + 1) % 256) * (wrap64 (a0_0 + 1))))
      ·rw [if_pos c29] at H
       have c29b0 : decide (x55_1 < (wrap64 ((((Int.tmod a4 4) + 1) % 256) * (wrap64 (a0_0 + 1))))) = true := decide_eq_true c29
       clear c29
       replace H := Option.bind_eq_some_iff.mp H
       obtain ⟨t538, A300, H⟩ := H
       replace H : (if (t538.length : Int) = 1 then (if 0 < (t538.length : Int) then (palletlaw13_NodeSends.j1 k1 a1 a4 true x15_1 t538 (wrap64 ((((Int.tmod a4 4) + 1) % 256) * (wrap64 (a0_0 + 1)))) x55_1 (decide ((rd t538 0) < x16_1)) a0_0 a0_1 a0_2 a0_3 a0_4 x518000_1 x518001_1 x518002_1 x518003_1 x518004_1 x518005_1 x518006_1 x518007_1 x518008_1 x518009_1 x518010_1 x518011_1 x518012_1 x518013_1) else (none)) else (none)) = some r := H
       have A30 := asd A300
       clear A300
       have HC31 := asd H
       clear H
       obtain ⟨Ao32, co32, eo32⟩ := Kd.R_slice HO_14.out
       subst eo32
       go_upto_region 16 with (first | ((with_reducible refine gate_callee (f := 7) rfl ?_); refine gL (some 58) Try.func7 #[.slice Ao32 x14_1.length co32] ?_; (with_reducible refine (palletlaw13_timers.calls k1 _ _ x14_1 t538 _ ?side1 ?side2 A30.out).mono ?_); (case side1 => exact cr (Kd.R_reads' HO_14.out).2.2); (case side2 => exact (Kd.R_reads' HO_14.out).2.1); rintro e w33 ⟨v539, rfl, ho0, hb⟩; refine ⟨_, rfl, ?_⟩; have HO540 := asd (Kd.R_lower (Kd.R_new' ho0 (Kd.R_lt (re HO_518011).out)) (below_size (bse HB))); replace HO_14 := rb HO_14 hb; replace HO_518011 := asd (Kd.R_elder' (re HO_518011).out (Kd.R_base ho0) hb); replace BK497 := bb BK497 hb; replace BK498 := bb BK498 hb; replace BK517 := bb BK517 hb; replace HB := bs HB hb; (try clear hb); (try clear ho0)))
       (try simp only [Act.put, List.setIfInBounds_toArray, List.set_cons_zero, List.set_cons_succ])
       go_cut [68] (fun v68 wc => ∃ (kq : Nat) (x68_30 : Bool), v68 = .bool x68_30 ∧ Aside0 (palletlaw13_NodeSends.j1 kq a1 a4 true x15_1 t538 (wrap64 ((((Int.tmod a4 4) + 1) % 256) * (wrap64 (a0_0 + 1)))) x55_1 x68_30 a0_0 a0_1 a0_2 a0_3 a0_4 x518000_1 x518001_1 x518002_1 x518003_1 x518004_1 x518005_1 x518006_1 x518007_1 x518008_1 x518009_1 x518010_1 x518011_1 x518012_1 x518013_1 = some r) ∧ Aside0 (kq ≤ k1) ∧ Aside0 (Kd.R (Kd.int .i64) 2 wc w.heap.size (fun k_ => some k_ ≠ (u518011 : Value).ownBlock) v539 t538) ∧ Aside0 (Kd.R (Kd.int .i64) 2 wc w.heap.size (fun k_ => some k_ ≠ (v539 : Value).ownBlock) u518011 x518011_1) ∧ Aside0 (wc.heap[gb497]? = some (.cells #[.int .i64 a0_0, .int .i64 a0_1, .int .i64 a0_2, .int .i64 a0_3, .int .i64 a0_4] 23 (0, 0))) ∧ Aside0 (wc.heap[gb498]? = some (.cells #[.int .i64 a2_0, .int .i64 a2_1, .int .i64 a2_2] 25 (0, 0))) ∧ Aside0 (wc.heap[gb517]? = some (.cells #[.int .i64 x518000_1, .int .i64 x518001_1, .int .u64 x518002_1, .int .i64 x518003_1, .int .i64 x518004_1, .int .i64 x518005_1, .int .i64 x518006_1, .int .i64 x518007_1, .int .u16 x518008_1, .int .i64 x518009_1, .int .i64 x518010_1, u518011, .bool x518012_1, .int .i64 x518013_1] 33 (0, 0))) ∧ Aside0 (Below w.heap.size w wc))
       case first =>
        have H := HC31.out
        clear HC31
        by_cases c34 : (t538.length : Int) = 1
        ·rw [if_pos c34] at H
         have c34b0 : ((t538.length : Int) == 1) = true := beq_iff_eq.mpr c34
         have c34b1 : ((t538.length : Int) != 1) = false := bne_eq_false_iff_eq.mpr c34
         clear c34
         (first | rw [c34b0] | (simp only [i64_w, i32_w]; rw [c34b0]) | skip)
         by_cases c35 : 0 < (t538.length : Int)
         ·rw [if_pos c35] at H
          have c35b0 : decide (0 < (t538.length : Int)) = true := decide_eq_true c35
          have c35b1 : decide (0 < t538.length) = true := decide_eq_true (by omega)
          clear c35
          have H' := asd H
          clear H
          obtain ⟨Ao36, co36, eo36⟩ := Kd.R_slice HO540.out
          subst eo36
          have p541 : 0 ≤ (0 : Int) := (by omega)
          have q541 : 0 < (t538.length : Int) := of_decide_eq_true (by first | (with_reducible assumption) | assumption)
          obtain ⟨ad541, e541, hx541_0⟩ := Kd.at_int (Kd.R_reads' HO540.out).2.2 0 p541 q541
          cases e541
          have qi541 : (0 < t538.length) = True := eq_true (by omega)
          (try rw [show ((0 : Int)).toNat = 0 from rfl] at hx541_0)
          (try rw [Addr.add_zero'] at hx541_0)
          replace p541 := eq_true p541
          replace q541 := eq_true q541
          go_wp2
          go_meet
          case rel => exact ⟨_, (decide ((rd t538 0) < x16_1)), (by first | rfl | (simp; done) | (simp [*]; done)), H', ⟨by have := HK1.out; first | omega | exact Nat.le_refl _⟩, ⟨by (with_reducible repeat (first | apply Kd.R_alloc | apply Kd.R_drewN | apply Kd.R_drew)); exact Kd.R_mono HO540.out (fun _ hk => hk.2)⟩, ⟨by (with_reducible repeat (first | apply Kd.R_alloc | apply Kd.R_drewN | apply Kd.R_drew)); exact Kd.R_mono HO_518011.out (fun _ hk => hk.2)⟩, be BK497, be BK498, be BK517, ⟨bse HB⟩⟩
         ·rw [if_neg c35] at H
          exact absurd H (by simp)
        ·rw [if_neg c34] at H
         exact absurd H (by simp)
       case rest =>
        clear HC31
        try clear c1
        try clear c2
        try clear p2
        try clear c3
        try clear c4
        try clear c5
        try clear p5
        try clear q5
        try clear hx5
        try clear qi5
        try clear c6
        try clear p6
        try clear c7
        try clear c9
        try clear c9b0
        try clear c9b1
        try clear c11
        try clear c11b0
        try clear c11b1
        try clear c15
        try clear c20
        try clear c21
        try clear c29
        try clear c29b0
        try clear c34
        try clear c34b0
        try clear c34b1
        try clear c35
        try clear c35b0
        try clear c35b1
        try clear hcz16
        try clear hcz17_0
        try clear hcz17_1
        try clear hcz17_2
        try clear hcz22
        try clear hcz24
        try clear hcz26
        try clear hcz28
        try clear hcz16
        try clear hfz17_0
        try clear hfz17_1
        try clear hfz17_2
        try clear hcz22
        try clear hcz24
        try clear hcz26
        try clear hcz28
        try clear hx541_0
        try clear p2
        try clear p541
        try clear p6
        try clear q541
        obtain ⟨kq, x68_30, rfl, HA, HJ30, HO_17, HO_518011, BK497, BK498, BK517, HB⟩ := hcut
        cases kq with
        | zero => exact absurd HA.out (by simp [palletlaw13_NodeSends.j1])
        | succ kj30 =>
         have H := HA.out
         clear HA
         simp only [palletlaw13_NodeSends.j1] at H
         by_cases c37 : x68_30 = true
         ·subst c37
          have H1 : (none) = some r := by rw [if_pos rfl] at H; exact H
          clear H
          have H := H1
          clear H1
          exact absurd H (by simp)
         ·replace c37 := Bool.eq_false_iff.mpr c37
          subst c37
          have H1 : (if 0 < (t538.length : Int) then ((node_Timer.f kj30 a0_0 a0_1 a0_2 a0_3 a0_4 x518000_1 x518001_1 x518002_1 x518003_1 x518004_1 x518005_1 x518006_1 x518007_1 x518008_1 x518009_1 x518010_1 x518011_1 x518012_1 x518013_1 (rd t538 0)).bind fun bt543 => (if bt543.2.2.2.2.2.2.2.2.2.2.2.2.2.2.2 = 0 then (palletlaw13_NodeSends.j2 kj30 a1 a4 true bt543.2.2.2.2.2.2.2.2.2.2.2.2.2.2.1 x15_1 (rd t538 0) (wrap64 ((((Int.tmod a4 4) + 1) % 256) * (wrap64 (a0_0 + 1)))) x55_1 (bt543.2.1 != 2) a0_0 a0_1 a0_2 a0_3 a0_4 bt543.1 bt543.2.1 bt543.2.2.1 bt543.2.2.2.1 bt543.2.2.2.2.1 bt543.2.2.2.2.2.1 bt543.2.2.2.2.2.2.1 bt543.2.2.2.2.2.2.2.1 bt543.2.2.2.2.2.2.2.2.1 bt543.2.2.2.2.2.2.2.2.2.1 bt543.2.2.2.2.2.2.2.2.2.2.1 bt543.2.2.2.2.2.2.2.2.2.2.2.1 bt543.2.2.2.2.2.2.2.2.2.2.2.2.1 bt543.2.2.2.2.2.2.2.2.2.2.2.2.2.1) else (none))) else (none)) = some r := by rw [if_neg (show ¬ (false = true) by decide)] at H; exact H
          clear H
          have H := H1
          clear H1
          by_cases c38 : 0 < (t538.length : Int)
          ·rw [if_pos c38] at H
           have c38b0 : decide (0 < (t538.length : Int)) = true := decide_eq_true c38
           have c38b1 : decide (0 < t538.length) = true := decide_eq_true (by omega)
           clear c38
           replace H := Option.bind_eq_some_iff.mp H
           obtain ⟨⟨t543, t544, t545, t546, t547, t548, t549, t550, t551, t552, t553, t554, t557, t558, t559, t562⟩, A390, H⟩ := H
           replace H : (if t562 = 0 then (palletlaw13_NodeSends.j2 kj30 a1 a4 true t559 x15_1 (rd t538 0) (wrap64 ((((Int.tmod a4 4) + 1) % 256) * (wrap64 (a0_0 + 1)))) x55_1 (t544 != 2) a0_0 a0_1 a0_2 a0_3 a0_4 t543 t544 t545 t546 t547 t548 t549 t550 t551 t552 t553 t554 t557 t558) else (none)) = some r := H
           have A39 := asd A390
           clear A390
           have HC40 := asd H
           clear H
           obtain ⟨Ao41, co41, eo41⟩ := Kd.R_slice HO_17.out
           subst eo41
           have p542 : 0 ≤ (0 : Int) := (by omega)
           have q542 : 0 < (t538.length : Int) := of_decide_eq_true (by first | (with_reducible assumption) | assumption)
           obtain ⟨ad542, e542, hx542_0⟩ := Kd.at_int (Kd.R_reads' HO_17.out).2.2 0 p542 q542
           cases e542
           have qi542 : (0 < t538.length) = True := eq_true (by omega)
           (try rw [show ((0 : Int)).toNat = 0 from rfl] at hx542_0)
           (try rw [Addr.add_zero'] at hx542_0)
           replace p542 := eq_true p542
           replace q542 := eq_true q542
           have hnb42 := NB497_498.out
           have hnc42 := NB498_497.out
           have hnb43 := NB497_517.out
           have hnc43 := NB517_497.out
           have hcz44 := cf5 BK497
           have hnb45 := NB517_498.out
           have hnc45 := NB498_517.out
           have hcz46 := cf14 BK517
           obtain ⟨Ao47, co47, eo47⟩ := Kd.R_slice HO_518011.out
           subst eo47
           go_upto_region 20 with (first | ((with_reducible refine gate_callee (f := 8) rfl ?_); refine gL (some 76) Try.func8 #[.agg #[.int .i64 a0_0, .int .i64 a0_1, .int .i64 a0_2, .int .i64 a0_3, .int .i64 a0_4], .agg #[.int .i64 x518000_1, .int .i64 x518001_1, .int .u64 x518002_1, .int .i64 x518003_1, .int .i64 x518004_1, .int .i64 x518005_1, .int .i64 x518006_1, .int .i64 x518007_1, .int .u16 x518008_1, .int .i64 x518009_1, .int .i64 x518010_1, .slice Ao47 x518011_1.length co47, .bool x518012_1, .int .i64 x518013_1], .int .i64 (rd t538 0)] ?_; (with_reducible refine (node_Timer.calls kj30 a0_0 a0_1 a0_2 a0_3 a0_4 x518000_1 x518001_1 x518002_1 x518003_1 x518004_1 x518005_1 x518006_1 x518007_1 x518008_1 x518009_1 x518010_1 _ _ x518011_1 x518012_1 x518013_1 (rd t538 0) t543 t544 t545 t546 t547 t548 t549 t550 t551 t552 t553 t554 t557 t558 t559 t562 _ ?side1 ?side2 A39.out).mono ?_); (case side1 => exact cr (Kd.R_reads' HO_518011.out).2.2); (case side2 => exact (Kd.R_reads' HO_518011.out).2.1); rintro e w48 ⟨v555, v560, rfl, ho0, ho1, hb⟩; refine ⟨_, rfl, ?_⟩; have HO556 := asd (Kd.R_lower (Kd.R_new' (Kd.R_new' ho0 (Kd.R_lt (re HO_17).out)) (Kd.R_lt (re HO_518011).out)) (below_size (bse HB))); have HO561 := rl ho1 HB; replace HO_17 := asd (Kd.R_elder' (re HO_17).out (Kd.R_base ho0) hb); replace HO_518011 := asd (Kd.R_elder' (re HO_518011).out (Kd.R_base ho0) hb); replace BK497 := bb BK497 hb; replace BK498 := bb BK498 hb; replace BK517 := bb BK517 hb; replace HB := bs HB hb; (try clear hb); (try clear ho0); (try clear ho1); have hcz49 := cf14 BK517; obtain ⟨Ao50, co50, eo50⟩ := Kd.R_slice HO556.out; subst eo50))
           (try simp only [Act.put, List.setIfInBounds_toArray, List.set_cons_zero, List.set_cons_succ])
           go_cut [86] (fun v86 wc => ∃ (kq : Nat) (x86_39 : Bool), v86 = .bool x86_39 ∧ Aside0 (palletlaw13_NodeSends.j2 kq a1 a4 true t559 x15_1 (rd t538 0) (wrap64 ((((Int.tmod a4 4) + 1) % 256) * (wrap64 (a0_0 + 1)))) x55_1 x86_39 a0_0 a0_1 a0_2 a0_3 a0_4 t543 t544 t545 t546 t547 t548 t549 t550 t551 t552 t553 t554 t557 t558 = some r) ∧ Aside0 (kq ≤ kj30) ∧ Aside0 (Kd.R k44 44 wc w.heap.size (fun _ => True) v560 t559) ∧ Aside0 (Kd.R (Kd.int .i64) 2 wc w.heap.size (fun _ => True) (.slice Ao50 t554.length co50) t554) ∧ Aside0 (wc.heap[gb497]? = some (.cells #[.int .i64 a0_0, .int .i64 a0_1, .int .i64 a0_2, .int .i64 a0_3, .int .i64 a0_4] 23 (0, 0))) ∧ Aside0 (wc.heap[gb498]? = some (.cells #[.int .i64 a2_0, .int .i64 a2_1, .int .i64 a2_2] 25 (0, 0))) ∧ Aside0 (wc.heap[gb517]? = some (.cells #[.int .i64 t543, .int .i64 t544, .int .u64 t545, .int .i64 t546, .int .i64 t547, .int .i64 t548, .int .i64 t549, .int .i64 t550, .int .u16 t551, .int .i64 t552, .int .i64 t553, (.slice Ao50 t554.length co50), .bool t557, .int .i64 t558] 33 (0, 0))) ∧ Aside0 (Below w.heap.size w wc))
           case first =>
            have H := HC40.out
            clear HC40
            by_cases c51 : t562 = 0
            ·rw [if_pos c51] at H
             have c51b0 : (t562 == 0) = true := beq_iff_eq.mpr c51
             have c51b1 : (t562 != 0) = false := bne_eq_false_iff_eq.mpr c51
             clear c51
             (first | rw [c51b0] | (simp only [i64_w, i32_w]; rw [c51b0]) | skip)
             have H' := asd H
             clear H
             have hnb52 := NB517_497.out
             have hnc52 := NB497_517.out
             have hnb53 := NB517_498.out
             have hnc53 := NB498_517.out
             have hcz54 := cf14 BK517
             go_wp2
             go_meet
             case rel => exact ⟨_, ((t544 != 2)), (by first | rfl | (simp; done) | (simp [*]; done)), H', ⟨by have := HK1.out; have := HJ30.out; first | omega | exact Nat.le_refl _⟩, rf HO561 BK517 (by decide) (fun _ hk => trivial), rf HO556 BK517 (by decide) (fun _ hk => trivial), ff NB497_517 BK497, ff NB498_517 BK498, bp14 BK517, ⟨bse HB⟩⟩
            ·rw [if_neg c51] at H
             exact absurd H (by simp)
           case rest =>
            clear HC40
            try clear c1
            try clear c2
            try clear p2
            try clear c3
            try clear c4
            try clear c5
            try clear p5
            try clear q5
            try clear hx5
            try clear qi5
            try clear c6
            try clear p6
            try clear c7
            try clear c8
            try clear c9
            try clear c9b0
            try clear c9b1
            try clear c11
            try clear c11b0
            try clear c11b1
            try clear c15
            try clear c20
            try clear c21
            try clear c29
            try clear c29b0
            try clear c34
            try clear c34b0
            try clear c34b1
            try clear c35
            try clear c35b0
            try clear c35b1
            try clear c37
            try clear c38
            try clear c38b0
            try clear c38b1
            try clear c42
            try clear c43
            try clear c45
            try clear c51
            try clear c51b0
            try clear c51b1
            try clear c52
            try clear c53
            try clear p54
            try clear q54
            try clear hx54
            try clear qi54
            try clear hcz16
            try clear hcz17_0
            try clear hcz17_1
            try clear hcz17_2
            try clear hcz22
            try clear hcz24
            try clear hcz26
            try clear hcz28
            try clear hcz44
            try clear hcz46
            try clear hcz49
            try clear hcz54
            try clear hcz16
            try clear hfz17_0
            try clear hfz17_1
            try clear hfz17_2
            try clear hcz22
            try clear hcz24
            try clear hcz26
            try clear hcz28
            try clear hcz44
            try clear hcz46
            try clear hcz49
            try clear hcz54
            try clear hx541_0
            try clear hx542_0
            try clear p2
            try clear p5
            try clear p541
            try clear p542
            try clear p6
            try clear q5
            try clear q541
            try clear q542
            obtain ⟨kq, x86_39, rfl, HA, HJ39, HO_14, HO_518011, BK497, BK498, BK517, HB⟩ := hcut
            cases kq with
            | zero => exact absurd HA.out (by simp [palletlaw13_NodeSends.j2])
            | succ kj39 =>
             have H := HA.out
             clear HA
             simp only [palletlaw13_NodeSends.j2] at H
             by_cases c55 : x86_39 = true
             ·subst c55
              have H1 : (none) = some r := by rw [if_pos rfl] at H; exact H
              clear H
              have H := H1
              clear H1
              exact absurd H (by simp)
             ·replace c55 := Bool.eq_false_iff.mpr c55
              subst c55
              have H1 : (palletlaw13_NodeSends.l1 kj39 a1 a4 true t559 x15_1 (rd t538 0) (wrap64 ((((Int.tmod a4 4) + 1) % 256) * (wrap64 (a0_0 + 1)))) x55_1 t559 (t559.length : Int) 0 a0_0 a0_1 a0_2 a0_3 a0_4 t543 t544 t545 t546 t547 t548 t549 t550 t551 t552 t553 t554 t557 t558) = some r := by rw [if_neg (show ¬ (false = true) by decide)] at H; exact H
              clear H
              have H := H1
              clear H1
              have H' := asd H
              clear H
              obtain ⟨Ao56, co56, eo56⟩ := Kd.R_slice HO_14.out
              subst eo56
              go_wp2
              go_loopg [15, 89] kj39 (fun kq v15 v89 w' => ∃ (x15_4 : Int) (x89_4 : Int), v15 = .int .i64 x15_4 ∧ v89 = .int .i64 x89_4 ∧ Aside0 (palletlaw13_NodeSends.l1 kq a1 a4 true t559 x15_4 (rd t538 0) (wrap64 ((((Int.tmod a4 4) + 1) % 256) * (wrap64 (a0_0 + 1)))) x55_1 t559 (t559.length : Int) x89_4 a0_0 a0_1 a0_2 a0_3 a0_4 t543 t544 t545 t546 t547 t548 t549 t550 t551 t552 t553 t554 t557 t558 = some r) ∧ Aside0 (kq ≤ kj39) ∧ Aside0 (Kd.R k44 44 w' w.heap.size (fun _ => True) (.slice Ao56 t559.length co56) t559) ∧ Aside0 (Kd.R k44 44 w' w.heap.size (fun _ => True) (.slice Ao56 t559.length co56) t559) ∧ Aside0 (Kd.R (Kd.int .i64) 2 w' w.heap.size (fun _ => True) (.slice Ao50 t554.length co50) t554) ∧ Aside0 (w'.heap[gb497]? = some (.cells #[.int .i64 a0_0, .int .i64 a0_1, .int .i64 a0_2, .int .i64 a0_3, .int .i64 a0_4] 23 (0, 0))) ∧ Aside0 (w'.heap[gb498]? = some (.cells #[.int .i64 a2_0, .int .i64 a2_1, .int .i64 a2_2] 25 (0, 0))) ∧ Aside0 (w'.heap[gb517]? = some (.cells #[.int .i64 t543, .int .i64 t544, .int .u64 t545, .int .i64 t546, .int .i64 t547, .int .i64 t548, .int .i64 t549, .int .i64 t550, .int .u16 t551, .int .i64 t552, .int .i64 t553, (.slice Ao50 t554.length co50), .bool t557, .int .i64 t558] 33 (0, 0))) ∧ Aside0 (Below w.heap.size w w'))
              case atStart => exact ⟨(x15_1), (0), (by first | rfl | (simp; done) | (simp [*]; done)), (by first | rfl | (simp; done) | (simp [*]; done)), H', ⟨Nat.le_refl _⟩, re HO_14, re HO_14, re HO_518011, be BK497, be BK498, be BK517, ⟨bse HB⟩⟩
              case round =>
               clear H'
               try clear c1
               try clear c2
               try clear p2
               try clear c3
               try clear c4
               try clear c5
               try clear p5
               try clear q5
               try clear hx5
               try clear qi5
               try clear c6
               try clear p6
               try clear c7
               try clear c8
               try clear c9
               try clear c9b0
               try clear c9b1
               try clear c11
               try clear c11b0
               try clear c11b1
               try clear c15
               try clear c20
               try clear c21
               try clear c29
               try clear c29b0
               try clear c34
               try clear c34b0
               try clear c34b1
               try clear c35
               try clear c35b0
               try clear c35b1
               try clear c37
               try clear c38
               try clear c38b0
               try clear c38b1
               try clear c42
               try clear c43
               try clear c45
               try clear c51
               try clear c51b0
               try clear c51b1
               try clear c52
               try clear c53
               try clear p54
               try clear q54
               try clear hx54
               try clear qi54
               try clear c55
               try clear hcz16
               try clear hcz17_0
               try clear hcz17_1
               try clear hcz17_2
               try clear hcz22
               try clear hcz24
               try clear hcz26
               try clear hcz28
               try clear hcz44
               try clear hcz46
               try clear hcz49
               try clear hcz54
               try clear hcz16
               try clear hfz17_0
               try clear hfz17_1
               try clear hfz17_2
               try clear hcz22
               try clear hcz24
               try clear hcz26
               try clear hcz28
               try clear hcz44
               try clear hcz46
               try clear hcz49
               try clear hcz54
               try clear hx541_0
               try clear hx542_0
               try clear p2
               try clear p5
               try clear p54
               try clear p541
               try clear p542
               try clear p6
               try clear q5
               try clear q54
               try clear q541
               try clear q542
               obtain ⟨x15_4, x89_4, rfl, rfl, HA, HK4, HO_14, HO_87, HO_518011, BK497, BK498, BK517, HB⟩ := hrel
               cases gk with
               | zero => exact absurd HA.out (by simp [palletlaw13_NodeSends.l1])
               | succ k4 =>
                have H := HA.out
                clear HA
                simp only [palletlaw13_NodeSends.l1] at H
                by_cases c57 : x89_4 < (t559.length : Int)
                ·rw [if_pos c57] at H
                 have c57b0 : decide (x89_4 < (t559.length : Int)) = true := decide_eq_true c57
                 clear c57
                 by_cases c58 : 0 ≤ x89_4
                 ·rw [if_pos c58] at H
                  have c58b0 : decide (0 ≤ x89_4) = true := decide_eq_true c58
                  clear c58
                  by_cases c59 : x89_4 < (t559.length : Int)
                  ·rw [if_pos c59] at H
                   have c59b0 : decide (x89_4 < (t559.length : Int)) = true := decide_eq_true c59
                   clear c59
                   have HC60 := asd H
                   clear H
                   have p563 : 0 ≤ (x89_4 : Int) := of_decide_eq_true (by first | (with_reducible assumption) | assumption)
                   have q563 : x89_4 < (t559.length : Int) := of_decide_eq_true (by first | (with_reducible assumption) | assumption)
                   obtain ⟨ad563, e563, hx563_0, hx563_1, hx563_2, hx563_3, hx563_4, hx563_5, hx563_6, hx563_7⟩ := at_T44 (Kd.R_reads' HO_87.out).2.2 x89_4 p563 q563
                   cases e563
                   replace p563 := eq_true p563
                   replace q563 := eq_true q563
                   go_upto_if 95 with (first | ((with_reducible refine gate_dst (N := 19) rfl ?_); refine bx (N := 19) (cs := #[.int .i64 0, .int .i64 0, .int .i64 0, .int .i64 0, .int .u64 0, .int .u16 0, .int .i64 0, .int .i64 0]) (t := 44) ?_; intro gb564 hg w61 hbox hb; have BK564 := asd (hbox); have GW564 := bz HB hg; have GE564 := bz HB hg; have NB497_564 := nl BK497 hg; have NB564_497 := nr BK497 hg; have NB498_564 := nl BK498 hg; have NB564_498 := nr BK498 hg; have NB517_564 := nl BK517 hg; have NB564_517 := nr BK517 hg; replace HO_14 := asd (Kd.R_below (Kd.R_elderB (re HO_14).out gb564 (Nat.le_of_eq hg.symm)) hb); replace HO_87 := asd (Kd.R_below (Kd.R_elderB (re HO_87).out gb564 (Nat.le_of_eq hg.symm)) hb); replace HO_518011 := rb HO_518011 hb; replace BK497 := bb BK497 hb; replace BK498 := bb BK498 hb; replace BK517 := bb BK517 hb; replace HB := bs HB hb; clear hb hbox hg; have hnb62 := NB564_497.out; have hnc62 := NB497_564.out; have hnb63 := NB564_498.out; have hnc63 := NB498_564.out; have hnb64 := NB564_517.out; have hnc64 := NB517_564.out; have hcz65_0 : w61.cell? ⟨gb564, 0, none⟩ = some (.int .i64 0) := (blk_cell BK564.out 0).trans rfl; have hcz65_1 : w61.cell? ⟨gb564, 1, none⟩ = some (.int .i64 0) := (blk_cell BK564.out 1).trans rfl; have hcz65_2 : w61.cell? ⟨gb564, 2, none⟩ = some (.int .i64 0) := (blk_cell BK564.out 2).trans rfl; have hcz65_3 : w61.cell? ⟨gb564, 3, none⟩ = some (.int .i64 0) := (blk_cell BK564.out 3).trans rfl; have hcz65_4 : w61.cell? ⟨gb564, 4, none⟩ = some (.int .u64 0) := (blk_cell BK564.out 4).trans rfl; have hcz65_5 : w61.cell? ⟨gb564, 5, none⟩ = some (.int .u16 0) := (blk_cell BK564.out 5).trans rfl; have hcz65_6 : w61.cell? ⟨gb564, 6, none⟩ = some (.int .i64 0) := (blk_cell BK564.out 6).trans rfl; have hcz65_7 : w61.cell? ⟨gb564, 7, none⟩ = some (.int .i64 0) := (blk_cell BK564.out 7).trans rfl; have hfz65_0 := blk_frozen BK564.out 0; have hfz65_1 := blk_frozen BK564.out 1; have hfz65_2 := blk_frozen BK564.out 2; have hfz65_3 := blk_frozen BK564.out 3; have hfz65_4 := blk_frozen BK564.out 4; have hfz65_5 := blk_frozen BK564.out 5; have hfz65_6 := blk_frozen BK564.out 6; have hfz65_7 := blk_frozen BK564.out 7))
                   (try simp only [Act.put, List.setIfInBounds_toArray, List.set_cons_zero, List.set_cons_succ])
                   go_cut [15] (fun v15 wc => ∃ (kq : Nat) (x15_59 : Int), v15 = .int .i64 x15_59 ∧ Aside0 (palletlaw13_NodeSends.j4 kq a1 a4 true t559 x15_59 (rd t538 0) (wrap64 ((((Int.tmod a4 4) + 1) % 256) * (wrap64 (a0_0 + 1)))) x55_1 t559 (t559.length : Int) x89_4 a0_0 a0_1 a0_2 a0_3 a0_4 t543 t544 t545 t546 t547 t548 t549 t550 t551 t552 t553 t554 t557 t558 ((rd_T44 t559 x89_4).f0) ((rd_T44 t559 x89_4).f1) ((rd_T44 t559 x89_4).f2.f0) ((rd_T44 t559 x89_4).f2.f1) ((rd_T44 t559 x89_4).f2.f2) ((rd_T44 t559 x89_4).f2.f3) ((rd_T44 t559 x89_4).f3) ((rd_T44 t559 x89_4).f4) = some r) ∧ Aside0 (kq ≤ k4) ∧ Aside0 (Kd.R k44 44 wc w.heap.size (fun k_ => k_ ≠ gb564) (.slice (some ad563) t559.length co56) t559) ∧ Aside0 (Kd.R k44 44 wc w.heap.size (fun k_ => k_ ≠ gb564) (.slice (some ad563) t559.length co56) t559) ∧ Aside0 (Kd.R (Kd.int .i64) 2 wc w.heap.size (fun _ => True) (.slice Ao50 t554.length co50) t554) ∧ Aside0 (wc.heap[gb497]? = some (.cells #[.int .i64 a0_0, .int .i64 a0_1, .int .i64 a0_2, .int .i64 a0_3, .int .i64 a0_4] 23 (0, 0))) ∧ Aside0 (wc.heap[gb498]? = some (.cells #[.int .i64 a2_0, .int .i64 a2_1, .int .i64 a2_2] 25 (0, 0))) ∧ Aside0 (wc.heap[gb517]? = some (.cells #[.int .i64 t543, .int .i64 t544, .int .u64 t545, .int .i64 t546, .int .i64 t547, .int .i64 t548, .int .i64 t549, .int .i64 t550, .int .u16 t551, .int .i64 t552, .int .i64 t553, (.slice Ao50 t554.length co50), .bool t557, .int .i64 t558] 33 (0, 0))) ∧ Aside0 (wc.heap[gb564]? = some (.cells #[.int .i64 ((rd_T44 t559 x89_4).f0), .int .i64 ((rd_T44 t559 x89_4).f1), .int .i64 ((rd_T44 t559 x89_4).f2.f0), .int .i64 ((rd_T44 t559 x89_4).f2.f1), .int .u64 ((rd_T44 t559 x89_4).f2.f2), .int .u16 ((rd_T44 t559 x89_4).f2.f3), .int .i64 ((rd_T44 t559 x89_4).f3), .int .i64 ((rd_T44 t559 x89_4).f4)] 44 (0, 0))) ∧ Aside0 (Below w.heap.size w wc))
                   case first =>
                    have H := HC60.out
                    clear HC60
                    by_cases c66 : ((rd_T44 t559 x89_4).f0) = 2
                    ·rw [if_pos c66] at H
                     have c66b0 : (((rd_T44 t559 x89_4).f0) == 2) = true := beq_iff_eq.mpr c66
                     have c66b1 : (((rd_T44 t559 x89_4).f0) != 2) = false := bne_eq_false_iff_eq.mpr c66
                     clear c66
                     (first | rw [c66b0] | (simp only [i64_w, i32_w]; rw [c66b0]) | skip)
                     replace H := Option.bind_eq_some_iff.mp H
                     obtain ⟨t565, A670, H⟩ := H
                     replace H : (if (!(((rd_T44 t559 x89_4).f2.f0) == 2) || (!(((rd_T44 t559 x89_4).f2.f1) == a1) || (!(((rd_T44 t559 x89_4).f2.f2) == (IntKind.u64.wrap (wrap64 (a1 + (wrap64 (a0_0 * x15_4)))))) || (!(((rd_T44 t559 x89_4).f2.f3) == t565))))) = true then (none) else (palletlaw13_NodeSends.j4 k4 a1 a4 true t559 (wrap64 (x15_4 + 1)) (rd t538 0) (wrap64 ((((Int.tmod a4 4) + 1) % 256) * (wrap64 (a0_0 + 1)))) x55_1 t559 (t559.length : Int) x89_4 a0_0 a0_1 a0_2 a0_3 a0_4 t543 t544 t545 t546 t547 t548 t549 t550 t551 t552 t553 t554 t557 t558 ((rd_T44 t559 x89_4).f0) ((rd_T44 t559 x89_4).f1) ((rd_T44 t559 x89_4).f2.f0) ((rd_T44 t559 x89_4).f2.f1) ((rd_T44 t559 x89_4).f2.f2) ((rd_T44 t559 x89_4).f2.f3) ((rd_T44 t559 x89_4).f3) ((rd_T44 t559 x89_4).f4))) = some r := H
                     have A67 := asd A670
                     clear A670
                     by_cases c68 : (!(((rd_T44 t559 x89_4).f2.f0) == 2) || (!(((rd_T44 t559 x89_4).f2.f1) == a1) || (!(((rd_T44 t559 x89_4).f2.f2) == (IntKind.u64.wrap (wrap64 (a1 + (wrap64 (a0_0 * x15_4)))))) || (!(((rd_T44 t559 x89_4).f2.f3) == t565))))) = true
                     ·rw [if_pos c68] at H
                      exact absurd H (by simp)
                     ·rw [if_neg c68] at H
                      have c68b0 : (!(((rd_T44 t559 x89_4).f2.f0) == 2) || (!(((rd_T44 t559 x89_4).f2.f1) == a1) || (!(((rd_T44 t559 x89_4).f2.f2) == (IntKind.u64.wrap (wrap64 (a1 + (wrap64 (a0_0 * x15_4)))))) || (!(((rd_T44 t559 x89_4).f2.f3) == t565))))) = false := by simpa using c68
                      clear c68
                      have H' := asd H
                      clear H
                      try go_wp2
                      have n0_ : Aside0 (Kd.R k44 44 ((((((((w61.setCell ⟨gb564, 0, none⟩ (.int .i64 ((rd_T44 t559 x89_4).f0))).setCell ⟨gb564, 1, none⟩ (.int .i64 ((rd_T44 t559 x89_4).f1))).setCell ⟨gb564, 2, none⟩ (.int .i64 ((rd_T44 t559 x89_4).f2.f0))).setCell ⟨gb564, 3, none⟩ (.int .i64 ((rd_T44 t559 x89_4).f2.f1))).setCell ⟨gb564, 4, none⟩ (.int .u64 ((rd_T44 t559 x89_4).f2.f2))).setCell ⟨gb564, 5, none⟩ (.int .u16 ((rd_T44 t559 x89_4).f2.f3))).setCell ⟨gb564, 6, none⟩ (.int .i64 ((rd_T44 t559 x89_4).f3))).setCell ⟨gb564, 7, none⟩ (.int .i64 ((rd_T44 t559 x89_4).f4))) w.heap.size (fun k_ => k_ ≠ gb564) (.slice (some ad563) t559.length co56) t559) := ⟨by (with_reducible repeat (first | apply Kd.R_alloc | apply Kd.R_drewN | apply Kd.R_drew)); exact Kd.R_mono (Kd.R_far (p := ⟨gb564, 7, none⟩) (Kd.R_far (p := ⟨gb564, 6, none⟩) (Kd.R_far (p := ⟨gb564, 5, none⟩) (Kd.R_far (p := ⟨gb564, 4, none⟩) (Kd.R_far (p := ⟨gb564, 3, none⟩) (Kd.R_far (p := ⟨gb564, 2, none⟩) (Kd.R_far (p := ⟨gb564, 1, none⟩) (Kd.R_far (p := ⟨gb564, 0, none⟩) (Kd.R_mono HO_14.out (fun k_ hk => (⟨hk, hk.2⟩ : _ ∧ k_ ≠ gb564))) (fun _ hk => hk.2) (.int .i64 ((rd_T44 t559 x89_4).f0))) (fun _ hk => hk.2) (.int .i64 ((rd_T44 t559 x89_4).f1))) (fun _ hk => hk.2) (.int .i64 ((rd_T44 t559 x89_4).f2.f0))) (fun _ hk => hk.2) (.int .i64 ((rd_T44 t559 x89_4).f2.f1))) (fun _ hk => hk.2) (.int .u64 ((rd_T44 t559 x89_4).f2.f2))) (fun _ hk => hk.2) (.int .u16 ((rd_T44 t559 x89_4).f2.f3))) (fun _ hk => hk.2) (.int .i64 ((rd_T44 t559 x89_4).f3))) (fun _ hk => hk.2) (.int .i64 ((rd_T44 t559 x89_4).f4))) (fun _ hk => hk.1.2)⟩
                      have n1_ : Aside0 (Kd.R k44 44 ((((((((w61.setCell ⟨gb564, 0, none⟩ (.int .i64 ((rd_T44 t559 x89_4).f0))).setCell ⟨gb564, 1, none⟩ (.int .i64 ((rd_T44 t559 x89_4).f1))).setCell ⟨gb564, 2, none⟩ (.int .i64 ((rd_T44 t559 x89_4).f2.f0))).setCell ⟨gb564, 3, none⟩ (.int .i64 ((rd_T44 t559 x89_4).f2.f1))).setCell ⟨gb564, 4, none⟩ (.int .u64 ((rd_T44 t559 x89_4).f2.f2))).setCell ⟨gb564, 5, none⟩ (.int .u16 ((rd_T44 t559 x89_4).f2.f3))).setCell ⟨gb564, 6, none⟩ (.int .i64 ((rd_T44 t559 x89_4).f3))).setCell ⟨gb564, 7, none⟩ (.int .i64 ((rd_T44 t559 x89_4).f4))) w.heap.size (fun k_ => k_ ≠ gb564) (.slice (some ad563) t559.length co56) t559) := ⟨by (with_reducible repeat (first | apply Kd.R_alloc | apply Kd.R_drewN | apply Kd.R_drew)); exact Kd.R_mono (Kd.R_far (p := ⟨gb564, 7, none⟩) (Kd.R_far (p := ⟨gb564, 6, none⟩) (Kd.R_far (p := ⟨gb564, 5, none⟩) (Kd.R_far (p := ⟨gb564, 4, none⟩) (Kd.R_far (p := ⟨gb564, 3, none⟩) (Kd.R_far (p := ⟨gb564, 2, none⟩) (Kd.R_far (p := ⟨gb564, 1, none⟩) (Kd.R_far (p := ⟨gb564, 0, none⟩) (Kd.R_mono HO_87.out (fun k_ hk => (⟨hk, hk.2⟩ : _ ∧ k_ ≠ gb564))) (fun _ hk => hk.2) (.int .i64 ((rd_T44 t559 x89_4).f0))) (fun _ hk => hk.2) (.int .i64 ((rd_T44 t559 x89_4).f1))) (fun _ hk => hk.2) (.int .i64 ((rd_T44 t559 x89_4).f2.f0))) (fun _ hk => hk.2) (.int .i64 ((rd_T44 t559 x89_4).f2.f1))) (fun _ hk => hk.2) (.int .u64 ((rd_T44 t559 x89_4).f2.f2))) (fun _ hk => hk.2) (.int .u16 ((rd_T44 t559 x89_4).f2.f3))) (fun _ hk => hk.2) (.int .i64 ((rd_T44 t559 x89_4).f3))) (fun _ hk => hk.2) (.int .i64 ((rd_T44 t559 x89_4).f4))) (fun _ hk => hk.1.2)⟩
                      have n2_ : Aside0 (Kd.R (Kd.int .i64) 2 ((((((((w61.setCell ⟨gb564, 0, none⟩ (.int .i64 ((rd_T44 t559 x89_4).f0))).setCell ⟨gb564, 1, none⟩ (.int .i64 ((rd_T44 t559 x89_4).f1))).setCell ⟨gb564, 2, none⟩ (.int .i64 ((rd_T44 t559 x89_4).f2.f0))).setCell ⟨gb564, 3, none⟩ (.int .i64 ((rd_T44 t559 x89_4).f2.f1))).setCell ⟨gb564, 4, none⟩ (.int .u64 ((rd_T44 t559 x89_4).f2.f2))).setCell ⟨gb564, 5, none⟩ (.int .u16 ((rd_T44 t559 x89_4).f2.f3))).setCell ⟨gb564, 6, none⟩ (.int .i64 ((rd_T44 t559 x89_4).f3))).setCell ⟨gb564, 7, none⟩ (.int .i64 ((rd_T44 t559 x89_4).f4))) w.heap.size (fun _ => True) (.slice Ao50 t554.length co50) t554) := ⟨by (with_reducible repeat (first | apply Kd.R_alloc | apply Kd.R_drewN | apply Kd.R_drew)); exact Kd.R_mono (Kd.R_far (p := ⟨gb564, 7, none⟩) (Kd.R_far (p := ⟨gb564, 6, none⟩) (Kd.R_far (p := ⟨gb564, 5, none⟩) (Kd.R_far (p := ⟨gb564, 4, none⟩) (Kd.R_far (p := ⟨gb564, 3, none⟩) (Kd.R_far (p := ⟨gb564, 2, none⟩) (Kd.R_far (p := ⟨gb564, 1, none⟩) (Kd.R_far (p := ⟨gb564, 0, none⟩) (Kd.R_types HO_518011.out BK564.out (by decide)) (fun _ hk => hk.2) (.int .i64 ((rd_T44 t559 x89_4).f0))) (fun _ hk => hk.2) (.int .i64 ((rd_T44 t559 x89_4).f1))) (fun _ hk => hk.2) (.int .i64 ((rd_T44 t559 x89_4).f2.f0))) (fun _ hk => hk.2) (.int .i64 ((rd_T44 t559 x89_4).f2.f1))) (fun _ hk => hk.2) (.int .u64 ((rd_T44 t559 x89_4).f2.f2))) (fun _ hk => hk.2) (.int .u16 ((rd_T44 t559 x89_4).f2.f3))) (fun _ hk => hk.2) (.int .i64 ((rd_T44 t559 x89_4).f3))) (fun _ hk => hk.2) (.int .i64 ((rd_T44 t559 x89_4).f4))) (fun _ hk => trivial)⟩
                      have n3_ : Aside0 (((((((((w61.setCell ⟨gb564, 0, none⟩ (.int .i64 ((rd_T44 t559 x89_4).f0))).setCell ⟨gb564, 1, none⟩ (.int .i64 ((rd_T44 t559 x89_4).f1))).setCell ⟨gb564, 2, none⟩ (.int .i64 ((rd_T44 t559 x89_4).f2.f0))).setCell ⟨gb564, 3, none⟩ (.int .i64 ((rd_T44 t559 x89_4).f2.f1))).setCell ⟨gb564, 4, none⟩ (.int .u64 ((rd_T44 t559 x89_4).f2.f2))).setCell ⟨gb564, 5, none⟩ (.int .u16 ((rd_T44 t559 x89_4).f2.f3))).setCell ⟨gb564, 6, none⟩ (.int .i64 ((rd_T44 t559 x89_4).f3))).setCell ⟨gb564, 7, none⟩ (.int .i64 ((rd_T44 t559 x89_4).f4))).heap[gb497]? = some (.cells #[.int .i64 a0_0, .int .i64 a0_1, .int .i64 a0_2, .int .i64 a0_3, .int .i64 a0_4] 23 (0, 0))) := ff NB497_564 BK497
                      have n4_ : Aside0 (((((((((w61.setCell ⟨gb564, 0, none⟩ (.int .i64 ((rd_T44 t559 x89_4).f0))).setCell ⟨gb564, 1, none⟩ (.int .i64 ((rd_T44 t559 x89_4).f1))).setCell ⟨gb564, 2, none⟩ (.int .i64 ((rd_T44 t559 x89_4).f2.f0))).setCell ⟨gb564, 3, none⟩ (.int .i64 ((rd_T44 t559 x89_4).f2.f1))).setCell ⟨gb564, 4, none⟩ (.int .u64 ((rd_T44 t559 x89_4).f2.f2))).setCell ⟨gb564, 5, none⟩ (.int .u16 ((rd_T44 t559 x89_4).f2.f3))).setCell ⟨gb564, 6, none⟩ (.int .i64 ((rd_T44 t559 x89_4).f3))).setCell ⟨gb564, 7, none⟩ (.int .i64 ((rd_T44 t559 x89_4).f4))).heap[gb498]? = some (.cells #[.int .i64 a2_0, .int .i64 a2_1, .int .i64 a2_2] 25 (0, 0))) := ff NB498_564 BK498
                      have n5_ : Aside0 (((((((((w61.setCell ⟨gb564, 0, none⟩ (.int .i64 ((rd_T44 t559 x89_4).f0))).setCell ⟨gb564, 1, none⟩ (.int .i64 ((rd_T44 t559 x89_4).f1))).setCell ⟨gb564, 2, none⟩ (.int .i64 ((rd_T44 t559 x89_4).f2.f0))).setCell ⟨gb564, 3, none⟩ (.int .i64 ((rd_T44 t559 x89_4).f2.f1))).setCell ⟨gb564, 4, none⟩ (.int .u64 ((rd_T44 t559 x89_4).f2.f2))).setCell ⟨gb564, 5, none⟩ (.int .u16 ((rd_T44 t559 x89_4).f2.f3))).setCell ⟨gb564, 6, none⟩ (.int .i64 ((rd_T44 t559 x89_4).f3))).setCell ⟨gb564, 7, none⟩ (.int .i64 ((rd_T44 t559 x89_4).f4))).heap[gb517]? = some (.cells #[.int .i64 t543, .int .i64 t544, .int .u64 t545, .int .i64 t546, .int .i64 t547, .int .i64 t548, .int .i64 t549, .int .i64 t550, .int .u16 t551, .int .i64 t552, .int .i64 t553, .slice Ao50 t554.length co50, .bool t557, .int .i64 t558] 33 (0, 0))) := ff NB517_564 BK517
                      have n6_ : Aside0 (((((((((w61.setCell ⟨gb564, 0, none⟩ (.int .i64 ((rd_T44 t559 x89_4).f0))).setCell ⟨gb564, 1, none⟩ (.int .i64 ((rd_T44 t559 x89_4).f1))).setCell ⟨gb564, 2, none⟩ (.int .i64 ((rd_T44 t559 x89_4).f2.f0))).setCell ⟨gb564, 3, none⟩ (.int .i64 ((rd_T44 t559 x89_4).f2.f1))).setCell ⟨gb564, 4, none⟩ (.int .u64 ((rd_T44 t559 x89_4).f2.f2))).setCell ⟨gb564, 5, none⟩ (.int .u16 ((rd_T44 t559 x89_4).f2.f3))).setCell ⟨gb564, 6, none⟩ (.int .i64 ((rd_T44 t559 x89_4).f3))).setCell ⟨gb564, 7, none⟩ (.int .i64 ((rd_T44 t559 x89_4).f4))).heap[gb564]? = some (.cells #[.int .i64 ((rd_T44 t559 x89_4).f0), .int .i64 ((rd_T44 t559 x89_4).f1), .int .i64 ((rd_T44 t559 x89_4).f2.f0), .int .i64 ((rd_T44 t559 x89_4).f2.f1), .int .u64 ((rd_T44 t559 x89_4).f2.f2), .int .u16 ((rd_T44 t559 x89_4).f2.f3), .int .i64 ((rd_T44 t559 x89_4).f3), .int .i64 ((rd_T44 t559 x89_4).f4)] 44 (0, 0))) := ⟨by (with_reducible repeat (first | refine blk_drewN ?_ _ | refine blk_drew ?_ | refine blk_alloc ?_ _)); refine blk_put (cs := #[.int .i64 ((rd_T44 t559 x89_4).f0), .int .i64 ((rd_T44 t559 x89_4).f1), .int .i64 ((rd_T44 t559 x89_4).f2.f0), .int .i64 ((rd_T44 t559 x89_4).f2.f1), .int .u64 ((rd_T44 t559 x89_4).f2.f2), .int .u16 ((rd_T44 t559 x89_4).f2.f3), .int .i64 ((rd_T44 t559 x89_4).f3), .int .i64 0]) ?_ 7 _ rfl; (with_reducible repeat (first | refine blk_drewN ?_ _ | refine blk_drew ?_ | refine blk_alloc ?_ _)); refine blk_put (cs := #[.int .i64 ((rd_T44 t559 x89_4).f0), .int .i64 ((rd_T44 t559 x89_4).f1), .int .i64 ((rd_T44 t559 x89_4).f2.f0), .int .i64 ((rd_T44 t559 x89_4).f2.f1), .int .u64 ((rd_T44 t559 x89_4).f2.f2), .int .u16 ((rd_T44 t559 x89_4).f2.f3), .int .i64 0, .int .i64 0]) ?_ 6 _ rfl; (with_reducible repeat (first | refine blk_drewN ?_ _ | refine blk_drew ?_ | refine blk_alloc ?_ _)); refine blk_put (cs := #[.int .i64 ((rd_T44 t559 x89_4).f0), .int .i64 ((rd_T44 t559 x89_4).f1), .int .i64 ((rd_T44 t559 x89_4).f2.f0), .int .i64 ((rd_T44 t559 x89_4).f2.f1), .int .u64 ((rd_T44 t559 x89_4).f2.f2), .int .u16 0, .int .i64 0, .int .i64 0]) ?_ 5 _ rfl; (with_reducible repeat (first | refine blk_drewN ?_ _ | refine blk_drew ?_ | refine blk_alloc ?_ _)); refine blk_put (cs := #[.int .i64 ((rd_T44 t559 x89_4).f0), .int .i64 ((rd_T44 t559 x89_4).f1), .int .i64 ((rd_T44 t559 x89_4).f2.f0), .int .i64 ((rd_T44 t559 x89_4).f2.f1), .int .u64 0, .int .u16 0, .int .i64 0, .int .i64 0]) ?_ 4 _ rfl; (with_reducible repeat (first | refine blk_drewN ?_ _ | refine blk_drew ?_ | refine blk_alloc ?_ _)); refine blk_put (cs := #[.int .i64 ((rd_T44 t559 x89_4).f0), .int .i64 ((rd_T44 t559 x89_4).f1), .int .i64 ((rd_T44 t559 x89_4).f2.f0), .int .i64 0, .int .u64 0, .int .u16 0, .int .i64 0, .int .i64 0]) ?_ 3 _ rfl; (with_reducible repeat (first | refine blk_drewN ?_ _ | refine blk_drew ?_ | refine blk_alloc ?_ _)); refine blk_put (cs := #[.int .i64 ((rd_T44 t559 x89_4).f0), .int .i64 ((rd_T44 t559 x89_4).f1), .int .i64 0, .int .i64 0, .int .u64 0, .int .u16 0, .int .i64 0, .int .i64 0]) ?_ 2 _ rfl; (with_reducible repeat (first | refine blk_drewN ?_ _ | refine blk_drew ?_ | refine blk_alloc ?_ _)); refine blk_put (cs := #[.int .i64 ((rd_T44 t559 x89_4).f0), .int .i64 0, .int .i64 0, .int .i64 0, .int .u64 0, .int .u16 0, .int .i64 0, .int .i64 0]) ?_ 1 _ rfl; (with_reducible repeat (first | refine blk_drewN ?_ _ | refine blk_drew ?_ | refine blk_alloc ?_ _)); refine blk_put (cs := #[.int .i64 0, .int .i64 0, .int .i64 0, .int .i64 0, .int .u64 0, .int .u16 0, .int .i64 0, .int .i64 0]) ?_ 0 _ rfl; (with_reducible repeat (first | refine blk_drewN ?_ _ | refine blk_drew ?_ | refine blk_alloc ?_ _)); exact BK564.out⟩
                      have n7_ : Aside0 (Below w.heap.size w ((((((((w61.setCell ⟨gb564, 0, none⟩ (.int .i64 ((rd_T44 t559 x89_4).f0))).setCell ⟨gb564, 1, none⟩ (.int .i64 ((rd_T44 t559 x89_4).f1))).setCell ⟨gb564, 2, none⟩ (.int .i64 ((rd_T44 t559 x89_4).f2.f0))).setCell ⟨gb564, 3, none⟩ (.int .i64 ((rd_T44 t559 x89_4).f2.f1))).setCell ⟨gb564, 4, none⟩ (.int .u64 ((rd_T44 t559 x89_4).f2.f2))).setCell ⟨gb564, 5, none⟩ (.int .u16 ((rd_T44 t559 x89_4).f2.f3))).setCell ⟨gb564, 6, none⟩ (.int .i64 ((rd_T44 t559 x89_4).f3))).setCell ⟨gb564, 7, none⟩ (.int .i64 ((rd_T44 t559 x89_4).f4)))) := ⟨bse HB⟩
                      (try clear HO_14)
                      (try clear HO_87)
                      (try clear HO_518011)
                      (try clear BK497)
                      (try clear BK498)
                      (try clear BK517)
                      (try clear BK564)
                      (try clear HB)
                      generalize ((((((((w61.setCell ⟨gb564, 0, none⟩ (.int .i64 ((rd_T44 t559 x89_4).f0))).setCell ⟨gb564, 1, none⟩ (.int .i64 ((rd_T44 t559 x89_4).f1))).setCell ⟨gb564, 2, none⟩ (.int .i64 ((rd_T44 t559 x89_4).f2.f0))).setCell ⟨gb564, 3, none⟩ (.int .i64 ((rd_T44 t559 x89_4).f2.f1))).setCell ⟨gb564, 4, none⟩ (.int .u64 ((rd_T44 t559 x89_4).f2.f2))).setCell ⟨gb564, 5, none⟩ (.int .u16 ((rd_T44 t559 x89_4).f2.f3))).setCell ⟨gb564, 6, none⟩ (.int .i64 ((rd_T44 t559 x89_4).f3))).setCell ⟨gb564, 7, none⟩ (.int .i64 ((rd_T44 t559 x89_4).f4))) = w69 at n0_ n1_ n2_ n3_ n4_ n5_ n6_ n7_ ⊢
                      have HO_14 := n0_
                      have HO_87 := n1_
                      have HO_518011 := n2_
                      have BK497 := n3_
                      have BK498 := n4_
                      have BK517 := n5_
                      have BK564 := n6_
                      have HB := n7_
                      clear n0_ n1_ n2_ n3_ n4_ n5_ n6_ n7_
                      replace HO_14 := asd (Kd.R_drew HO_14.out)
                      replace HO_87 := asd (Kd.R_drew HO_87.out)
                      replace HO_518011 := asd (Kd.R_drew HO_518011.out)
                      replace BK497 := asd (blk_drew BK497.out)
                      replace BK498 := asd (blk_drew BK498.out)
                      replace BK517 := asd (blk_drew BK517.out)
                      replace BK564 := asd (blk_drew BK564.out)
                      replace HB := asd (below_drew1 HB.out)
                      refine start_ (n := 13) (S := fun w' => w'.cell? ⟨gb497, 0, none⟩ = some (.int .i64 a0_0) ∧ w'.cell? ⟨gb497, 1, none⟩ = some (.int .i64 a0_1) ∧ w'.cell? ⟨gb497, 2, none⟩ = some (.int .i64 a0_2) ∧ w'.cell? ⟨gb497, 3, none⟩ = some (.int .i64 a0_3) ∧ w'.cell? ⟨gb497, 4, none⟩ = some (.int .i64 a0_4)) (ds := []) (fb 13 0) (by kernel_rfl) rfl rfl ⟨(blk_cell BK497.out 0).trans rfl, (blk_cell BK497.out 1).trans rfl, (blk_cell BK497.out 2).trans rfl, (blk_cell BK497.out 3).trans rfl, (blk_cell BK497.out 4).trans rfl⟩ (fun hHeld => ?_); refine with_tabW palletlaw13_NodeSends.tab26 palletlaw13_NodeSends.bits26 (fun HT_ HW_ => ?_)
                      generalize w69.drew = w70 at HO_14 HO_87 HO_518011 BK497 BK498 BK517 BK564 HB hHeld ⊢
                      refine pz (i := 0) (N := some 96) (fb 13 1) ?_ (hc := any_of HT_.out (by kernel_rfl))
                      refine pz (i := 1) (N := some 97) (fb 13 3) ?_ (hc := any_of HT_.out (by kernel_rfl))
                      refine pz (i := 2) (N := some 98) (fb 13 7) ?_ (hc := any_of HT_.out (by kernel_rfl))
                      refine pz (i := 4) (N := some 100) (fb 13 23) ?_ (hc := any_of HT_.out (by kernel_rfl))
                      refine pz (i := 8) (N := some 104) (fb 13 279) ?_ (hc := any_of HT_.out (by kernel_rfl))
                      refine tz (i := 3) (N := some 99) (fb 13 287) hHeld ?_ (hc := take_ofW HT_.out HW_.out (by kernel_rfl))
                      refine pz (i := 5) (N := some 101) (fb 13 319) ?_ (hc := any_of HT_.out (by kernel_rfl))
                      refine pz (i := 6) (N := some 102) (fb 13 383) ?_ (hc := any_of HT_.out (by kernel_rfl))
                      refine pz (i := 7) (N := some 103) (fb 13 511) ?_ (hc := any_of HT_.out (by kernel_rfl))
                      refine join_ (σ := Nat) 1 (fb 13 4095) (fun s_ => [(105, .int .u16 t565), (20, .pointer (some ⟨s_, 0, none⟩)), (106, .agg #[.int .i64 2, .int .i64 a1, .int .u64 (IntKind.u64.wrap (wrap64 (a1 + (wrap64 (a0_0 * x15_4))))), .int .u16 t565])]) (fun s_ w' => (w'.cell? ⟨gb497, 0, none⟩ = some (.int .i64 a0_0) ∧ w'.cell? ⟨gb497, 1, none⟩ = some (.int .i64 a0_1) ∧ w'.cell? ⟨gb497, 2, none⟩ = some (.int .i64 a0_2) ∧ w'.cell? ⟨gb497, 3, none⟩ = some (.int .i64 a0_3) ∧ w'.cell? ⟨gb497, 4, none⟩ = some (.int .i64 a0_4)) ∧ (Kd.R k44 44 w' w.heap.size (fun k_ => k_ ≠ gb564) (.slice (some ad563) t559.length co56) t559) ∧ (Kd.R (Kd.int .i64) 2 w' w.heap.size (fun _ => True) (.slice Ao50 t554.length co50) t554) ∧ (Kd.R k44 44 w' w.heap.size (fun k_ => k_ ≠ gb564) (.slice (some ad563) t559.length co56) t559) ∧ (w'.heap[gb497]? = some (.cells #[.int .i64 a0_0, .int .i64 a0_1, .int .i64 a0_2, .int .i64 a0_3, .int .i64 a0_4] 23 (0, 0))) ∧ (w'.heap[gb498]? = some (.cells #[.int .i64 a2_0, .int .i64 a2_1, .int .i64 a2_2] 25 (0, 0))) ∧ (w'.heap[gb517]? = some (.cells #[.int .i64 t543, .int .i64 t544, .int .u64 t545, .int .i64 t546, .int .i64 t547, .int .i64 t548, .int .i64 t549, .int .i64 t550, .int .u16 t551, .int .i64 t552, .int .i64 t553, .slice Ao50 t554.length co50, .bool t557, .int .i64 t558] 33 (0, 0))) ∧ (w'.heap[gb564]? = some (.cells #[.int .i64 ((rd_T44 t559 x89_4).f0), .int .i64 ((rd_T44 t559 x89_4).f1), .int .i64 ((rd_T44 t559 x89_4).f2.f0), .int .i64 ((rd_T44 t559 x89_4).f2.f1), .int .u64 ((rd_T44 t559 x89_4).f2.f2), .int .u16 ((rd_T44 t559 x89_4).f2.f3), .int .i64 ((rd_T44 t559 x89_4).f3), .int .i64 ((rd_T44 t559 x89_4).f4)] 44 (0, 0))) ∧ (w'.heap[s_]? = some (.cells #[.int .i64 0, .int .i64 0, .int .u64 0, .int .u16 0] 42 (0, 0))) ∧ (w.heap.size ≤ s_) ∧ (w.heap.size ≤ s_) ∧ (gb497 ≠ s_) ∧ (s_ ≠ gb497) ∧ (gb498 ≠ s_) ∧ (s_ ≠ gb498) ∧ (gb517 ≠ s_) ∧ (s_ ≠ gb517) ∧ (gb564 ≠ s_) ∧ (s_ ≠ gb564) ∧ (Below w.heap.size w w')) ?_ ?_
                      rotate_left
                      ·intro hCont
                       refine two_ (i := 9) (j := 11) (Ni := some 105) (Nj := some 20) (fb 13 1023) (fb 13 2559) rfl rfl rfl rfl (two_of HT_.out (by kernel_rfl)) (by decide) (by decide) (fun K hK => ?_) (fun K hK => ?_)
                       ·skip
                        refine goes_ Try.func9 (by kernel_rfl) rfl #[.int .u16 0, .int .i64 a1] (by rfl) rfl rfl (by (try simp only [List.map_toArray, List.map_cons, List.map_nil]); first | done | rfl | (simp only [List.length_drop, List.length_take]; first | rfl | (rw [Nat.min_eq_left (Int.toNat_le.2 (of_decide_eq_true (by assumption)))]; rfl))) ?_
                        with_reducible refine (frame_With.calls 0 a1 t565 _ A67.out).mono ?_
                        rintro e w' ⟨rfl, ⟨nd, rfl⟩⟩
                        refine ⟨_, rfl, ?_⟩
                        refine hK.out _ _ ⟨(blk_cell BK497.out 0).trans rfl, (blk_cell BK497.out 1).trans rfl, (blk_cell BK497.out 2).trans rfl, (blk_cell BK497.out 3).trans rfl, (blk_cell BK497.out 4).trans rfl⟩ (fun hHeld => ?_)
                        clear hK K
                        refine norm_ (a' := ?_) ?_ ?_
                        rotate_left
                        ·show Act.put _ (some 105) _ = _
                         simp only [Act.put, List.setIfInBounds_toArray, List.set_cons_zero, List.set_cons_succ, i64_w, i32_w]
                         rfl
                        refine pz (i := 10) (N := some 106) (fb 13 2047) ?_ (hc := any_of HT_.out (by kernel_rfl))
                        refine one_ (i := 11) (N := some 20) (fb 13 4095) rfl rfl (one_of HT_.out (by kernel_rfl)) (by decide) (fun K hK => ?_)
                        refine box_step ?hg (N := 20) ?hd (cs := #[.int .i64 0, .int .i64 0, .int .u64 0, .int .u16 0]) (t := 42) ?hr ?_; (case hd => rfl); (case hg => rfl); (case hr => first | (go_simp; done) | (go_simp; rfl))
                        intro gb566 hg w71 hbox hb
                        have BK566 := asd (hbox)
                        have GW566 := bz HB hg
                        have GE566 := bz HB hg
                        have NB497_566 := nl BK497 hg
                        have NB566_497 := nr BK497 hg
                        have NB498_566 := nl BK498 hg
                        have NB566_498 := nr BK498 hg
                        have NB517_566 := nl BK517 hg
                        have NB566_517 := nr BK517 hg
                        have NB564_566 := nl BK564 hg
                        have NB566_564 := nr BK564 hg
                        replace HO_14 := rb HO_14 hb
                        replace HO_87 := rb HO_87 hb
                        replace HO_518011 := rb HO_518011 hb
                        replace BK497 := bb BK497 hb
                        replace BK498 := bb BK498 hb
                        replace BK517 := bb BK517 hb
                        replace BK564 := bb BK564 hb
                        replace HB := bs HB hb
                        clear hb hbox hg
                        refine hK.out _ _ ⟨(blk_cell BK497.out 0).trans rfl, (blk_cell BK497.out 1).trans rfl, (blk_cell BK497.out 2).trans rfl, (blk_cell BK497.out 3).trans rfl, (blk_cell BK497.out 4).trans rfl⟩ (fun hHeld => ?_)
                        clear hK K
                        refine norm_ (a' := ?_) ?_ ?_
                        rotate_left
                        ·show Act.put _ (some 20) _ = _
                         simp only [Act.put, List.setIfInBounds_toArray, List.set_cons_zero, List.set_cons_succ, i64_w, i32_w]
                         rfl
                        exact norm_ (by simp only [putAll, Act.put, List.setIfInBounds_toArray, List.set_cons_zero, List.set_cons_succ]) (hCont (gb566) _ ⟨hHeld, (re HO_14).out, (re HO_518011).out, (re HO_87).out, (be BK497).out, (be BK498).out, (be BK517).out, (be BK564).out, (be BK566).out, GW566.out, GE566.out, NB497_566.out, NB566_497.out, NB498_566.out, NB566_498.out, NB517_566.out, NB566_517.out, NB564_566.out, NB566_564.out, (bse HB)⟩)
                       ·skip
                        refine box_step ?hg (N := 20) ?hd (cs := #[.int .i64 0, .int .i64 0, .int .u64 0, .int .u16 0]) (t := 42) ?hr ?_; (case hd => rfl); (case hg => rfl); (case hr => first | (go_simp; done) | (go_simp; rfl))
                        intro gb566 hg w71 hbox hb
                        have BK566 := asd (hbox)
                        have GW566 := bz HB hg
                        have GE566 := bz HB hg
                        have NB497_566 := nl BK497 hg
                        have NB566_497 := nr BK497 hg
                        have NB498_566 := nl BK498 hg
                        have NB566_498 := nr BK498 hg
                        have NB517_566 := nl BK517 hg
                        have NB566_517 := nr BK517 hg
                        have NB564_566 := nl BK564 hg
                        have NB566_564 := nr BK564 hg
                        replace HO_14 := rb HO_14 hb
                        replace HO_87 := rb HO_87 hb
                        replace HO_518011 := rb HO_518011 hb
                        replace BK497 := bb BK497 hb
                        replace BK498 := bb BK498 hb
                        replace BK517 := bb BK517 hb
                        replace BK564 := bb BK564 hb
                        replace HB := bs HB hb
                        clear hb hbox hg
                        refine hK.out _ _ ⟨(blk_cell BK497.out 0).trans rfl, (blk_cell BK497.out 1).trans rfl, (blk_cell BK497.out 2).trans rfl, (blk_cell BK497.out 3).trans rfl, (blk_cell BK497.out 4).trans rfl⟩ (fun hHeld => ?_)
                        clear hK K
                        refine norm_ (a' := ?_) ?_ ?_
                        rotate_left
                        ·show Act.put _ (some 20) _ = _
                         simp only [Act.put, List.setIfInBounds_toArray, List.set_cons_zero, List.set_cons_succ, i64_w, i32_w]
                         rfl
                        refine one_ (i := 9) (N := some 105) (fb 13 3071) rfl rfl (one_of HT_.out (by kernel_rfl)) (by decide) (fun K hK => ?_)
                        refine goes_ Try.func9 (by kernel_rfl) rfl #[.int .u16 0, .int .i64 a1] (by rfl) rfl rfl (by (try simp only [List.map_toArray, List.map_cons, List.map_nil]); first | done | rfl | (simp only [List.length_drop, List.length_take]; first | rfl | (rw [Nat.min_eq_left (Int.toNat_le.2 (of_decide_eq_true (by assumption)))]; rfl))) ?_
                        with_reducible refine (frame_With.calls 0 a1 t565 _ A67.out).mono ?_
                        rintro e w' ⟨rfl, ⟨nd, rfl⟩⟩
                        refine ⟨_, rfl, ?_⟩
                        refine hK.out _ _ ⟨(blk_cell BK497.out 0).trans rfl, (blk_cell BK497.out 1).trans rfl, (blk_cell BK497.out 2).trans rfl, (blk_cell BK497.out 3).trans rfl, (blk_cell BK497.out 4).trans rfl⟩ (fun hHeld => ?_)
                        clear hK K
                        refine norm_ (a' := ?_) ?_ ?_
                        rotate_left
                        ·show Act.put _ (some 105) _ = _
                         simp only [Act.put, List.setIfInBounds_toArray, List.set_cons_zero, List.set_cons_succ, i64_w, i32_w]
                         rfl
                        refine pz (i := 10) (N := some 106) (fb 13 4095) ?_ (hc := any_of HT_.out (by kernel_rfl))
                        exact norm_ (by simp only [putAll, Act.put, List.setIfInBounds_toArray, List.set_cons_zero, List.set_cons_succ]) (hCont (gb566) _ ⟨hHeld, (re HO_14).out, (re HO_518011).out, (re HO_87).out, (be BK497).out, (be BK498).out, (be BK517).out, (be BK564).out, (be BK566).out, GW566.out, GE566.out, NB497_566.out, NB566_497.out, NB498_566.out, NB566_498.out, NB517_566.out, NB566_517.out, NB564_566.out, NB566_564.out, (bse HB)⟩)
                      rintro gb566 w72 ⟨hS_, h0_, h1_, h2_, h3_, h4_, h5_, h6_, h7_, h8_, h9_, h10_, h11_, h12_, h13_, h14_, h15_, h16_, h17_, h18_⟩
                      have n0_ : Aside0 (Kd.R k44 44 w72 w.heap.size (fun k_ => k_ ≠ gb564) (.slice (some ad563) t559.length co56) t559) := ⟨h0_⟩
                      have n1_ : Aside0 (Kd.R (Kd.int .i64) 2 w72 w.heap.size (fun _ => True) (.slice Ao50 t554.length co50) t554) := ⟨h1_⟩
                      have n2_ : Aside0 (Kd.R k44 44 w72 w.heap.size (fun k_ => k_ ≠ gb564) (.slice (some ad563) t559.length co56) t559) := ⟨h2_⟩
                      have n3_ : Aside0 (w72.heap[gb497]? = some (.cells #[.int .i64 a0_0, .int .i64 a0_1, .int .i64 a0_2, .int .i64 a0_3, .int .i64 a0_4] 23 (0, 0))) := ⟨h3_⟩
                      have n4_ : Aside0 (w72.heap[gb498]? = some (.cells #[.int .i64 a2_0, .int .i64 a2_1, .int .i64 a2_2] 25 (0, 0))) := ⟨h4_⟩
                      have n5_ : Aside0 (w72.heap[gb517]? = some (.cells #[.int .i64 t543, .int .i64 t544, .int .u64 t545, .int .i64 t546, .int .i64 t547, .int .i64 t548, .int .i64 t549, .int .i64 t550, .int .u16 t551, .int .i64 t552, .int .i64 t553, .slice Ao50 t554.length co50, .bool t557, .int .i64 t558] 33 (0, 0))) := ⟨h5_⟩
                      have n6_ : Aside0 (w72.heap[gb564]? = some (.cells #[.int .i64 ((rd_T44 t559 x89_4).f0), .int .i64 ((rd_T44 t559 x89_4).f1), .int .i64 ((rd_T44 t559 x89_4).f2.f0), .int .i64 ((rd_T44 t559 x89_4).f2.f1), .int .u64 ((rd_T44 t559 x89_4).f2.f2), .int .u16 ((rd_T44 t559 x89_4).f2.f3), .int .i64 ((rd_T44 t559 x89_4).f3), .int .i64 ((rd_T44 t559 x89_4).f4)] 44 (0, 0))) := ⟨h6_⟩
                      have n7_ : Aside0 (w72.heap[gb566]? = some (.cells #[.int .i64 0, .int .i64 0, .int .u64 0, .int .u16 0] 42 (0, 0))) := ⟨h7_⟩
                      have n8_ : Aside0 (w.heap.size ≤ gb566) := ⟨h8_⟩
                      have n9_ : Aside0 (w.heap.size ≤ gb566) := ⟨h9_⟩
                      have n10_ : Aside0 (gb497 ≠ gb566) := ⟨h10_⟩
                      have n11_ : Aside0 (gb566 ≠ gb497) := ⟨h11_⟩
                      have n12_ : Aside0 (gb498 ≠ gb566) := ⟨h12_⟩
                      have n13_ : Aside0 (gb566 ≠ gb498) := ⟨h13_⟩
                      have n14_ : Aside0 (gb517 ≠ gb566) := ⟨h14_⟩
                      have n15_ : Aside0 (gb566 ≠ gb517) := ⟨h15_⟩
                      have n16_ : Aside0 (gb564 ≠ gb566) := ⟨h16_⟩
                      have n17_ : Aside0 (gb566 ≠ gb564) := ⟨h17_⟩
                      have n18_ : Aside0 (Below w.heap.size w w72) := ⟨h18_⟩
                      clear HO_14 HO_87 HO_518011 BK497 BK498 BK517 BK564 HB h0_ h1_ h2_ h3_ h4_ h5_ h6_ h7_ h8_ h9_ h10_ h11_ h12_ h13_ h14_ h15_ h16_ h17_ h18_
                      have HO_14 := n0_
                      have HO_518011 := n1_
                      have HO_87 := n2_
                      have BK497 := n3_
                      have BK498 := n4_
                      have BK517 := n5_
                      have BK564 := n6_
                      have BK566 := n7_
                      have GW566 := n8_
                      have GE566 := n9_
                      have NB497_566 := n10_
                      have NB566_497 := n11_
                      have NB498_566 := n12_
                      have NB566_498 := n13_
                      have NB517_566 := n14_
                      have NB566_517 := n15_
                      have NB564_566 := n16_
                      have NB566_564 := n17_
                      have HB := n18_
                      clear n0_ n1_ n2_ n3_ n4_ n5_ n6_ n7_ n8_ n9_ n10_ n11_ n12_ n13_ n14_ n15_ n16_ n17_ n18_
                      have hHeld : w72.cell? ⟨gb497, 0, none⟩ = some (.int .i64 a0_0) ∧ w72.cell? ⟨gb497, 1, none⟩ = some (.int .i64 a0_1) ∧ w72.cell? ⟨gb497, 2, none⟩ = some (.int .i64 a0_2) ∧ w72.cell? ⟨gb497, 3, none⟩ = some (.int .i64 a0_3) ∧ w72.cell? ⟨gb497, 4, none⟩ = some (.int .i64 a0_4) := hS_
                      refine norm_ (a' := ?_) ?_ ?_
                      rotate_left
                      ·simp only [putAll, Act.put, List.setIfInBounds_toArray, List.set_cons_zero, List.set_cons_succ]
                       rfl
                      refine one_ (i := 12) (N := none) (fb 13 8191) rfl rfl (one_of HT_.out (by kernel_rfl)) (by decide) (fun K hK => ?_)
                      have hs73 : w72.cell? ⟨gb566, 0, none⟩ = some (.int .i64 0) := (blk_cell BK566.out 0).trans rfl
                      have hfs73 := blk_frozen BK566.out 0
                      have hns73_0 := NB497_566.out
                      have hns73_1 := NB498_566.out
                      have hns73_2 := NB517_566.out
                      have hns73_3 := NB564_566.out
                      have hms73_0 := NB566_497.out
                      have hms73_1 := NB566_498.out
                      have hms73_2 := NB566_517.out
                      have hms73_3 := NB566_564.out
                      have hs74 : w72.cell? ⟨gb566, 1, none⟩ = some (.int .i64 0) := (blk_cell BK566.out 1).trans rfl
                      have hfs74 := blk_frozen BK566.out 1
                      have hns74_0 := NB497_566.out
                      have hns74_1 := NB498_566.out
                      have hns74_2 := NB517_566.out
                      have hns74_3 := NB564_566.out
                      have hms74_0 := NB566_497.out
                      have hms74_1 := NB566_498.out
                      have hms74_2 := NB566_517.out
                      have hms74_3 := NB566_564.out
                      have hs75 : w72.cell? ⟨gb566, 2, none⟩ = some (.int .u64 0) := (blk_cell BK566.out 2).trans rfl
                      have hfs75 := blk_frozen BK566.out 2
                      have hns75_0 := NB497_566.out
                      have hns75_1 := NB498_566.out
                      have hns75_2 := NB517_566.out
                      have hns75_3 := NB564_566.out
                      have hms75_0 := NB566_497.out
                      have hms75_1 := NB566_498.out
                      have hms75_2 := NB566_517.out
                      have hms75_3 := NB566_564.out
                      have hs76 : w72.cell? ⟨gb566, 3, none⟩ = some (.int .u16 0) := (blk_cell BK566.out 3).trans rfl
                      have hfs76 := blk_frozen BK566.out 3
                      have hns76_0 := NB497_566.out
                      have hns76_1 := NB498_566.out
                      have hns76_2 := NB517_566.out
                      have hns76_3 := NB564_566.out
                      have hms76_0 := NB566_497.out
                      have hms76_1 := NB566_498.out
                      have hms76_2 := NB566_517.out
                      have hms76_3 := NB566_564.out
                      refine skip_ (w1 := ?_) (by rfl) rfl ?_ ?_
                      rotate_left
                      ·go_simp
                       rfl
                      refine hK.out _ _ ⟨((cell_far (p := ⟨gb566, _, none⟩) NB497_566.out _).trans (((cell_far (p := ⟨gb566, _, none⟩) NB497_566.out _).trans (((cell_far (p := ⟨gb566, _, none⟩) NB497_566.out _).trans (((cell_far (p := ⟨gb566, _, none⟩) NB497_566.out _).trans (hHeld.1)))))))), ((cell_far (p := ⟨gb566, _, none⟩) NB497_566.out _).trans (((cell_far (p := ⟨gb566, _, none⟩) NB497_566.out _).trans (((cell_far (p := ⟨gb566, _, none⟩) NB497_566.out _).trans (((cell_far (p := ⟨gb566, _, none⟩) NB497_566.out _).trans (hHeld.2.1)))))))), ((cell_far (p := ⟨gb566, _, none⟩) NB497_566.out _).trans (((cell_far (p := ⟨gb566, _, none⟩) NB497_566.out _).trans (((cell_far (p := ⟨gb566, _, none⟩) NB497_566.out _).trans (((cell_far (p := ⟨gb566, _, none⟩) NB497_566.out _).trans (hHeld.2.2.1)))))))), ((cell_far (p := ⟨gb566, _, none⟩) NB497_566.out _).trans (((cell_far (p := ⟨gb566, _, none⟩) NB497_566.out _).trans (((cell_far (p := ⟨gb566, _, none⟩) NB497_566.out _).trans (((cell_far (p := ⟨gb566, _, none⟩) NB497_566.out _).trans (hHeld.2.2.2.1)))))))), ((cell_far (p := ⟨gb566, _, none⟩) NB497_566.out _).trans (((cell_far (p := ⟨gb566, _, none⟩) NB497_566.out _).trans (((cell_far (p := ⟨gb566, _, none⟩) NB497_566.out _).trans (((cell_far (p := ⟨gb566, _, none⟩) NB497_566.out _).trans (hHeld.2.2.2.2))))))))⟩ (fun hHeld => ?_)
                      clear hK K
                      refine done_ (done_of HT_.out (by kernel_rfl)) ?_
                      have hnb77 := NB564_497.out
                      have hnc77 := NB497_564.out
                      have hnb78 := NB564_498.out
                      have hnc78 := NB498_564.out
                      have hnb79 := NB564_517.out
                      have hnc79 := NB517_564.out
                      have hnb80 := NB564_566.out
                      have hnc80 := NB566_564.out
                      have hcz81_0 : w72.cell? ⟨gb564, 0, none⟩ = some (.int .i64 ((rd_T44 t559 x89_4).f0)) := (blk_cell BK564.out 0).trans rfl
                      have hcz81_1 : w72.cell? ⟨gb564, 1, none⟩ = some (.int .i64 ((rd_T44 t559 x89_4).f1)) := (blk_cell BK564.out 1).trans rfl
                      have hcz81_2 : w72.cell? ⟨gb564, 2, none⟩ = some (.int .i64 ((rd_T44 t559 x89_4).f2.f0)) := (blk_cell BK564.out 2).trans rfl
                      have hcz81_3 : w72.cell? ⟨gb564, 3, none⟩ = some (.int .i64 ((rd_T44 t559 x89_4).f2.f1)) := (blk_cell BK564.out 3).trans rfl
                      have hcz81_4 : w72.cell? ⟨gb564, 4, none⟩ = some (.int .u64 ((rd_T44 t559 x89_4).f2.f2)) := (blk_cell BK564.out 4).trans rfl
                      have hcz81_5 : w72.cell? ⟨gb564, 5, none⟩ = some (.int .u16 ((rd_T44 t559 x89_4).f2.f3)) := (blk_cell BK564.out 5).trans rfl
                      have hcz81_6 : w72.cell? ⟨gb564, 6, none⟩ = some (.int .i64 ((rd_T44 t559 x89_4).f3)) := (blk_cell BK564.out 6).trans rfl
                      have hcz81_7 : w72.cell? ⟨gb564, 7, none⟩ = some (.int .i64 ((rd_T44 t559 x89_4).f4)) := (blk_cell BK564.out 7).trans rfl
                      have hfz81_0 := blk_frozen BK564.out 0
                      have hfz81_1 := blk_frozen BK564.out 1
                      have hfz81_2 := blk_frozen BK564.out 2
                      have hfz81_3 := blk_frozen BK564.out 3
                      have hfz81_4 := blk_frozen BK564.out 4
                      have hfz81_5 := blk_frozen BK564.out 5
                      have hfz81_6 := blk_frozen BK564.out 6
                      have hfz81_7 := blk_frozen BK564.out 7
                      have hnb82 := NB566_497.out
                      have hnc82 := NB497_566.out
                      have hnb83 := NB566_498.out
                      have hnc83 := NB498_566.out
                      have hnb84 := NB566_517.out
                      have hnc84 := NB517_566.out
                      have hcz85 := cf4 BK566
                      try go_wp2
                      go_meet
                      case rel => exact ⟨_, (wrap64 (x15_4 + 1)), (by first | rfl | (simp; done) | (simp [*]; done)), H', ⟨by have := HK1.out; have := HJ30.out; have := HJ39.out; have := HK4.out; first | omega | exact Nat.le_refl _⟩, ⟨by (with_reducible repeat (first | apply Kd.R_alloc | apply Kd.R_drewN | apply Kd.R_drew)); exact Kd.R_mono (Kd.R_far (p := ⟨gb566, 3, none⟩) (Kd.R_far (p := ⟨gb566, 2, none⟩) (Kd.R_far (p := ⟨gb566, 1, none⟩) (Kd.R_far (p := ⟨gb566, 0, none⟩) (Kd.R_types HO_14.out BK566.out (by decide)) (fun _ hk => hk.2) (.int .i64 2)) (fun _ hk => hk.2) (.int .i64 a1)) (fun _ hk => hk.2) (.int .u64 (IntKind.u64.wrap (wrap64 (a1 + (wrap64 (a0_0 * x15_4))))))) (fun _ hk => hk.2) (.int .u16 t565)) (fun _ hk => hk.1)⟩, ⟨by (with_reducible repeat (first | apply Kd.R_alloc | apply Kd.R_drewN | apply Kd.R_drew)); exact Kd.R_mono (Kd.R_far (p := ⟨gb566, 3, none⟩) (Kd.R_far (p := ⟨gb566, 2, none⟩) (Kd.R_far (p := ⟨gb566, 1, none⟩) (Kd.R_far (p := ⟨gb566, 0, none⟩) (Kd.R_types HO_87.out BK566.out (by decide)) (fun _ hk => hk.2) (.int .i64 2)) (fun _ hk => hk.2) (.int .i64 a1)) (fun _ hk => hk.2) (.int .u64 (IntKind.u64.wrap (wrap64 (a1 + (wrap64 (a0_0 * x15_4))))))) (fun _ hk => hk.2) (.int .u16 t565)) (fun _ hk => hk.1)⟩, ⟨by (with_reducible repeat (first | apply Kd.R_alloc | apply Kd.R_drewN | apply Kd.R_drew)); exact Kd.R_mono (Kd.R_far (p := ⟨gb566, 3, none⟩) (Kd.R_far (p := ⟨gb566, 2, none⟩) (Kd.R_far (p := ⟨gb566, 1, none⟩) (Kd.R_far (p := ⟨gb566, 0, none⟩) (Kd.R_types HO_518011.out BK566.out (by decide)) (fun _ hk => hk.2) (.int .i64 2)) (fun _ hk => hk.2) (.int .i64 a1)) (fun _ hk => hk.2) (.int .u64 (IntKind.u64.wrap (wrap64 (a1 + (wrap64 (a0_0 * x15_4))))))) (fun _ hk => hk.2) (.int .u16 t565)) (fun _ hk => trivial)⟩, ff NB497_566 BK497, ff NB498_566 BK498, ff NB517_566 BK517, ff NB564_566 BK564, ⟨bse HB⟩⟩
                    ·rw [if_neg c66] at H
                     have c66b0 : (((rd_T44 t559 x89_4).f0) == 2) = false := beq_eq_false_iff_ne.mpr c66
                     have c66b1 : (((rd_T44 t559 x89_4).f0) != 2) = true := bne_iff_ne.mpr c66
                     (first | rw [c66b0] | (simp only [i64_w, i32_w]; rw [c66b0]) | skip)
                     have H' := asd H
                     clear H
                     go_wp2
                     go_meet
                     case rel => exact ⟨_, (x15_4), (by first | rfl | (simp; done) | (simp [*]; done)), H', ⟨by have := HK1.out; have := HJ30.out; have := HJ39.out; have := HK4.out; first | omega | exact Nat.le_refl _⟩, ⟨by (with_reducible repeat (first | apply Kd.R_alloc | apply Kd.R_drewN | apply Kd.R_drew)); exact Kd.R_mono (Kd.R_far (p := ⟨gb564, 7, none⟩) (Kd.R_far (p := ⟨gb564, 6, none⟩) (Kd.R_far (p := ⟨gb564, 5, none⟩) (Kd.R_far (p := ⟨gb564, 4, none⟩) (Kd.R_far (p := ⟨gb564, 3, none⟩) (Kd.R_far (p := ⟨gb564, 2, none⟩) (Kd.R_far (p := ⟨gb564, 1, none⟩) (Kd.R_far (p := ⟨gb564, 0, none⟩) (Kd.R_mono HO_14.out (fun k_ hk => (⟨hk, hk.2⟩ : _ ∧ k_ ≠ gb564))) (fun _ hk => hk.2) (.int .i64 ((rd_T44 t559 x89_4).f0))) (fun _ hk => hk.2) (.int .i64 ((rd_T44 t559 x89_4).f1))) (fun _ hk => hk.2) (.int .i64 ((rd_T44 t559 x89_4).f2.f0))) (fun _ hk => hk.2) (.int .i64 ((rd_T44 t559 x89_4).f2.f1))) (fun _ hk => hk.2) (.int .u64 ((rd_T44 t559 x89_4).f2.f2))) (fun _ hk => hk.2) (.int .u16 ((rd_T44 t559 x89_4).f2.f3))) (fun _ hk => hk.2) (.int .i64 ((rd_T44 t559 x89_4).f3))) (fun _ hk => hk.2) (.int .i64 ((rd_T44 t559 x89_4).f4))) (fun _ hk => hk.1.2)⟩, ⟨by (with_reducible repeat (first | apply Kd.R_alloc | apply Kd.R_drewN | apply Kd.R_drew)); exact Kd.R_mono (Kd.R_far (p := ⟨gb564, 7, none⟩) (Kd.R_far (p := ⟨gb564, 6, none⟩) (Kd.R_far (p := ⟨gb564, 5, none⟩) (Kd.R_far (p := ⟨gb564, 4, none⟩) (Kd.R_far (p := ⟨gb564, 3, none⟩) (Kd.R_far (p := ⟨gb564, 2, none⟩) (Kd.R_far (p := ⟨gb564, 1, none⟩) (Kd.R_far (p := ⟨gb564, 0, none⟩) (Kd.R_mono HO_87.out (fun k_ hk => (⟨hk, hk.2⟩ : _ ∧ k_ ≠ gb564))) (fun _ hk => hk.2) (.int .i64 ((rd_T44 t559 x89_4).f0))) (fun _ hk => hk.2) (.int .i64 ((rd_T44 t559 x89_4).f1))) (fun _ hk => hk.2) (.int .i64 ((rd_T44 t559 x89_4).f2.f0))) (fun _ hk => hk.2) (.int .i64 ((rd_T44 t559 x89_4).f2.f1))) (fun _ hk => hk.2) (.int .u64 ((rd_T44 t559 x89_4).f2.f2))) (fun _ hk => hk.2) (.int .u16 ((rd_T44 t559 x89_4).f2.f3))) (fun _ hk => hk.2) (.int .i64 ((rd_T44 t559 x89_4).f3))) (fun _ hk => hk.2) (.int .i64 ((rd_T44 t559 x89_4).f4))) (fun _ hk => hk.1.2)⟩, ⟨by (with_reducible repeat (first | apply Kd.R_alloc | apply Kd.R_drewN | apply Kd.R_drew)); exact Kd.R_mono (Kd.R_far (p := ⟨gb564, 7, none⟩) (Kd.R_far (p := ⟨gb564, 6, none⟩) (Kd.R_far (p := ⟨gb564, 5, none⟩) (Kd.R_far (p := ⟨gb564, 4, none⟩) (Kd.R_far (p := ⟨gb564, 3, none⟩) (Kd.R_far (p := ⟨gb564, 2, none⟩) (Kd.R_far (p := ⟨gb564, 1, none⟩) (Kd.R_far (p := ⟨gb564, 0, none⟩) (Kd.R_types HO_518011.out BK564.out (by decide)) (fun _ hk => hk.2) (.int .i64 ((rd_T44 t559 x89_4).f0))) (fun _ hk => hk.2) (.int .i64 ((rd_T44 t559 x89_4).f1))) (fun _ hk => hk.2) (.int .i64 ((rd_T44 t559 x89_4).f2.f0))) (fun _ hk => hk.2) (.int .i64 ((rd_T44 t559 x89_4).f2.f1))) (fun _ hk => hk.2) (.int .u64 ((rd_T44 t559 x89_4).f2.f2))) (fun _ hk => hk.2) (.int .u16 ((rd_T44 t559 x89_4).f2.f3))) (fun _ hk => hk.2) (.int .i64 ((rd_T44 t559 x89_4).f3))) (fun _ hk => hk.2) (.int .i64 ((rd_T44 t559 x89_4).f4))) (fun _ hk => trivial)⟩, ff NB497_564 BK497, ff NB498_564 BK498, ff NB517_564 BK517, ⟨by (with_reducible repeat (first | refine blk_drewN ?_ _ | refine blk_drew ?_ | refine blk_alloc ?_ _)); refine blk_put (cs := #[.int .i64 ((rd_T44 t559 x89_4).f0), .int .i64 ((rd_T44 t559 x89_4).f1), .int .i64 ((rd_T44 t559 x89_4).f2.f0), .int .i64 ((rd_T44 t559 x89_4).f2.f1), .int .u64 ((rd_T44 t559 x89_4).f2.f2), .int .u16 ((rd_T44 t559 x89_4).f2.f3), .int .i64 ((rd_T44 t559 x89_4).f3), .int .i64 0]) ?_ 7 _ rfl; (with_reducible repeat (first | refine blk_drewN ?_ _ | refine blk_drew ?_ | refine blk_alloc ?_ _)); refine blk_put (cs := #[.int .i64 ((rd_T44 t559 x89_4).f0), .int .i64 ((rd_T44 t559 x89_4).f1), .int .i64 ((rd_T44 t559 x89_4).f2.f0), .int .i64 ((rd_T44 t559 x89_4).f2.f1), .int .u64 ((rd_T44 t559 x89_4).f2.f2), .int .u16 ((rd_T44 t559 x89_4).f2.f3), .int .i64 0, .int .i64 0]) ?_ 6 _ rfl; (with_reducible repeat (first | refine blk_drewN ?_ _ | refine blk_drew ?_ | refine blk_alloc ?_ _)); refine blk_put (cs := #[.int .i64 ((rd_T44 t559 x89_4).f0), .int .i64 ((rd_T44 t559 x89_4).f1), .int .i64 ((rd_T44 t559 x89_4).f2.f0), .int .i64 ((rd_T44 t559 x89_4).f2.f1), .int .u64 ((rd_T44 t559 x89_4).f2.f2), .int .u16 0, .int .i64 0, .int .i64 0]) ?_ 5 _ rfl; (with_reducible repeat (first | refine blk_drewN ?_ _ | refine blk_drew ?_ | refine blk_alloc ?_ _)); refine blk_put (cs := #[.int .i64 ((rd_T44 t559 x89_4).f0), .int .i64 ((rd_T44 t559 x89_4).f1), .int .i64 ((rd_T44 t559 x89_4).f2.f0), .int .i64 ((rd_T44 t559 x89_4).f2.f1), .int .u64 0, .int .u16 0, .int .i64 0, .int .i64 0]) ?_ 4 _ rfl; (with_reducible repeat (first | refine blk_drewN ?_ _ | refine blk_drew ?_ | refine blk_alloc ?_ _)); refine blk_put (cs := #[.int .i64 ((rd_T44 t559 x89_4).f0), .int .i64 ((rd_T44 t559 x89_4).f1), .int .i64 ((rd_T44 t559 x89_4).f2.f0), .int .i64 0, .int .u64 0, .int .u16 0, .int .i64 0, .int .i64 0]) ?_ 3 _ rfl; (with_reducible repeat (first | refine blk_drewN ?_ _ | refine blk_drew ?_ | refine blk_alloc ?_ _)); refine blk_put (cs := #[.int .i64 ((rd_T44 t559 x89_4).f0), .int .i64 ((rd_T44 t559 x89_4).f1), .int .i64 0, .int .i64 0, .int .u64 0, .int .u16 0, .int .i64 0, .int .i64 0]) ?_ 2 _ rfl; (with_reducible repeat (first | refine blk_drewN ?_ _ | refine blk_drew ?_ | refine blk_alloc ?_ _)); refine blk_put (cs := #[.int .i64 ((rd_T44 t559 x89_4).f0), .int .i64 0, .int .i64 0, .int .i64 0, .int .u64 0, .int .u16 0, .int .i64 0, .int .i64 0]) ?_ 1 _ rfl; (with_reducible repeat (first | refine blk_drewN ?_ _ | refine blk_drew ?_ | refine blk_alloc ?_ _)); refine blk_put (cs := #[.int .i64 0, .int .i64 0, .int .i64 0, .int .i64 0, .int .u64 0, .int .u16 0, .int .i64 0, .int .i64 0]) ?_ 0 _ rfl; (with_reducible repeat (first | refine blk_drewN ?_ _ | refine blk_drew ?_ | refine blk_alloc ?_ _)); exact BK564.out⟩, ⟨bse HB⟩⟩
                   case rest =>
                    clear HC60
                    try clear p2
                    try clear c5
                    try clear p5
                    try clear q5
                    try clear hx5
                    try clear c6
                    try clear p6
                    try clear c7
                    try clear c8
                    try clear c9
                    try clear p54
                    try clear q54
                    try clear hx54
                    try clear p56
                    try clear q56
                    try clear hx56
                    try clear c57
                    try clear c57b0
                    try clear c58
                    try clear c58b0
                    try clear c59
                    try clear c59b0
                    try clear c62
                    try clear c63
                    try clear c64
                    try clear p64
                    try clear c66
                    try clear c66b0
                    try clear c66b1
                    try clear c68
                    try clear c68b0
                    try clear c77
                    try clear c78
                    try clear c79
                    try clear c80
                    try clear c82
                    try clear c83
                    try clear c84
                    try clear hcz54
                    try clear hcz65_0
                    try clear hcz65_1
                    try clear hcz65_2
                    try clear hcz65_3
                    try clear hcz65_4
                    try clear hcz65_5
                    try clear hcz65_6
                    try clear hcz65_7
                    try clear hcz81_0
                    try clear hcz81_1
                    try clear hcz81_2
                    try clear hcz81_3
                    try clear hcz81_4
                    try clear hcz81_5
                    try clear hcz81_6
                    try clear hcz81_7
                    try clear hcz85
                    try clear hcz16
                    try clear hfz17_0
                    try clear hfz17_1
                    try clear hfz17_2
                    try clear hcz22
                    try clear hcz24
                    try clear hcz26
                    try clear hcz28
                    try clear hcz44
                    try clear hcz46
                    try clear hcz49
                    try clear hcz54
                    try clear hfz65_0
                    try clear hfz65_1
                    try clear hfz65_2
                    try clear hfz65_3
                    try clear hfz65_4
                    try clear hfz65_5
                    try clear hfz65_6
                    try clear hfz65_7
                    try clear hfz81_0
                    try clear hfz81_1
                    try clear hfz81_2
                    try clear hfz81_3
                    try clear hfz81_4
                    try clear hfz81_5
                    try clear hfz81_6
                    try clear hfz81_7
                    try clear hcz85
                    try clear hx541_0
                    try clear hx542_0
                    try clear hx563_0
                    try clear hx563_1
                    try clear hx563_2
                    try clear hx563_3
                    try clear hx563_4
                    try clear hx563_5
                    try clear hx563_6
                    try clear hx563_7
                    try clear p2
                    try clear p5
                    try clear p54
                    try clear p541
                    try clear p542
                    try clear p563
                    try clear p6
                    try clear q5
                    try clear q54
                    try clear q541
                    try clear q542
                    try clear q563
                    obtain ⟨kq, x15_59, rfl, HA, HJ59, HO_14, HO_87, HO_518011, BK497, BK498, BK517, BK564, HB⟩ := hcut
                    cases kq with
                    | zero => exact absurd HA.out (by simp [palletlaw13_NodeSends.j4])
                    | succ kj59 =>
                     have H := HA.out
                     clear HA
                     simp only [palletlaw13_NodeSends.j4] at H
                     have HC86 := asd H
                     clear H
                     go_upto_region 30 with (fail)
                     go_cut [140] (fun v140 wc => ∃ (kq : Nat) (x140_85 : Bool), v140 = .bool x140_85 ∧ Aside0 (palletlaw13_NodeSends.j5 kq a1 a4 true t559 x15_59 (rd t538 0) (wrap64 ((((Int.tmod a4 4) + 1) % 256) * (wrap64 (a0_0 + 1)))) x55_1 t559 (t559.length : Int) x89_4 x140_85 a0_0 a0_1 a0_2 a0_3 a0_4 t543 t544 t545 t546 t547 t548 t549 t550 t551 t552 t553 t554 t557 t558 = some r) ∧ Aside0 (kq ≤ kj59) ∧ Aside0 (Kd.R k44 44 wc w.heap.size (fun k_ => k_ ≠ gb564) (.slice (some ad563) t559.length co56) t559) ∧ Aside0 (Kd.R k44 44 wc w.heap.size (fun k_ => k_ ≠ gb564) (.slice (some ad563) t559.length co56) t559) ∧ Aside0 (Kd.R (Kd.int .i64) 2 wc w.heap.size (fun _ => True) (.slice Ao50 t554.length co50) t554) ∧ Aside0 (wc.heap[gb497]? = some (.cells #[.int .i64 a0_0, .int .i64 a0_1, .int .i64 a0_2, .int .i64 a0_3, .int .i64 a0_4] 23 (0, 0))) ∧ Aside0 (wc.heap[gb498]? = some (.cells #[.int .i64 a2_0, .int .i64 a2_1, .int .i64 a2_2] 25 (0, 0))) ∧ Aside0 (wc.heap[gb517]? = some (.cells #[.int .i64 t543, .int .i64 t544, .int .u64 t545, .int .i64 t546, .int .i64 t547, .int .i64 t548, .int .i64 t549, .int .i64 t550, .int .u16 t551, .int .i64 t552, .int .i64 t553, (.slice Ao50 t554.length co50), .bool t557, .int .i64 t558] 33 (0, 0))) ∧ Aside0 (wc.heap[gb564]? = some (.cells #[.int .i64 ((rd_T44 t559 x89_4).f0), .int .i64 ((rd_T44 t559 x89_4).f1), .int .i64 ((rd_T44 t559 x89_4).f2.f0), .int .i64 ((rd_T44 t559 x89_4).f2.f1), .int .u64 ((rd_T44 t559 x89_4).f2.f2), .int .u16 ((rd_T44 t559 x89_4).f2.f3), .int .i64 ((rd_T44 t559 x89_4).f3), .int .i64 ((rd_T44 t559 x89_4).f4)] 44 (0, 0))) ∧ Aside0 (Below w.heap.size w wc))
                     case first =>
                      have H := HC86.out
                      clear HC86
                      by_cases c87 : ((rd_T44 t559 x89_4).f0) = 3
                      ·rw [if_pos c87] at H
                       have c87b0 : (((rd_T44 t559 x89_4).f0) == 3) = true := beq_iff_eq.mpr c87
                       have c87b1 : (((rd_T44 t559 x89_4).f0) != 3) = false := bne_eq_false_iff_eq.mpr c87
                       clear c87
                       (first | rw [c87b0] | (simp only [i64_w, i32_w]; rw [c87b0]) | skip)
                       by_cases c88 : ((rd_T44 t559 x89_4).f3) = 8
                       ·rw [if_pos c88] at H
                        have c88b0 : (((rd_T44 t559 x89_4).f3) == 8) = true := beq_iff_eq.mpr c88
                        have c88b1 : (((rd_T44 t559 x89_4).f3) != 8) = false := bne_eq_false_iff_eq.mpr c88
                        clear c88
                        by_cases c89 : ((rd_T44 t559 x89_4).f4) = 0
                        ·rw [if_pos c89] at H
                         have c89b0 : (((rd_T44 t559 x89_4).f4) == 0) = true := beq_iff_eq.mpr c89
                         have c89b1 : (((rd_T44 t559 x89_4).f4) != 0) = false := bne_eq_false_iff_eq.mpr c89
                         clear c89
                         by_cases c90 : ((rd_T44 t559 x89_4).f3) = 4
                         ·rw [if_pos c90] at H
                          exact absurd H (by simp)
                         ·rw [if_neg c90] at H
                          have c90b0 : (((rd_T44 t559 x89_4).f3) == 4) = false := beq_eq_false_iff_ne.mpr c90
                          have c90b1 : (((rd_T44 t559 x89_4).f3) != 4) = true := bne_iff_ne.mpr c90
                          have H' := asd H
                          clear H
                          have hnb91 := NB564_497.out
                          have hnc91 := NB497_564.out
                          have hnb92 := NB564_498.out
                          have hnc92 := NB498_564.out
                          have hnb93 := NB564_517.out
                          have hnc93 := NB517_564.out
                          have hcz94_0 : wc.cell? ⟨gb564, 0, none⟩ = some (.int .i64 ((rd_T44 t559 x89_4).f0)) := (blk_cell BK564.out 0).trans rfl
                          have hcz94_1 : wc.cell? ⟨gb564, 1, none⟩ = some (.int .i64 ((rd_T44 t559 x89_4).f1)) := (blk_cell BK564.out 1).trans rfl
                          have hcz94_2 : wc.cell? ⟨gb564, 2, none⟩ = some (.int .i64 ((rd_T44 t559 x89_4).f2.f0)) := (blk_cell BK564.out 2).trans rfl
                          have hcz94_3 : wc.cell? ⟨gb564, 3, none⟩ = some (.int .i64 ((rd_T44 t559 x89_4).f2.f1)) := (blk_cell BK564.out 3).trans rfl
                          have hcz94_4 : wc.cell? ⟨gb564, 4, none⟩ = some (.int .u64 ((rd_T44 t559 x89_4).f2.f2)) := (blk_cell BK564.out 4).trans rfl
                          have hcz94_5 : wc.cell? ⟨gb564, 5, none⟩ = some (.int .u16 ((rd_T44 t559 x89_4).f2.f3)) := (blk_cell BK564.out 5).trans rfl
                          have hcz94_6 : wc.cell? ⟨gb564, 6, none⟩ = some (.int .i64 ((rd_T44 t559 x89_4).f3)) := (blk_cell BK564.out 6).trans rfl
                          have hcz94_7 : wc.cell? ⟨gb564, 7, none⟩ = some (.int .i64 ((rd_T44 t559 x89_4).f4)) := (blk_cell BK564.out 7).trans rfl
                          have hfz94_0 := blk_frozen BK564.out 0
                          have hfz94_1 := blk_frozen BK564.out 1
                          have hfz94_2 := blk_frozen BK564.out 2
                          have hfz94_3 := blk_frozen BK564.out 3
                          have hfz94_4 := blk_frozen BK564.out 4
                          have hfz94_5 := blk_frozen BK564.out 5
                          have hfz94_6 := blk_frozen BK564.out 6
                          have hfz94_7 := blk_frozen BK564.out 7
                          go_wp2
                          go_meet
                          case rel => exact ⟨_, ((((rd_T44 t559 x89_4).f3) == 9)), (by first | rfl | (simp; done) | (simp [*]; done)), H', ⟨by have := HK1.out; have := HJ30.out; have := HJ39.out; have := HK4.out; have := HJ59.out; first | omega | exact Nat.le_refl _⟩, re HO_14, re HO_87, re HO_518011, be BK497, be BK498, be BK517, be BK564, ⟨bse HB⟩⟩
                        ·rw [if_neg c89] at H
                         exact absurd H (by simp)
                       ·rw [if_neg c88] at H
                        have c88b0 : (((rd_T44 t559 x89_4).f3) == 8) = false := beq_eq_false_iff_ne.mpr c88
                        have c88b1 : (((rd_T44 t559 x89_4).f3) != 8) = true := bne_iff_ne.mpr c88
                        by_cases c95 : ((rd_T44 t559 x89_4).f3) = 4
                        ·rw [if_pos c95] at H
                         exact absurd H (by simp)
                        ·rw [if_neg c95] at H
                         have c95b0 : (((rd_T44 t559 x89_4).f3) == 4) = false := beq_eq_false_iff_ne.mpr c95
                         have c95b1 : (((rd_T44 t559 x89_4).f3) != 4) = true := bne_iff_ne.mpr c95
                         have H' := asd H
                         clear H
                         have hnb96 := NB564_497.out
                         have hnc96 := NB497_564.out
                         have hnb97 := NB564_498.out
                         have hnc97 := NB498_564.out
                         have hnb98 := NB564_517.out
                         have hnc98 := NB517_564.out
                         have hcz99_0 : wc.cell? ⟨gb564, 0, none⟩ = some (.int .i64 ((rd_T44 t559 x89_4).f0)) := (blk_cell BK564.out 0).trans rfl
                         have hcz99_1 : wc.cell? ⟨gb564, 1, none⟩ = some (.int .i64 ((rd_T44 t559 x89_4).f1)) := (blk_cell BK564.out 1).trans rfl
                         have hcz99_2 : wc.cell? ⟨gb564, 2, none⟩ = some (.int .i64 ((rd_T44 t559 x89_4).f2.f0)) := (blk_cell BK564.out 2).trans rfl
                         have hcz99_3 : wc.cell? ⟨gb564, 3, none⟩ = some (.int .i64 ((rd_T44 t559 x89_4).f2.f1)) := (blk_cell BK564.out 3).trans rfl
                         have hcz99_4 : wc.cell? ⟨gb564, 4, none⟩ = some (.int .u64 ((rd_T44 t559 x89_4).f2.f2)) := (blk_cell BK564.out 4).trans rfl
                         have hcz99_5 : wc.cell? ⟨gb564, 5, none⟩ = some (.int .u16 ((rd_T44 t559 x89_4).f2.f3)) := (blk_cell BK564.out 5).trans rfl
                         have hcz99_6 : wc.cell? ⟨gb564, 6, none⟩ = some (.int .i64 ((rd_T44 t559 x89_4).f3)) := (blk_cell BK564.out 6).trans rfl
                         have hcz99_7 : wc.cell? ⟨gb564, 7, none⟩ = some (.int .i64 ((rd_T44 t559 x89_4).f4)) := (blk_cell BK564.out 7).trans rfl
                         have hfz99_0 := blk_frozen BK564.out 0
                         have hfz99_1 := blk_frozen BK564.out 1
                         have hfz99_2 := blk_frozen BK564.out 2
                         have hfz99_3 := blk_frozen BK564.out 3
                         have hfz99_4 := blk_frozen BK564.out 4
                         have hfz99_5 := blk_frozen BK564.out 5
                         have hfz99_6 := blk_frozen BK564.out 6
                         have hfz99_7 := blk_frozen BK564.out 7
                         go_wp2
                         go_meet
                         case rel => exact ⟨_, ((((rd_T44 t559 x89_4).f3) == 9)), (by first | rfl | (simp; done) | (simp [*]; done)), H', ⟨by have := HK1.out; have := HJ30.out; have := HJ39.out; have := HK4.out; have := HJ59.out; first | omega | exact Nat.le_refl _⟩, re HO_14, re HO_87, re HO_518011, be BK497, be BK498, be BK517, be BK564, ⟨bse HB⟩⟩
                      ·rw [if_neg c87] at H
                       have c87b0 : (((rd_T44 t559 x89_4).f0) == 3) = false := beq_eq_false_iff_ne.mpr c87
                       have c87b1 : (((rd_T44 t559 x89_4).f0) != 3) = true := bne_iff_ne.mpr c87
                       (first | rw [c87b0] | (simp only [i64_w, i32_w]; rw [c87b0]) | skip)
                       have H' := asd H
                       clear H
                       have hnb100 := NB564_497.out
                       have hnc100 := NB497_564.out
                       have hnb101 := NB564_498.out
                       have hnc101 := NB498_564.out
                       have hnb102 := NB564_517.out
                       have hnc102 := NB517_564.out
                       have hcz103_0 : wc.cell? ⟨gb564, 0, none⟩ = some (.int .i64 ((rd_T44 t559 x89_4).f0)) := (blk_cell BK564.out 0).trans rfl
                       have hcz103_1 : wc.cell? ⟨gb564, 1, none⟩ = some (.int .i64 ((rd_T44 t559 x89_4).f1)) := (blk_cell BK564.out 1).trans rfl
                       have hcz103_2 : wc.cell? ⟨gb564, 2, none⟩ = some (.int .i64 ((rd_T44 t559 x89_4).f2.f0)) := (blk_cell BK564.out 2).trans rfl
                       have hcz103_3 : wc.cell? ⟨gb564, 3, none⟩ = some (.int .i64 ((rd_T44 t559 x89_4).f2.f1)) := (blk_cell BK564.out 3).trans rfl
                       have hcz103_4 : wc.cell? ⟨gb564, 4, none⟩ = some (.int .u64 ((rd_T44 t559 x89_4).f2.f2)) := (blk_cell BK564.out 4).trans rfl
                       have hcz103_5 : wc.cell? ⟨gb564, 5, none⟩ = some (.int .u16 ((rd_T44 t559 x89_4).f2.f3)) := (blk_cell BK564.out 5).trans rfl
                       have hcz103_6 : wc.cell? ⟨gb564, 6, none⟩ = some (.int .i64 ((rd_T44 t559 x89_4).f3)) := (blk_cell BK564.out 6).trans rfl
                       have hcz103_7 : wc.cell? ⟨gb564, 7, none⟩ = some (.int .i64 ((rd_T44 t559 x89_4).f4)) := (blk_cell BK564.out 7).trans rfl
                       have hfz103_0 := blk_frozen BK564.out 0
                       have hfz103_1 := blk_frozen BK564.out 1
                       have hfz103_2 := blk_frozen BK564.out 2
                       have hfz103_3 := blk_frozen BK564.out 3
                       have hfz103_4 := blk_frozen BK564.out 4
                       have hfz103_5 := blk_frozen BK564.out 5
                       have hfz103_6 := blk_frozen BK564.out 6
                       have hfz103_7 := blk_frozen BK564.out 7
                       go_wp2
                       go_meet
                       case rel => exact ⟨_, (false), (by first | rfl | (simp; done) | (simp [*]; done)), H', ⟨by have := HK1.out; have := HJ30.out; have := HJ39.out; have := HK4.out; have := HJ59.out; first | omega | exact Nat.le_refl _⟩, re HO_14, re HO_87, re HO_518011, be BK497, be BK498, be BK517, be BK564, ⟨bse HB⟩⟩
                     case rest =>
                      clear HC86
                      try clear c1
                      try clear p2
                      try clear c5
                      try clear p5
                      try clear q5
                      try clear hx5
                      try clear c6
                      try clear p6
                      try clear c7
                      try clear c8
                      try clear c9
                      try clear c10
                      try clear p54
                      try clear q54
                      try clear hx54
                      try clear p56
                      try clear q56
                      try clear hx56
                      try clear c57
                      try clear c57b0
                      try clear c58
                      try clear c58b0
                      try clear c59
                      try clear c59b0
                      try clear c62
                      try clear c63
                      try clear c64
                      try clear p64
                      try clear c66
                      try clear c66b0
                      try clear c66b1
                      try clear c68
                      try clear c68b0
                      try clear c77
                      try clear c78
                      try clear c79
                      try clear c80
                      try clear c82
                      try clear c83
                      try clear c84
                      try clear c87
                      try clear c87b0
                      try clear c87b1
                      try clear c88
                      try clear c88b0
                      try clear c88b1
                      try clear c89
                      try clear c89b0
                      try clear c89b1
                      try clear c90
                      try clear c90b0
                      try clear c90b1
                      try clear c91
                      try clear c92
                      try clear c93
                      try clear c95
                      try clear c95b0
                      try clear c95b1
                      try clear c96
                      try clear c97
                      try clear c98
                      try clear c100
                      try clear c101
                      try clear c102
                      try clear hcz103_0
                      try clear hcz103_1
                      try clear hcz103_2
                      try clear hcz103_3
                      try clear hcz103_4
                      try clear hcz103_5
                      try clear hcz103_6
                      try clear hcz103_7
                      try clear hcz54
                      try clear hcz65_0
                      try clear hcz65_1
                      try clear hcz65_2
                      try clear hcz65_3
                      try clear hcz65_4
                      try clear hcz65_5
                      try clear hcz65_6
                      try clear hcz65_7
                      try clear hcz81_0
                      try clear hcz81_1
                      try clear hcz81_2
                      try clear hcz81_3
                      try clear hcz81_4
                      try clear hcz81_5
                      try clear hcz81_6
                      try clear hcz81_7
                      try clear hcz85
                      try clear hcz94_0
                      try clear hcz94_1
                      try clear hcz94_2
                      try clear hcz94_3
                      try clear hcz94_4
                      try clear hcz94_5
                      try clear hcz94_6
                      try clear hcz94_7
                      try clear hcz99_0
                      try clear hcz99_1
                      try clear hcz99_2
                      try clear hcz99_3
                      try clear hcz99_4
                      try clear hcz99_5
                      try clear hcz99_6
                      try clear hcz99_7
                      try clear hfz103_0
                      try clear hfz103_1
                      try clear hfz103_2
                      try clear hfz103_3
                      try clear hfz103_4
                      try clear hfz103_5
                      try clear hfz103_6
                      try clear hfz103_7
                      try clear hcz16
                      try clear hfz17_0
                      try clear hfz17_1
                      try clear hfz17_2
                      try clear hcz22
                      try clear hcz24
                      try clear hcz26
                      try clear hcz28
                      try clear hcz44
                      try clear hcz46
                      try clear hcz49
                      try clear hcz54
                      try clear hfz65_0
                      try clear hfz65_1
                      try clear hfz65_2
                      try clear hfz65_3
                      try clear hfz65_4
                      try clear hfz65_5
                      try clear hfz65_6
                      try clear hfz65_7
                      try clear hfz81_0
                      try clear hfz81_1
                      try clear hfz81_2
                      try clear hfz81_3
                      try clear hfz81_4
                      try clear hfz81_5
                      try clear hfz81_6
                      try clear hfz81_7
                      try clear hcz85
                      try clear hfz94_0
                      try clear hfz94_1
                      try clear hfz94_2
                      try clear hfz94_3
                      try clear hfz94_4
                      try clear hfz94_5
                      try clear hfz94_6
                      try clear hfz94_7
                      try clear hfz99_0
                      try clear hfz99_1
                      try clear hfz99_2
                      try clear hfz99_3
                      try clear hfz99_4
                      try clear hfz99_5
                      try clear hfz99_6
                      try clear hfz99_7
                      try clear hx541_0
                      try clear hx542_0
                      try clear hx563_0
                      try clear hx563_1
                      try clear hx563_2
                      try clear hx563_3
                      try clear hx563_4
                      try clear hx563_5
                      try clear hx563_6
                      try clear hx563_7
                      try clear p2
                      try clear p5
                      try clear p54
                      try clear p541
                      try clear p542
                      try clear p56
                      try clear p563
                      try clear p6
                      try clear p64
                      try clear q5
                      try clear q54
                      try clear q541
                      try clear q542
                      try clear q56
                      try clear q563
                      obtain ⟨kq, x140_85, rfl, HA, HJ85, HO_14, HO_87, HO_518011, BK497, BK498, BK517, BK564, HB⟩ := hcut
                      cases kq with
                      | zero => exact absurd HA.out (by simp [palletlaw13_NodeSends.j5])
                      | succ kj85 =>
                       have H := HA.out
                       clear HA
                       simp only [palletlaw13_NodeSends.j5] at H
                       by_cases c104 : x140_85 = true
                       ·subst c104
                        have H1 : (none) = some r := by rw [if_pos rfl] at H; exact H
                        clear H
                        have H := H1
                        clear H1
                        exact absurd H (by simp)
                       ·replace c104 := Bool.eq_false_iff.mpr c104
                        subst c104
                        have H1 : (palletlaw13_NodeSends.l1 kj85 a1 a4 true t559 x15_59 (rd t538 0) (wrap64 ((((Int.tmod a4 4) + 1) % 256) * (wrap64 (a0_0 + 1)))) x55_1 t559 (t559.length : Int) (wrap64 (x89_4 + 1)) a0_0 a0_1 a0_2 a0_3 a0_4 t543 t544 t545 t546 t547 t548 t549 t550 t551 t552 t553 t554 t557 t558) = some r := by rw [if_neg (show ¬ (false = true) by decide)] at H; exact H
                        clear H
                        have H := H1
                        clear H1
                        have H' := asd H
                        clear H
                        go_wp2
                        go_roundg kj85
                        case measure => have := HK1.out; have := HJ30.out; have := HJ39.out; have := HK4.out; have := HJ59.out; have := HJ85.out; omega
                        case rel => exact ⟨(x15_59), (wrap64 (x89_4 + 1)), (by first | rfl | (simp; done) | (simp [*]; done)), (by first | rfl | (simp; done) | (simp [*]; done)), H', ⟨by have := HK1.out; have := HJ30.out; have := HJ39.out; have := HK4.out; have := HJ59.out; have := HJ85.out; omega⟩, ⟨by (with_reducible repeat (first | apply Kd.R_alloc | apply Kd.R_drewN | apply Kd.R_drew)); exact Kd.R_mono HO_14.out (fun _ hk => trivial)⟩, ⟨by (with_reducible repeat (first | apply Kd.R_alloc | apply Kd.R_drewN | apply Kd.R_drew)); exact Kd.R_mono HO_87.out (fun _ hk => trivial)⟩, re HO_518011, be BK497, be BK498, be BK517, ⟨bse HB⟩⟩
                  ·rw [if_neg c59] at H
                   exact absurd H (by simp)
                 ·rw [if_neg c58] at H
                  exact absurd H (by simp)
                ·rw [if_neg c57] at H
                 have c57b0 : decide (x89_4 < (t559.length : Int)) = false := decide_eq_false c57
                 clear c57
                 have H' := asd H
                 clear H
                 go_wp2
                 go_roundg k4
                 case measure => have := HK1.out; have := HJ30.out; have := HJ39.out; have := HK4.out; omega
                 case rel => exact ⟨(t559), (x15_4), ((rd t538 0)), (wrap64 (x55_1 + 1)), (t543), (t544), (t545), (t546), (t547), (t548), (t549), (t550), (t551), (t552), (t553), (t554), (t557), (t558), (.slice Ao50 t554.length co50), (by first | rfl | (simp; done) | (simp [*]; done)), (by first | rfl | (simp; done) | (simp [*]; done)), (by first | rfl | (simp; done) | (simp [*]; done)), H', ⟨by have := HK1.out; have := HJ30.out; have := HJ39.out; have := HK4.out; omega⟩, re HO_14, re HO_518011, be BK497, be BK498, be BK517, ⟨bse HB⟩⟩
          ·rw [if_neg c38] at H
           exact absurd H (by simp)
      ·rw [if_neg c29] at H
       have c29b0 : decide (x55_1 < (wrap64 ((((Int.tmod a4 4) + 1) % 256) * (wrap64 (a0_0 + 1))))) = false := decide_eq_false c29
       clear c29
       have H1 : (if x15_1 ≥ 1 then (some (decide (x15_1 ≤ ((((Int.tmod a4 4) + 1) % 256) + 1)))) else (none)) = some r := by first | (rw [if_pos rfl] at H; exact H) | exact H
       clear H
       have H := H1
       clear H1
       by_cases c105 : x15_1 ≥ 1
       ·rw [if_pos c105] at H
        have c105b0 : decide (1 ≤ x15_1) = true := decide_eq_true c105
        clear c105
        obtain rfl := Option.some.inj H
        go_wp2
        go_ret
        exact ⟨by first | rfl | (simp [errW_none, errW_some] <;> rfl) | (simp [*, errW_none, errW_some] <;> rfl), bse HB⟩
       ·rw [if_neg c105] at H
        exact absurd H (by simp)
   ·rw [if_neg c11] at H
    exact absurd H (by simp)
  ·rw [if_neg c9] at H
   have c9b0 : (t516 == 0) = false := beq_eq_false_iff_ne.mpr c9
   have c9b1 : (t516 != 0) = true := bne_iff_ne.mpr c9
   obtain rfl := Option.some.inj H
   go_enter Try.func3, Try.ntmps3
   go_wp2_with (first | ((with_reducible refine gate_dst (N := 5) rfl ?_); refine bx (N := 5) (cs := #[.int .i64 a0_0, .int .i64 a0_1, .int .i64 a0_2, .int .i64 a0_3, .int .i64 a0_4]) (t := 23) ?_; intro gb497 hg w106 hbox hb; have BK497 := asd (hbox); have GW497 := bz HB hg; have GE497 := bz HB hg; replace HB := bs HB hb; clear hb hbox hg) | ((with_reducible refine gate_dst (N := 7) rfl ?_); refine bx (N := 7) (cs := #[.int .i64 a2_0, .int .i64 a2_1, .int .i64 a2_2]) (t := 25) ?_; intro gb498 hg w107 hbox hb; have BK498 := asd (hbox); have GW498 := bz HB hg; have GE498 := bz HB hg; have NB497_498 := nl BK497 hg; have NB498_497 := nr BK497 hg; replace BK497 := bb BK497 hb; replace HB := bs HB hb; clear hb hbox hg) | ((with_reducible refine gate_callee (f := 4) rfl ?_); refine gL (some 21) Try.func4 #[] ?_; (with_reducible refine (palletlaw13_live.calls k  true _ A6.out).mono ?_); rintro e w108 ⟨rfl, hb⟩; refine ⟨_, rfl, ?_⟩; replace BK497 := bb BK497 hb; replace BK498 := bb BK498 hb; replace HB := bs HB hb; (try clear hb); have hnb109 := NB497_498.out; have hnc109 := NB498_497.out; have hcz110 := cf5 BK497; have hcz111_0 : w108.cell? ⟨gb498, 0, none⟩ = some (.int .i64 a2_0) := (blk_cell BK498.out 0).trans rfl; have hcz111_1 : w108.cell? ⟨gb498, 1, none⟩ = some (.int .i64 a2_1) := (blk_cell BK498.out 1).trans rfl; have hcz111_2 : w108.cell? ⟨gb498, 2, none⟩ = some (.int .i64 a2_2) := (blk_cell BK498.out 2).trans rfl; have hfz111_0 := blk_frozen BK498.out 0; have hfz111_1 := blk_frozen BK498.out 1; have hfz111_2 := blk_frozen BK498.out 2) | ((with_reducible refine gate_callee (f := 5) rfl ?_); refine gL (some 30) Try.func5 #[.agg #[.int .i64 a0_0, .int .i64 a0_1, .int .i64 a0_2, .int .i64 a0_3, .int .i64 a0_4], .int .i64 a1, .agg #[.int .i64 a2_0, .int .i64 a2_1, .int .i64 a2_2]] ?_; (with_reducible refine (node_New.calls k a0_0 a0_1 a0_2 a0_3 a0_4 a1 a2_0 a2_1 a2_2 t500 t501 t502 t503 t504 t505 t506 t507 t508 t509 t510 t511 t514 t515 t516 _ A8.out).mono ?_); rintro e w112 ⟨v512, rfl, ho0, hb⟩; refine ⟨_, rfl, ?_⟩; have HO513 := rl ho0 HB; replace BK497 := bb BK497 hb; replace BK498 := bb BK498 hb; replace HB := bs HB hb; (try clear hb); (try clear ho0)) | ((with_reducible refine gate_dst (N := 12) rfl ?_); refine bx (N := 12) (cs := #[.int .i64 0, .int .i64 0, .int .u64 0, .int .i64 0, .int .i64 0, .int .i64 0, .int .i64 0, .int .i64 0, .int .u16 0, .int .i64 0, .int .i64 0, .slice none 0 0, .bool false, .int .i64 0]) (t := 33) ?_; intro gb517 hg w113 hbox hb; have BK517 := asd (hbox); have GW517 := bz HB hg; have GE517 := bz HB hg; have NB497_517 := nl BK497 hg; have NB517_497 := nr BK497 hg; have NB498_517 := nl BK498 hg; have NB517_498 := nr BK498 hg; replace HO513 := rb HO513 hb; replace BK497 := bb BK497 hb; replace BK498 := bb BK498 hb; replace HB := bs HB hb; clear hb hbox hg; have hnb114 := NB517_497.out; have hnc114 := NB497_517.out; have hnb115 := NB517_498.out; have hnc115 := NB498_517.out; have hcz116 := cf14 BK517; obtain ⟨Ao117, co117, eo117⟩ := Kd.R_slice HO513.out; subst eo117))
   go_ret
   exact ⟨by first | rfl | (simp [errW_none, errW_some] <;> rfl) | (simp [*, errW_none, errW_some] <;> rfl), bse HB⟩
 ·replace c7 := Bool.eq_false_iff.mpr c7
  subst c7
  have H1 : (none) = some r := by rw [if_neg (show ¬ (false = true) by decide)] at H; exact H
  clear H
  have H := H1
  clear H1
  exact absurd H (by simp)

end Go.Proofs.Ytcofclkgfandfaa.Print
