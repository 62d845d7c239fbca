-- PRINTED by print.py (a twelfth state) out of the translation. Not trusted: Lean checks it.
import Derived.Test.YtcofclkgfandfaaGreatSq
import Derived.Test.YtcofclkgfandfaaGreatPrint0
import Derived.Test.YtcofclkgfandfaaGreatPrint11
import Derived.Test.YtcofclkgfandfaaGreatPrint12
import Derived.Test.YtcofclkgfandfaaGreatPrint25
import Derived.Test.YtcofclkgfandfaaGreatPrint36
import Derived.Test.YtcofclkgfandfaaGreatPrint39
namespace Go.Proofs.YtcofclkgfandfaaGreat.Print
open Go.RowKit Go.Proofs.YtcofclkgfandfaaGreatW.PrintWords Go.Proofs.YtcofclkgfandfaaGreatW.PrintLast Go.Proofs.YtcofclkgfandfaaGreatW.PrintMore Go.Proofs.YtcofclkgfandfaaGreatX
attribute [local go_sem] str_lss str_geq max2_int min2_int max_two min_two max_three min_three max_four min_four   -- for this text's walks alone
set_option linter.unusedVariables false
set_option linter.unusedSimpArgs false

/-! ### palletlaw13_NodeJoins: function 4 -/
mutual
def palletlaw13_NodeJoins.j0 : Nat → Int → Int → Bool → List Int → Bool → Int → Int → Int → Int → Int → Int → Int → Int → Int → Int → Int → Int → Int → Int → Int → Int → Int → Int → Int → Int → List Int → Bool → Int → Option (Bool)
 | 0, _, _, _, _, _, _, _, _, _, _, _, _, _, _, _, _, _, _, _, _, _, _, _, _, _, _, _, _ => none
 | k + 1, x1, x4, x11, x14, x46, x685000, x685001, x685002, x685003, x685004, x687000, x687001, x687002, x687003, x706000, x706001, x706002, x706003, x706004, x706005, x706006, x706007, x706008, x706009, x706010, x706011, x706012, x706013 => if x46 = true then (some x11) else ((node_Wake.f k x685000 x685001 x685002 x685003 x685004 x706000 x706001 x706002 x706003 x706004 x706005 x706006 x706007 x706008 x706009 x706010 x706011 x706012 x706013 0).bind fun bt710 => ((node_Hear.f k x685000 x685001 x685002 x685003 x685004 bt710.1 bt710.2.1 bt710.2.2.1 bt710.2.2.2.1 bt710.2.2.2.2.1 bt710.2.2.2.2.2.1 bt710.2.2.2.2.2.2.1 bt710.2.2.2.2.2.2.2.1 bt710.2.2.2.2.2.2.2.2.1 bt710.2.2.2.2.2.2.2.2.2.1 bt710.2.2.2.2.2.2.2.2.2.2.1 bt710.2.2.2.2.2.2.2.2.2.2.2.1 bt710.2.2.2.2.2.2.2.2.2.2.2.2.1 bt710.2.2.2.2.2.2.2.2.2.2.2.2.2.1 (wrap64 (x4 + 1)) x4 x14 false).bind fun bt730 => (if bt710.2.2.2.2.2.2.2.2.2.2.2.2.2.2.2 = 0 then (palletlaw13_NodeJoins.j1 k x1 x4 x11 x14 bt730.2.2.2.2.2.2.2.2.2.2.2.2.2.2.1 (bt730.2.2.2.2.2.2.2.2.2.2.2.2.2.2.2 != 0) x685000 x685001 x685002 x685003 x685004 x687000 x687001 x687002 x687003 bt730.1 bt730.2.1 bt730.2.2.1 bt730.2.2.2.1 bt730.2.2.2.2.1 bt730.2.2.2.2.2.1 bt730.2.2.2.2.2.2.1 bt730.2.2.2.2.2.2.2.1 bt730.2.2.2.2.2.2.2.2.1 bt730.2.2.2.2.2.2.2.2.2.1 bt730.2.2.2.2.2.2.2.2.2.2.1 bt730.2.2.2.2.2.2.2.2.2.2.2.1 bt730.2.2.2.2.2.2.2.2.2.2.2.2.1 bt730.2.2.2.2.2.2.2.2.2.2.2.2.2.1) else (none))))
def palletlaw13_NodeJoins.j1 : Nat → Int → Int → Bool → List Int → List (S66) → Bool → Int → Int → Int → Int → Int → Int → Int → Int → Int → Int → Int → Int → Int → Int → Int → Int → Int → Int → Int → Int → List Int → Bool → Int → Option (Bool)
 | 0, _, _, _, _, _, _, _, _, _, _, _, _, _, _, _, _, _, _, _, _, _, _, _, _, _, _, _, _, _ => none
 | k + 1, x1, x4, x11, x14, x17, x71, x685000, x685001, x685002, x685003, x685004, x687000, x687001, x687002, x687003, x751000, x751001, x751002, x751003, x751004, x751005, x751006, x751007, x751008, x751009, x751010, x751011, x751012, x751013 => if x71 = true then (none) else (if x751001 = 2 then (if x751002 = x687002 then ((frame_Has.f x751008 x687001).bind fun t754 => (if t754 = true then ((frame_Has.f x751008 x1).bind fun t755 => (if t755 = true then (none) else (if x751003 > x4 then (none) else ((palletlaw13_timers.f k x17).bind fun t756 => (palletlaw13_NodeJoins.j2 k x4 x11 x14 ((t756.length : Int) != 1) x685000 x685001 x685002 x685003 x685004 x751000 x751001 x751002 x751003 x751004 x751005 x751006 x751007 x751008 x751009 x751010 x751011 x751012 x751013))))) else (none))) else (none)) else (none))
def palletlaw13_NodeJoins.j2 : Nat → Int → Bool → List Int → Bool → Int → Int → Int → Int → Int → Int → Int → Int → Int → Int → Int → Int → Int → Int → Int → Int → List Int → Bool → Int → Option (Bool)
 | 0, _, _, _, _, _, _, _, _, _, _, _, _, _, _, _, _, _, _, _, _, _, _, _ => none
 | k + 1, x4, x11, x14, x162, x685000, x685001, x685002, x685003, x685004, x751000, x751001, x751002, x751003, x751004, x751005, x751006, x751007, x751008, x751009, x751010, x751011, x751012, x751013 => if x162 = true then (none) else ((node_Hear.f k x685000 x685001 x685002 x685003 x685004 x751000 x751001 x751002 x751003 x751004 x751005 x751006 x751007 x751008 x751009 x751010 x751011 x751012 x751013 (wrap64 (x4 + 1)) x4 x14 false).bind fun bt759 => (if x11 = true then (if bt759.2.2.2.2.2.2.2.2.2.2.2.2.2.2.2 = 0 then ((node_Same.f k x751000 x751001 x751002 x751003 x751004 x751005 x751006 x751007 x751008 x751009 x751010 x751011 x751012 x751013 bt759.1 bt759.2.1 bt759.2.2.1 bt759.2.2.2.1 bt759.2.2.2.2.1 bt759.2.2.2.2.2.1 bt759.2.2.2.2.2.2.1 bt759.2.2.2.2.2.2.2.1 bt759.2.2.2.2.2.2.2.2.1 bt759.2.2.2.2.2.2.2.2.2.1 bt759.2.2.2.2.2.2.2.2.2.2.1 bt759.2.2.2.2.2.2.2.2.2.2.2.1 bt759.2.2.2.2.2.2.2.2.2.2.2.2.1 bt759.2.2.2.2.2.2.2.2.2.2.2.2.2.1).bind fun t780 => (if t780 = true then (some ((bt759.2.2.2.2.2.2.2.2.2.2.2.2.2.2.1.length : Int) == 0)) else (none))) else (none)) else (none)))
end
def palletlaw13_NodeJoins.f (k : Nat) (a0_0 : Int) (a0_1 : Int) (a0_2 : Int) (a0_3 : Int) (a0_4 : Int) (a1 : Int) (a2_0 : Int) (a2_1 : Int) (a2_2 : Int) (a3_0 : Int) (a3_1 : Int) (a3_2 : Int) (a3_3 : Int) (a4 : Int) : Option (Bool) := (palletlaw13_live.f k).bind fun t687 => (if t687 = true then ((node_New.f k a0_0 a0_1 a0_2 a0_3 a0_4 a1 a2_0 a2_1 a2_2).bind fun bt688 => ((frame_Write.f k a3_0 a3_1 a3_2 a3_3).bind fun bt706 => (if bt688.2.2.2.2.2.2.2.2.2.2.2.2.2.2 = 0 then (palletlaw13_NodeJoins.j0 k a1 (Go.bits .and .i64 a4 1125899906842623) t687 bt706.1 (bt706.2 != 0) a0_0 a0_1 a0_2 a0_3 a0_4 a3_0 a3_1 a3_2 a3_3 bt688.1 bt688.2.1 bt688.2.2.1 bt688.2.2.2.1 bt688.2.2.2.2.1 bt688.2.2.2.2.2.1 bt688.2.2.2.2.2.2.1 bt688.2.2.2.2.2.2.2.1 bt688.2.2.2.2.2.2.2.2.1 bt688.2.2.2.2.2.2.2.2.2.1 bt688.2.2.2.2.2.2.2.2.2.2.1 bt688.2.2.2.2.2.2.2.2.2.2.2.1 bt688.2.2.2.2.2.2.2.2.2.2.2.2.1 bt688.2.2.2.2.2.2.2.2.2.2.2.2.2.1) else (palletlaw13_NodeJoins.j0 k a1 (Go.bits .and .i64 a4 1125899906842623) t687 bt706.1 true a0_0 a0_1 a0_2 a0_3 a0_4 a3_0 a3_1 a3_2 a3_3 bt688.1 bt688.2.1 bt688.2.2.1 bt688.2.2.2.1 bt688.2.2.2.2.1 bt688.2.2.2.2.2.1 bt688.2.2.2.2.2.2.1 bt688.2.2.2.2.2.2.2.1 bt688.2.2.2.2.2.2.2.2.1 bt688.2.2.2.2.2.2.2.2.2.1 bt688.2.2.2.2.2.2.2.2.2.2.1 bt688.2.2.2.2.2.2.2.2.2.2.2.1 bt688.2.2.2.2.2.2.2.2.2.2.2.2.1 bt688.2.2.2.2.2.2.2.2.2.2.2.2.2.1)))) else (none))
set_option maxHeartbeats 8000000 in
set_option maxRecDepth 100000 in
theorem palletlaw13_NodeJoins.calls (k : Nat) (a0_0 : Int) (a0_1 : Int) (a0_2 : Int) (a0_3 : Int) (a0_4 : Int) (a1 : Int) (a2_0 : Int) (a2_1 : Int) (a2_2 : Int) (a3_0 : Int) (a3_1 : Int) (a3_2 : Int) (a3_3 : Int) (a4 : Int) (r : Bool) (w : World) (hr_ : Aside0 (r = true)) (h : palletlaw13_NodeJoins.f k a0_0 a0_1 a0_2 a0_3 a0_4 a1 a2_0 a2_1 a2_2 a3_0 a3_1 a3_2 a3_3 a4 = some r) :
  Calls Tryz.prog 4 #[.agg #[.int .i64 a0_0, .int .i64 a0_1, .int .i64 a0_2, .int .i64 a0_3, .int .i64 a0_4], .int .i64 a1, .agg #[.int .i64 a2_0, .int .i64 a2_1, .int .i64 a2_2], .agg #[.int .i64 a3_0, .int .i64 a3_1, .int .u64 a3_2, .int .u16 a3_3], .int .i64 a4] w fun e w' => e = .returned (.bool r) ∧ Below w.heap.size w w' := by
 have hu23 := Tryz.underlying23
 have hu26 := Tryz.underlying26
 have hu43 := Tryz.underlying43
 have hu32 := Tryz.underlying32
 have HB := asd (Below.refl w.heap.size w)
 have H : ((palletlaw13_live.f k).bind fun t687 => (if t687 = true then ((node_New.f k a0_0 a0_1 a0_2 a0_3 a0_4 a1 a2_0 a2_1 a2_2).bind fun bt688 => ((frame_Write.f k a3_0 a3_1 a3_2 a3_3).bind fun bt706 => (if bt688.2.2.2.2.2.2.2.2.2.2.2.2.2.2 = 0 then (palletlaw13_NodeJoins.j0 k a1 (Go.bits .and .i64 a4 1125899906842623) t687 bt706.1 (bt706.2 != 0) a0_0 a0_1 a0_2 a0_3 a0_4 a3_0 a3_1 a3_2 a3_3 bt688.1 bt688.2.1 bt688.2.2.1 bt688.2.2.2.1 bt688.2.2.2.2.1 bt688.2.2.2.2.2.1 bt688.2.2.2.2.2.2.1 bt688.2.2.2.2.2.2.2.1 bt688.2.2.2.2.2.2.2.2.1 bt688.2.2.2.2.2.2.2.2.2.1 bt688.2.2.2.2.2.2.2.2.2.2.1 bt688.2.2.2.2.2.2.2.2.2.2.2.1 bt688.2.2.2.2.2.2.2.2.2.2.2.2.1 bt688.2.2.2.2.2.2.2.2.2.2.2.2.2.1) else (palletlaw13_NodeJoins.j0 k a1 (Go.bits .and .i64 a4 1125899906842623) t687 bt706.1 true a0_0 a0_1 a0_2 a0_3 a0_4 a3_0 a3_1 a3_2 a3_3 bt688.1 bt688.2.1 bt688.2.2.1 bt688.2.2.2.1 bt688.2.2.2.2.1 bt688.2.2.2.2.2.1 bt688.2.2.2.2.2.2.1 bt688.2.2.2.2.2.2.2.1 bt688.2.2.2.2.2.2.2.2.1 bt688.2.2.2.2.2.2.2.2.2.1 bt688.2.2.2.2.2.2.2.2.2.2.1 bt688.2.2.2.2.2.2.2.2.2.2.2.1 bt688.2.2.2.2.2.2.2.2.2.2.2.2.1 bt688.2.2.2.2.2.2.2.2.2.2.2.2.2.1)))) else (none))) = some r := h
 clear h
 replace H := Option.bind_eq_some_iff.mp H
 obtain ⟨t687, A60, H⟩ := H
 replace H : (if t687 = true then ((node_New.f k a0_0 a0_1 a0_2 a0_3 a0_4 a1 a2_0 a2_1 a2_2).bind fun bt688 => ((frame_Write.f k a3_0 a3_1 a3_2 a3_3).bind fun bt706 => (if bt688.2.2.2.2.2.2.2.2.2.2.2.2.2.2 = 0 then (palletlaw13_NodeJoins.j0 k a1 (Go.bits .and .i64 a4 1125899906842623) t687 bt706.1 (bt706.2 != 0) a0_0 a0_1 a0_2 a0_3 a0_4 a3_0 a3_1 a3_2 a3_3 bt688.1 bt688.2.1 bt688.2.2.1 bt688.2.2.2.1 bt688.2.2.2.2.1 bt688.2.2.2.2.2.1 bt688.2.2.2.2.2.2.1 bt688.2.2.2.2.2.2.2.1 bt688.2.2.2.2.2.2.2.2.1 bt688.2.2.2.2.2.2.2.2.2.1 bt688.2.2.2.2.2.2.2.2.2.2.1 bt688.2.2.2.2.2.2.2.2.2.2.2.1 bt688.2.2.2.2.2.2.2.2.2.2.2.2.1 bt688.2.2.2.2.2.2.2.2.2.2.2.2.2.1) else (palletlaw13_NodeJoins.j0 k a1 (Go.bits .and .i64 a4 1125899906842623) t687 bt706.1 true a0_0 a0_1 a0_2 a0_3 a0_4 a3_0 a3_1 a3_2 a3_3 bt688.1 bt688.2.1 bt688.2.2.1 bt688.2.2.2.1 bt688.2.2.2.2.1 bt688.2.2.2.2.2.1 bt688.2.2.2.2.2.2.1 bt688.2.2.2.2.2.2.2.1 bt688.2.2.2.2.2.2.2.2.1 bt688.2.2.2.2.2.2.2.2.2.1 bt688.2.2.2.2.2.2.2.2.2.2.1 bt688.2.2.2.2.2.2.2.2.2.2.2.1 bt688.2.2.2.2.2.2.2.2.2.2.2.2.1 bt688.2.2.2.2.2.2.2.2.2.2.2.2.2.1)))) else (none)) = some r := H
 have A6 := asd A60
 clear A60
 by_cases c7 : t687 = true
 ·subst c7
  have H1 : ((node_New.f k a0_0 a0_1 a0_2 a0_3 a0_4 a1 a2_0 a2_1 a2_2).bind fun bt688 => ((frame_Write.f k a3_0 a3_1 a3_2 a3_3).bind fun bt706 => (if bt688.2.2.2.2.2.2.2.2.2.2.2.2.2.2 = 0 then (palletlaw13_NodeJoins.j0 k a1 (Go.bits .and .i64 a4 1125899906842623) true bt706.1 (bt706.2 != 0) a0_0 a0_1 a0_2 a0_3 a0_4 a3_0 a3_1 a3_2 a3_3 bt688.1 bt688.2.1 bt688.2.2.1 bt688.2.2.2.1 bt688.2.2.2.2.1 bt688.2.2.2.2.2.1 bt688.2.2.2.2.2.2.1 bt688.2.2.2.2.2.2.2.1 bt688.2.2.2.2.2.2.2.2.1 bt688.2.2.2.2.2.2.2.2.2.1 bt688.2.2.2.2.2.2.2.2.2.2.1 bt688.2.2.2.2.2.2.2.2.2.2.2.1 bt688.2.2.2.2.2.2.2.2.2.2.2.2.1 bt688.2.2.2.2.2.2.2.2.2.2.2.2.2.1) else (palletlaw13_NodeJoins.j0 k a1 (Go.bits .and .i64 a4 1125899906842623) true bt706.1 true a0_0 a0_1 a0_2 a0_3 a0_4 a3_0 a3_1 a3_2 a3_3 bt688.1 bt688.2.1 bt688.2.2.1 bt688.2.2.2.1 bt688.2.2.2.2.1 bt688.2.2.2.2.2.1 bt688.2.2.2.2.2.2.1 bt688.2.2.2.2.2.2.2.1 bt688.2.2.2.2.2.2.2.2.1 bt688.2.2.2.2.2.2.2.2.2.1 bt688.2.2.2.2.2.2.2.2.2.2.1 bt688.2.2.2.2.2.2.2.2.2.2.2.1 bt688.2.2.2.2.2.2.2.2.2.2.2.2.1 bt688.2.2.2.2.2.2.2.2.2.2.2.2.2.1)))) = some r := by rw [if_pos rfl] at H; exact H
  clear H
  have H := H1
  clear H1
  replace H := Option.bind_eq_some_iff.mp H
  obtain ⟨⟨t688, t689, t690, t691, t692, t693, t694, t695, t696, t697, t698, t699, t702, t703, t704⟩, A80, H⟩ := H
  replace H : ((frame_Write.f k a3_0 a3_1 a3_2 a3_3).bind fun bt706 => (if t704 = 0 then (palletlaw13_NodeJoins.j0 k a1 (Go.bits .and .i64 a4 1125899906842623) true bt706.1 (bt706.2 != 0) a0_0 a0_1 a0_2 a0_3 a0_4 a3_0 a3_1 a3_2 a3_3 t688 t689 t690 t691 t692 t693 t694 t695 t696 t697 t698 t699 t702 t703) else (palletlaw13_NodeJoins.j0 k a1 (Go.bits .and .i64 a4 1125899906842623) true bt706.1 true a0_0 a0_1 a0_2 a0_3 a0_4 a3_0 a3_1 a3_2 a3_3 t688 t689 t690 t691 t692 t693 t694 t695 t696 t697 t698 t699 t702 t703))) = some r := H
  have A8 := asd A80
  clear A80
  replace H := Option.bind_eq_some_iff.mp H
  obtain ⟨⟨t706, t709⟩, A90, H⟩ := H
  replace H : (if t704 = 0 then (palletlaw13_NodeJoins.j0 k a1 (Go.bits .and .i64 a4 1125899906842623) true t706 (t709 != 0) a0_0 a0_1 a0_2 a0_3 a0_4 a3_0 a3_1 a3_2 a3_3 t688 t689 t690 t691 t692 t693 t694 t695 t696 t697 t698 t699 t702 t703) else (palletlaw13_NodeJoins.j0 k a1 (Go.bits .and .i64 a4 1125899906842623) true t706 true a0_0 a0_1 a0_2 a0_3 a0_4 a3_0 a3_1 a3_2 a3_3 t688 t689 t690 t691 t692 t693 t694 t695 t696 t697 t698 t699 t702 t703)) = some r := H
  have A9 := asd A90
  clear A90
  have HC10 := asd H
  clear H
  go_enter Tryz.func4, Tryz.ntmps4
  go_upto_region 7 with (first | ((with_reducible refine gate_dst (N := 5) rfl ?_); (try (refine gate_guard (by rfl) ?_; dsimp only)); refine bx (N := 5) (cs := #[.int .i64 a0_0, .int .i64 a0_1, .int .i64 a0_2, .int .i64 a0_3, .int .i64 a0_4]) (t := 23) ?_; intro gb684 hg w11 hbox hb; have BK684 := asd (hbox); have GW684 := bz HB hg; have GE684 := bz HB hg; replace HB := bs HB hb; clear hb hbox hg) | ((with_reducible refine gate_dst (N := 7) rfl ?_); (try (refine gate_guard (by rfl) ?_; dsimp only)); refine bx (N := 7) (cs := #[.int .i64 a2_0, .int .i64 a2_1, .int .i64 a2_2]) (t := 26) ?_; intro gb685 hg w12 hbox hb; have BK685 := asd (hbox); have GW685 := bz HB hg; have GE685 := bz HB hg; have NB684_685 := nl BK684 hg; have NB685_684 := nr BK684 hg; replace BK684 := bb BK684 hb; replace HB := bs HB hb; clear hb hbox hg) | ((with_reducible refine gate_dst (N := 8) rfl ?_); (try (refine gate_guard (by rfl) ?_; dsimp only)); refine bx (N := 8) (cs := #[.int .i64 a3_0, .int .i64 a3_1, .int .u64 a3_2, .int .u16 a3_3]) (t := 43) ?_; intro gb686 hg w13 hbox hb; have BK686 := asd (hbox); have GW686 := bz HB hg; have GE686 := bz HB hg; have NB684_686 := nl BK684 hg; have NB686_684 := nr BK684 hg; have NB685_686 := nl BK685 hg; have NB686_685 := nr BK685 hg; replace BK684 := bb BK684 hb; replace BK685 := bb BK685 hb; replace HB := bs HB hb; clear hb hbox hg) | ((with_reducible refine gate_callee (f := 7) rfl ?_); refine gL (some 24) Tryz.func7 #[] ?_; (with_reducible refine (palletlaw13_live.calls k  true _ A6.out).mono ?_); rintro e w14 ⟨rfl, hb⟩; refine ⟨_, rfl, ?_⟩; replace BK684 := bb BK684 hb; replace BK685 := bb BK685 hb; replace BK686 := bb BK686 hb; replace HB := bs HB hb; (try clear hb); have hnb15 := NB684_685.out; have hnc15 := NB685_684.out; have hnb16 := NB684_686.out; have hnc16 := NB686_684.out; have hcz17 := cf5 BK684; have hnb18 := NB685_686.out; have hnc18 := NB686_685.out; have hcz19_0 : w14.cell? ⟨gb685, 0, none⟩ = some (.int .i64 a2_0) := (blk_cell BK685.out 0).trans rfl; have hcz19_1 : w14.cell? ⟨gb685, 1, none⟩ = some (.int .i64 a2_1) := (blk_cell BK685.out 1).trans rfl; have hcz19_2 : w14.cell? ⟨gb685, 2, none⟩ = some (.int .i64 a2_2) := (blk_cell BK685.out 2).trans rfl; have hfz19_0 := blk_frozen BK685.out 0; have hfz19_1 := blk_frozen BK685.out 1; have hfz19_2 := blk_frozen BK685.out 2) | ((with_reducible refine gate_callee (f := 13) rfl ?_); refine gL (some 33) Tryz.func13 #[.agg #[.int .i64 a0_0, .int .i64 a0_1, .int .i64 a0_2, .int .i64 a0_3, .int .i64 a0_4], .int .i64 a1, .agg #[.int .i64 a2_0, .int .i64 a2_1, .int .i64 a2_2]] ?_; (with_reducible refine (node_New.calls k a0_0 a0_1 a0_2 a0_3 a0_4 a1 a2_0 a2_1 a2_2 t688 t689 t690 t691 t692 t693 t694 t695 t696 t697 t698 t699 t702 t703 t704 _ A8.out).mono ?_); rintro e w20 ⟨v700, rfl, ho0, hb⟩; refine ⟨_, rfl, ?_⟩; have HO701 := rl ho0 HB; replace BK684 := bb BK684 hb; replace BK685 := bb BK685 hb; replace BK686 := bb BK686 hb; replace HB := bs HB hb; (try clear hb); (try clear ho0)) | ((with_reducible refine gate_dst (N := 12) rfl ?_); (try (refine gate_guard (by rfl) ?_; dsimp only)); refine bx (N := 12) (cs := #[.int .i64 0, .int .i64 0, .int .u64 0, .int .i64 0, .int .i64 0, .int .i64 0, .int .i64 0, .int .i64 0, .int .u16 0, .int .i64 0, .int .i64 0, .slice none 0 0, .bool false, .int .i64 0]) (t := 32) ?_; intro gb705 hg w21 hbox hb; have BK705 := asd (hbox); have GW705 := bz HB hg; have GE705 := bz HB hg; have NB684_705 := nl BK684 hg; have NB705_684 := nr BK684 hg; have NB685_705 := nl BK685 hg; have NB705_685 := nr BK685 hg; have NB686_705 := nl BK686 hg; have NB705_686 := nr BK686 hg; replace HO701 := rb HO701 hb; replace BK684 := bb BK684 hb; replace BK685 := bb BK685 hb; replace BK686 := bb BK686 hb; replace HB := bs HB hb; clear hb hbox hg; have hnb22 := NB705_684.out; have hnc22 := NB684_705.out; have hnb23 := NB705_685.out; have hnc23 := NB685_705.out; have hnb24 := NB705_686.out; have hnc24 := NB686_705.out; have hcz25 := cf14 BK705; obtain ⟨Ao26, co26, eo26⟩ := Kd.R_slice HO701.out; subst eo26; have hcz27 := cf4 BK686) | ((with_reducible refine gate_callee (f := 14) rfl ?_); refine gL (some 38) Tryz.func14 #[.agg #[.int .i64 a3_0, .int .i64 a3_1, .int .u64 a3_2, .int .u16 a3_3]] ?_; (with_reducible refine (frame_Write.calls k a3_0 a3_1 a3_2 a3_3 t706 t709 _ A9.out).mono ?_); rintro e w28 ⟨v707, rfl, ho0, hb⟩; refine ⟨_, rfl, ?_⟩; have HO708 := rl ho0 HB; replace HO701 := rfb HO701 BK705 (by decide) (fun _ hk => hk) hb; replace BK684 := fq NB684_705 BK684 hb; replace BK685 := fq NB685_705 BK685 hb; replace BK686 := fq NB686_705 BK686 hb; replace BK705 := asd (blk_below (bp14 BK705).out hb); replace HB := bs HB hb; (try clear hb); (try clear hk); (try clear ho0)))
  (try simp only [Act.put, List.setIfInBounds_toArray, List.set_cons_zero, List.set_cons_succ])
  go_cut [46] (fun v46 wc => ∃ (kq : Nat) (x46_9 : Bool), v46 = .bool x46_9 ∧ Aside0 (palletlaw13_NodeJoins.j0 kq a1 (Go.bits .and .i64 a4 1125899906842623) true t706 x46_9 a0_0 a0_1 a0_2 a0_3 a0_4 a3_0 a3_1 a3_2 a3_3 t688 t689 t690 t691 t692 t693 t694 t695 t696 t697 t698 t699 t702 t703 = some r) ∧ Aside0 (kq ≤ k) ∧ Aside0 (Kd.R (Kd.int .u8) 5 wc w.heap.size (fun _ => True) v707 t706) ∧ Aside0 (Kd.R (Kd.int .i64) 2 wc w.heap.size (fun _ => True) (.slice Ao26 t699.length co26) t699) ∧ Aside0 (wc.heap[gb684]? = some (.cells #[.int .i64 a0_0, .int .i64 a0_1, .int .i64 a0_2, .int .i64 a0_3, .int .i64 a0_4] 23 (0, 0))) ∧ Aside0 (wc.heap[gb685]? = some (.cells #[.int .i64 a2_0, .int .i64 a2_1, .int .i64 a2_2] 26 (0, 0))) ∧ Aside0 (wc.heap[gb686]? = some (.cells #[.int .i64 a3_0, .int .i64 a3_1, .int .u64 a3_2, .int .u16 a3_3] 43 (0, 0))) ∧ Aside0 (wc.heap[gb705]? = some (.cells #[.int .i64 t688, .int .i64 t689, .int .u64 t690, .int .i64 t691, .int .i64 t692, .int .i64 t693, .int .i64 t694, .int .i64 t695, .int .u16 t696, .int .i64 t697, .int .i64 t698, (.slice Ao26 t699.length co26), .bool t702, .int .i64 t703] 32 (0, 0))) ∧ Aside0 (Below w.heap.size w wc))
  case first =>
   have H := HC10.out
   clear HC10
   by_cases c29 : t704 = 0
   ·rw [if_pos c29] at H
    have c29b0 : (t704 == 0) = true := beq_iff_eq.mpr c29
    have c29b1 : (t704 != 0) = false := bne_eq_false_iff_eq.mpr c29
    clear c29
    (first | rw [c29b0] | (simp only [i64_w, i32_w]; rw [c29b0]) | skip)
    have H' := asd H
    clear H
    go_wp2
    go_meet
    case rel => exact ⟨_, ((t709 != 0)), (by first | rfl | (simp; done) | (simp [*]; done)), H', ⟨by first | omega | exact Nat.le_refl _⟩, re HO708, re HO701, be BK684, be BK685, be BK686, be BK705, ⟨bse HB⟩⟩
   ·rw [if_neg c29] at H
    have c29b0 : (t704 == 0) = false := beq_eq_false_iff_ne.mpr c29
    have c29b1 : (t704 != 0) = true := bne_iff_ne.mpr c29
    (first | rw [c29b0] | (simp only [i64_w, i32_w]; rw [c29b0]) | skip)
    have H' := asd H
    clear H
    go_wp2
    go_meet
    case rel => exact ⟨_, (true), (by first | rfl | (simp; done) | (simp [*]; done)), H', ⟨by first | omega | exact Nat.le_refl _⟩, re HO708, re HO701, be BK684, be BK685, be BK686, be BK705, ⟨bse HB⟩⟩
  case rest =>
   clear HC10
   try clear c1
   try clear c2
   try clear p2
   try clear c4
   try clear c7
   try clear c13
   try clear c14
   try clear c15
   try clear c16
   try clear c18
   try clear c22
   try clear c23
   try clear c24
   try clear c29
   try clear c29b0
   try clear c29b1
   try clear hcz17
   try clear hcz19_0
   try clear hcz19_1
   try clear hcz19_2
   try clear hcz25
   try clear hcz27
   try clear hcz17
   try clear hfz19_0
   try clear hfz19_1
   try clear hfz19_2
   try clear hcz25
   try clear hcz27
   obtain ⟨kq, x46_9, rfl, HA, HJ9, HO_14, HO_706011, BK684, BK685, BK686, BK705, HB⟩ := hcut
   cases kq with
   | zero => exact absurd HA.out (by simp [palletlaw13_NodeJoins.j0])
   | succ kj9 =>
    have H := HA.out
    clear HA
    simp only [palletlaw13_NodeJoins.j0] at H
    by_cases c30 : x46_9 = true
    ·subst c30
     have H1 : (some true) = some r := by rw [if_pos rfl] at H; exact H
     clear H
     have H := H1
     clear H1
     obtain rfl := Option.some.inj H
     go_wp2
     go_ret
     exact ⟨by first | rfl | (simp [errW_none, errW_some] <;> rfl) | (simp [*, errW_none, errW_some] <;> rfl), bse HB⟩
    ·replace c30 := Bool.eq_false_iff.mpr c30
     subst c30
     have H1 : ((node_Wake.f kj9 a0_0 a0_1 a0_2 a0_3 a0_4 t688 t689 t690 t691 t692 t693 t694 t695 t696 t697 t698 t699 t702 t703 0).bind fun bt710 => ((node_Hear.f kj9 a0_0 a0_1 a0_2 a0_3 a0_4 bt710.1 bt710.2.1 bt710.2.2.1 bt710.2.2.2.1 bt710.2.2.2.2.1 bt710.2.2.2.2.2.1 bt710.2.2.2.2.2.2.1 bt710.2.2.2.2.2.2.2.1 bt710.2.2.2.2.2.2.2.2.1 bt710.2.2.2.2.2.2.2.2.2.1 bt710.2.2.2.2.2.2.2.2.2.2.1 bt710.2.2.2.2.2.2.2.2.2.2.2.1 bt710.2.2.2.2.2.2.2.2.2.2.2.2.1 bt710.2.2.2.2.2.2.2.2.2.2.2.2.2.1 (wrap64 ((Go.bits .and .i64 a4 1125899906842623) + 1)) (Go.bits .and .i64 a4 1125899906842623) t706 false).bind fun bt730 => (if bt710.2.2.2.2.2.2.2.2.2.2.2.2.2.2.2 = 0 then (palletlaw13_NodeJoins.j1 kj9 a1 (Go.bits .and .i64 a4 1125899906842623) true t706 bt730.2.2.2.2.2.2.2.2.2.2.2.2.2.2.1 (bt730.2.2.2.2.2.2.2.2.2.2.2.2.2.2.2 != 0) a0_0 a0_1 a0_2 a0_3 a0_4 a3_0 a3_1 a3_2 a3_3 bt730.1 bt730.2.1 bt730.2.2.1 bt730.2.2.2.1 bt730.2.2.2.2.1 bt730.2.2.2.2.2.1 bt730.2.2.2.2.2.2.1 bt730.2.2.2.2.2.2.2.1 bt730.2.2.2.2.2.2.2.2.1 bt730.2.2.2.2.2.2.2.2.2.1 bt730.2.2.2.2.2.2.2.2.2.2.1 bt730.2.2.2.2.2.2.2.2.2.2.2.1 bt730.2.2.2.2.2.2.2.2.2.2.2.2.1 bt730.2.2.2.2.2.2.2.2.2.2.2.2.2.1) else (none)))) = some r := by rw [if_neg (show ¬ (false = true) by decide)] at H; exact H
     clear H
     have H := H1
     clear H1
     replace H := Option.bind_eq_some_iff.mp H
     obtain ⟨⟨t710, t711, t712, t713, t714, t715, t716, t717, t718, t719, t720, t721, t724, t725, t726, t729⟩, A310, H⟩ := H
     replace H : ((node_Hear.f kj9 a0_0 a0_1 a0_2 a0_3 a0_4 t710 t711 t712 t713 t714 t715 t716 t717 t718 t719 t720 t721 t724 t725 (wrap64 ((Go.bits .and .i64 a4 1125899906842623) + 1)) (Go.bits .and .i64 a4 1125899906842623) t706 false).bind fun bt730 => (if t729 = 0 then (palletlaw13_NodeJoins.j1 kj9 a1 (Go.bits .and .i64 a4 1125899906842623) true t706 bt730.2.2.2.2.2.2.2.2.2.2.2.2.2.2.1 (bt730.2.2.2.2.2.2.2.2.2.2.2.2.2.2.2 != 0) a0_0 a0_1 a0_2 a0_3 a0_4 a3_0 a3_1 a3_2 a3_3 bt730.1 bt730.2.1 bt730.2.2.1 bt730.2.2.2.1 bt730.2.2.2.2.1 bt730.2.2.2.2.2.1 bt730.2.2.2.2.2.2.1 bt730.2.2.2.2.2.2.2.1 bt730.2.2.2.2.2.2.2.2.1 bt730.2.2.2.2.2.2.2.2.2.1 bt730.2.2.2.2.2.2.2.2.2.2.1 bt730.2.2.2.2.2.2.2.2.2.2.2.1 bt730.2.2.2.2.2.2.2.2.2.2.2.2.1 bt730.2.2.2.2.2.2.2.2.2.2.2.2.2.1) else (none))) = some r := H
     have A31 := asd A310
     clear A310
     replace H := Option.bind_eq_some_iff.mp H
     obtain ⟨⟨t730, t731, t732, t733, t734, t735, t736, t737, t738, t739, t740, t741, t744, t745, t746, t749⟩, A320, H⟩ := H
     replace H : (if t729 = 0 then (palletlaw13_NodeJoins.j1 kj9 a1 (Go.bits .and .i64 a4 1125899906842623) true t706 t746 (t749 != 0) a0_0 a0_1 a0_2 a0_3 a0_4 a3_0 a3_1 a3_2 a3_3 t730 t731 t732 t733 t734 t735 t736 t737 t738 t739 t740 t741 t744 t745) else (none)) = some r := H
     have A32 := asd A320
     clear A320
     have HC33 := asd H
     clear H
     have hnb34 := NB684_685.out
     have hnc34 := NB685_684.out
     have hnb35 := NB684_686.out
     have hnc35 := NB686_684.out
     have hnb36 := NB684_705.out
     have hnc36 := NB705_684.out
     have hcz37 := cf5 BK684
     have hnb38 := NB705_685.out
     have hnc38 := NB685_705.out
     have hnb39 := NB705_686.out
     have hnc39 := NB686_705.out
     have hcz40 := cf14 BK705
     go_upto_region 11 with (first | ((with_reducible refine gate_callee (f := 15) rfl ?_); refine gL (some 51) Tryz.func15 #[.agg #[.int .i64 a0_0, .int .i64 a0_1, .int .i64 a0_2, .int .i64 a0_3, .int .i64 a0_4], .agg #[.int .i64 t688, .int .i64 t689, .int .u64 t690, .int .i64 t691, .int .i64 t692, .int .i64 t693, .int .i64 t694, .int .i64 t695, .int .u16 t696, .int .i64 t697, .int .i64 t698, .slice Ao26 t699.length co26, .bool t702, .int .i64 t703], .int .i64 0] ?_; (with_reducible refine (node_Wake.calls kj9 a0_0 a0_1 a0_2 a0_3 a0_4 t688 t689 t690 t691 t692 t693 t694 t695 t696 t697 t698 _ _ t699 t702 t703 0 t710 t711 t712 t713 t714 t715 t716 t717 t718 t719 t720 t721 t724 t725 t726 t729 _ ?side1 ?side2 A31.out).mono ?_); (case side1 => exact cr (Kd.R_reads' HO_706011.out).2.2); (case side2 => exact (Kd.R_reads' HO_706011.out).2.1); rintro e w41 ⟨v722, v727, rfl, ho0, ho1, hb⟩; refine ⟨_, rfl, ?_⟩; have HO723 := asd (Kd.R_lower (Kd.R_new' ho0 (Kd.R_lt (re HO_706011).out)) (below_size (bse HB))); have HO728 := rl ho1 HB; replace HO_14 := rb HO_14 hb; replace HO_706011 := asd (Kd.R_elder' (re HO_706011).out (Kd.R_base ho0) hb); replace BK684 := bb BK684 hb; replace BK685 := bb BK685 hb; replace BK686 := bb BK686 hb; replace BK705 := bb BK705 hb; replace HB := bs HB hb; (try clear hb); (try clear ho0); (try clear ho1); have hcz42 := cf14 BK705; obtain ⟨Ao43, co43, eo43⟩ := Kd.R_slice HO723.out; subst eo43; have hcz44 := cf5 BK684; obtain ⟨Ao45, co45, eo45⟩ := Kd.R_slice HO_14.out; subst eo45) | ((with_reducible refine gate_callee (f := 10) rfl ?_); refine gL (some 62) Tryz.func10 #[.agg #[.int .i64 a0_0, .int .i64 a0_1, .int .i64 a0_2, .int .i64 a0_3, .int .i64 a0_4], .agg #[.int .i64 t710, .int .i64 t711, .int .u64 t712, .int .i64 t713, .int .i64 t714, .int .i64 t715, .int .i64 t716, .int .i64 t717, .int .u16 t718, .int .i64 t719, .int .i64 t720, .slice Ao43 t721.length co43, .bool t724, .int .i64 t725], .int .i64 (wrap64 ((Go.bits .and .i64 a4 1125899906842623) + 1)), .int .i64 (Go.bits .and .i64 a4 1125899906842623), .slice Ao45 t706.length co45, .bool false] ?_; (with_reducible refine (node_Hear.calls kj9 a0_0 a0_1 a0_2 a0_3 a0_4 t710 t711 t712 t713 t714 t715 t716 t717 t718 t719 t720 _ _ t721 t724 t725 (wrap64 ((Go.bits .and .i64 a4 1125899906842623) + 1)) (Go.bits .and .i64 a4 1125899906842623) _ _ t706 false t730 t731 t732 t733 t734 t735 t736 t737 t738 t739 t740 t741 t744 t745 t746 t749 _ ?side1 ?side2 ?side3 ?side4 A32.out).mono ?_); (case side1 => refine (Kd.R_reads' (e := 2) (base := w.heap.size) (ok := fun k_ => (True ∧ some k_ ≠ (.slice Ao26 t699.length co26 : Value).ownBlock)) (n := t721.length) (c := co43) ?_).2.2; exact (rf HO723 BK705 (by decide) (fun _ hk => hk)).out); (case side2 => exact (Kd.R_reads' HO723.out).2.1); (case side3 => refine (Kd.R_reads' (e := 5) (base := w.heap.size) (ok := fun k_ => True) (n := t706.length) (c := co45) ?_).2.2; exact (rf HO_14 BK705 (by decide) (fun _ hk => hk)).out); (case side4 => exact (Kd.R_reads' HO_14.out).2.1); rintro e w46 ⟨v742, v747, rfl, ho0, ho1, hb⟩; refine ⟨_, rfl, ?_⟩; have HO743 := asd (Kd.R_lower (Kd.R_new' (Kd.R_new' ho0 (Kd.R_lt (rf HO_706011 BK705 (by decide) (fun _ hk => hk)).out)) (Kd.R_lt (rf HO723 BK705 (by decide) (fun _ hk => hk)).out)) (below_size (bse HB))); have HO748 := asd (Kd.R_lower (Kd.R_new' ho1 (Kd.R_lt (rf HO728 BK705 (by decide) (fun _ hk => hk)).out)) (below_size (bse HB))); replace HO_14 := rfb HO_14 BK705 (by decide) (fun _ hk => hk) hb; replace HO_706011 := asd (Kd.R_elder' (rf HO_706011 BK705 (by decide) (fun _ hk => hk)).out (Kd.R_base ho0) hb); replace HO723 := asd (Kd.R_elder' (rf HO723 BK705 (by decide) (fun _ hk => hk)).out (Kd.R_base ho0) hb); replace HO728 := asd (Kd.R_elder' (rf HO728 BK705 (by decide) (fun _ hk => hk)).out (Kd.R_base ho1) hb); replace BK684 := fq NB684_705 BK684 hb; replace BK685 := fq NB685_705 BK685 hb; replace BK686 := fq NB686_705 BK686 hb; replace BK705 := asd (blk_below (bp14 BK705).out hb); replace HB := bs HB hb; (try clear hb); (try clear hk); (try clear ho0); (try clear ho1)) | ((with_reducible refine gate_dst (N := 16) rfl ?_); (try (refine gate_guard (by rfl) ?_; dsimp only)); refine bx (N := 16) (cs := #[.int .i64 0, .int .i64 0, .int .u64 0, .int .i64 0, .int .i64 0, .int .i64 0, .int .i64 0, .int .i64 0, .int .u16 0, .int .i64 0, .int .i64 0, .slice none 0 0, .bool false, .int .i64 0]) (t := 32) ?_; intro gb750 hg w47 hbox hb; have BK750 := asd (hbox); have GW750 := bz HB hg; have GE750 := bz HB hg; have NB684_750 := nl BK684 hg; have NB750_684 := nr BK684 hg; have NB685_750 := nl BK685 hg; have NB750_685 := nr BK685 hg; have NB686_750 := nl BK686 hg; have NB750_686 := nr BK686 hg; have NB705_750 := nl BK705 hg; have NB750_705 := nr BK705 hg; replace HO_14 := rb HO_14 hb; replace HO_706011 := rb HO_706011 hb; replace HO723 := rb HO723 hb; replace HO728 := rb HO728 hb; replace HO743 := rb HO743 hb; replace HO748 := rb HO748 hb; replace BK684 := bb BK684 hb; replace BK685 := bb BK685 hb; replace BK686 := bb BK686 hb; replace BK705 := bb BK705 hb; replace HB := bs HB hb; clear hb hbox hg; have hnb48 := NB750_684.out; have hnc48 := NB684_750.out; have hnb49 := NB750_685.out; have hnc49 := NB685_750.out; have hnb50 := NB750_686.out; have hnc50 := NB686_750.out; have hnb51 := NB750_705.out; have hnc51 := NB705_750.out; have hcz52 := cf14 BK750; obtain ⟨Ao53, co53, eo53⟩ := Kd.R_slice HO743.out; subst eo53))
     (try simp only [Act.put, List.setIfInBounds_toArray, List.set_cons_zero, List.set_cons_succ])
     go_cut [71] (fun v71 wc => ∃ (kq : Nat) (x71_32 : Bool), v71 = .bool x71_32 ∧ Aside0 (palletlaw13_NodeJoins.j1 kq a1 (Go.bits .and .i64 a4 1125899906842623) true t706 t746 x71_32 a0_0 a0_1 a0_2 a0_3 a0_4 a3_0 a3_1 a3_2 a3_3 t730 t731 t732 t733 t734 t735 t736 t737 t738 t739 t740 t741 t744 t745 = some r) ∧ Aside0 (kq ≤ kj9) ∧ Aside0 (Kd.R (Kd.int .u8) 5 wc w.heap.size (fun _ => True) (.slice Ao45 t706.length co45) t706) ∧ Aside0 (Kd.R k66 66 wc w.heap.size (fun _ => True) v747 t746) ∧ Aside0 (Kd.R (Kd.int .i64) 2 wc w.heap.size (fun k_ => some k_ ≠ ((.slice Ao53 t741.length co53) : Value).ownBlock) (.slice Ao43 t721.length co43) t721) ∧ Aside0 (Kd.R (Kd.int .i64) 2 wc w.heap.size (fun k_ => some k_ ≠ ((.slice Ao43 t721.length co43) : Value).ownBlock) (.slice Ao53 t741.length co53) t741) ∧ Aside0 (wc.heap[gb684]? = some (.cells #[.int .i64 a0_0, .int .i64 a0_1, .int .i64 a0_2, .int .i64 a0_3, .int .i64 a0_4] 23 (0, 0))) ∧ Aside0 (wc.heap[gb685]? = some (.cells #[.int .i64 a2_0, .int .i64 a2_1, .int .i64 a2_2] 26 (0, 0))) ∧ Aside0 (wc.heap[gb686]? = some (.cells #[.int .i64 a3_0, .int .i64 a3_1, .int .u64 a3_2, .int .u16 a3_3] 43 (0, 0))) ∧ Aside0 (wc.heap[gb705]? = some (.cells #[.int .i64 t710, .int .i64 t711, .int .u64 t712, .int .i64 t713, .int .i64 t714, .int .i64 t715, .int .i64 t716, .int .i64 t717, .int .u16 t718, .int .i64 t719, .int .i64 t720, (.slice Ao43 t721.length co43), .bool t724, .int .i64 t725] 32 (0, 0))) ∧ Aside0 (wc.heap[gb750]? = some (.cells #[.int .i64 t730, .int .i64 t731, .int .u64 t732, .int .i64 t733, .int .i64 t734, .int .i64 t735, .int .i64 t736, .int .i64 t737, .int .u16 t738, .int .i64 t739, .int .i64 t740, (.slice Ao53 t741.length co53), .bool t744, .int .i64 t745] 32 (0, 0))) ∧ Aside0 (Below w.heap.size w wc))
     case first =>
      have H := HC33.out
      clear HC33
      by_cases c54 : t729 = 0
      ·rw [if_pos c54] at H
       have c54b0 : (t729 == 0) = true := beq_iff_eq.mpr c54
       have c54b1 : (t729 != 0) = false := bne_eq_false_iff_eq.mpr c54
       clear c54
       (first | rw [c54b0] | (simp only [i64_w, i32_w]; rw [c54b0]) | skip)
       have H' := asd H
       clear H
       go_wp2
       go_meet
       case rel => exact ⟨_, ((t749 != 0)), (by first | rfl | (simp; done) | (simp [*]; done)), H', ⟨by have := HJ9.out; first | omega | exact Nat.le_refl _⟩, rf HO_14 BK750 (by decide) (fun _ hk => trivial), rf HO748 BK750 (by decide) (fun _ hk => trivial), rf HO723 BK750 (by decide) (fun _ hk => hk.2), rf HO743 BK750 (by decide) (fun _ hk => hk.2), ff NB684_750 BK684, ff NB685_750 BK685, ff NB686_750 BK686, ff NB705_750 BK705, bp14 BK750, ⟨bse HB⟩⟩
      ·rw [if_neg c54] at H
       exact absurd H (by simp)
     case rest =>
      clear HC33
      try clear c1
      try clear c2
      try clear p2
      try clear c3
      try clear c4
      try clear c5
      try clear p6
      try clear c7
      try clear c10
      try clear c13
      try clear c14
      try clear c15
      try clear c16
      try clear c18
      try clear c22
      try clear c23
      try clear c24
      try clear c29
      try clear c29b0
      try clear c29b1
      try clear c30
      try clear c34
      try clear c35
      try clear c36
      try clear c38
      try clear c39
      try clear c48
      try clear c49
      try clear c50
      try clear c51
      try clear c54
      try clear c54b0
      try clear c54b1
      try clear hcz17
      try clear hcz19_0
      try clear hcz19_1
      try clear hcz19_2
      try clear hcz25
      try clear hcz27
      try clear hcz37
      try clear hcz40
      try clear hcz42
      try clear hcz44
      try clear hcz52
      try clear hcz17
      try clear hfz19_0
      try clear hfz19_1
      try clear hfz19_2
      try clear hcz25
      try clear hcz27
      try clear hcz37
      try clear hcz40
      try clear hcz42
      try clear hcz44
      try clear hcz52
      try clear p2
      obtain ⟨kq, x71_32, rfl, HA, HJ32, HO_14, HO_17, HO_706011, HO_751011, BK684, BK685, BK686, BK705, BK750, HB⟩ := hcut
      cases kq with
      | zero => exact absurd HA.out (by simp [palletlaw13_NodeJoins.j1])
      | succ kj32 =>
       have H := HA.out
       clear HA
       simp only [palletlaw13_NodeJoins.j1] at H
       by_cases c55 : x71_32 = true
       ·subst c55
        have H1 : (none) = some r := by rw [if_pos rfl] at H; exact H
        clear H
        have H := H1
        clear H1
        exact absurd H (by simp)
       ·replace c55 := Bool.eq_false_iff.mpr c55
        subst c55
        have H1 : (if t731 = 2 then (if t732 = a3_2 then ((frame_Has.f t738 a3_1).bind fun t754 => (if t754 = true then ((frame_Has.f t738 a1).bind fun t755 => (if t755 = true then (none) else (if t733 > (Go.bits .and .i64 a4 1125899906842623) then (none) else ((palletlaw13_timers.f kj32 t746).bind fun t756 => (palletlaw13_NodeJoins.j2 kj32 (Go.bits .and .i64 a4 1125899906842623) true t706 ((t756.length : Int) != 1) a0_0 a0_1 a0_2 a0_3 a0_4 t730 t731 t732 t733 t734 t735 t736 t737 t738 t739 t740 t741 t744 t745))))) else (none))) else (none)) else (none)) = some r := by rw [if_neg (show ¬ (false = true) by decide)] at H; exact H
        clear H
        have H := H1
        clear H1
        by_cases c56 : t731 = 2
        ·rw [if_pos c56] at H
         have c56b0 : (t731 == 2) = true := beq_iff_eq.mpr c56
         have c56b1 : (t731 != 2) = false := bne_eq_false_iff_eq.mpr c56
         clear c56
         have HC57 := asd H
         clear H
         have hnb58 := NB750_684.out
         have hnc58 := NB684_750.out
         have hnb59 := NB750_685.out
         have hnc59 := NB685_750.out
         have hnb60 := NB750_686.out
         have hnc60 := NB686_750.out
         have hnb61 := NB750_705.out
         have hnc61 := NB705_750.out
         have hcz62 := cf14 BK750
         go_upto_region 16 with (fail)
         go_cut [162] (fun v162 wc => ∃ (kq : Nat) (x162_56 : Bool), v162 = .bool x162_56 ∧ Aside0 (palletlaw13_NodeJoins.j2 kq (Go.bits .and .i64 a4 1125899906842623) true t706 x162_56 a0_0 a0_1 a0_2 a0_3 a0_4 t730 t731 t732 t733 t734 t735 t736 t737 t738 t739 t740 t741 t744 t745 = some r) ∧ Aside0 (kq ≤ kj32) ∧ Aside0 (Kd.R (Kd.int .u8) 5 wc w.heap.size (fun _ => True) (.slice Ao45 t706.length co45) t706) ∧ Aside0 (Kd.R (Kd.int .i64) 2 wc w.heap.size (fun k_ => some k_ ≠ ((.slice Ao53 t741.length co53) : Value).ownBlock) (.slice Ao43 t721.length co43) t721) ∧ Aside0 (Kd.R (Kd.int .i64) 2 wc w.heap.size (fun k_ => some k_ ≠ ((.slice Ao43 t721.length co43) : Value).ownBlock) (.slice Ao53 t741.length co53) t741) ∧ Aside0 (wc.heap[gb684]? = some (.cells #[.int .i64 a0_0, .int .i64 a0_1, .int .i64 a0_2, .int .i64 a0_3, .int .i64 a0_4] 23 (0, 0))) ∧ Aside0 (wc.heap[gb685]? = some (.cells #[.int .i64 a2_0, .int .i64 a2_1, .int .i64 a2_2] 26 (0, 0))) ∧ Aside0 (wc.heap[gb686]? = some (.cells #[.int .i64 a3_0, .int .i64 a3_1, .int .u64 a3_2, .int .u16 a3_3] 43 (0, 0))) ∧ Aside0 (wc.heap[gb705]? = some (.cells #[.int .i64 t710, .int .i64 t711, .int .u64 t712, .int .i64 t713, .int .i64 t714, .int .i64 t715, .int .i64 t716, .int .i64 t717, .int .u16 t718, .int .i64 t719, .int .i64 t720, (.slice Ao43 t721.length co43), .bool t724, .int .i64 t725] 32 (0, 0))) ∧ Aside0 (wc.heap[gb750]? = some (.cells #[.int .i64 t730, .int .i64 t731, .int .u64 t732, .int .i64 t733, .int .i64 t734, .int .i64 t735, .int .i64 t736, .int .i64 t737, .int .u16 t738, .int .i64 t739, .int .i64 t740, (.slice Ao53 t741.length co53), .bool t744, .int .i64 t745] 32 (0, 0))) ∧ Aside0 (Below w.heap.size w wc))
         case first =>
          have H := HC57.out
          clear HC57
          by_cases c63 : t732 = a3_2
          ·rw [if_pos c63] at H
           have c63b0 : (t732 == a3_2) = true := beq_iff_eq.mpr c63
           have c63b1 : (t732 != a3_2) = false := bne_eq_false_iff_eq.mpr c63
           clear c63
           (first | rw [c63b0] | (simp only [i64_w, i32_w]; rw [c63b0]) | skip)
           replace H := Option.bind_eq_some_iff.mp H
           obtain ⟨t754, A640, H⟩ := H
           replace H : (if t754 = true then ((frame_Has.f t738 a1).bind fun t755 => (if t755 = true then (none) else (if t733 > (Go.bits .and .i64 a4 1125899906842623) then (none) else ((palletlaw13_timers.f kj32 t746).bind fun t756 => (palletlaw13_NodeJoins.j2 kj32 (Go.bits .and .i64 a4 1125899906842623) true t706 ((t756.length : Int) != 1) a0_0 a0_1 a0_2 a0_3 a0_4 t730 t731 t732 t733 t734 t735 t736 t737 t738 t739 t740 t741 t744 t745))))) else (none)) = some r := H
           have A64 := asd A640
           clear A640
           by_cases c65 : t754 = true
           ·subst c65
            have H1 : ((frame_Has.f t738 a1).bind fun t755 => (if t755 = true then (none) else (if t733 > (Go.bits .and .i64 a4 1125899906842623) then (none) else ((palletlaw13_timers.f kj32 t746).bind fun t756 => (palletlaw13_NodeJoins.j2 kj32 (Go.bits .and .i64 a4 1125899906842623) true t706 ((t756.length : Int) != 1) a0_0 a0_1 a0_2 a0_3 a0_4 t730 t731 t732 t733 t734 t735 t736 t737 t738 t739 t740 t741 t744 t745))))) = some r := by rw [if_pos rfl] at H; exact H
            clear H
            have H := H1
            clear H1
            replace H := Option.bind_eq_some_iff.mp H
            obtain ⟨t755, A660, H⟩ := H
            replace H : (if t755 = true then (none) else (if t733 > (Go.bits .and .i64 a4 1125899906842623) then (none) else ((palletlaw13_timers.f kj32 t746).bind fun t756 => (palletlaw13_NodeJoins.j2 kj32 (Go.bits .and .i64 a4 1125899906842623) true t706 ((t756.length : Int) != 1) a0_0 a0_1 a0_2 a0_3 a0_4 t730 t731 t732 t733 t734 t735 t736 t737 t738 t739 t740 t741 t744 t745)))) = some r := H
            have A66 := asd A660
            clear A660
            by_cases c67 : t755 = true
            ·subst c67
             have H1 : (none) = some r := by rw [if_pos rfl] at H; exact H
             clear H
             have H := H1
             clear H1
             exact absurd H (by simp)
            ·replace c67 := Bool.eq_false_iff.mpr c67
             subst c67
             have H1 : (if t733 > (Go.bits .and .i64 a4 1125899906842623) then (none) else ((palletlaw13_timers.f kj32 t746).bind fun t756 => (palletlaw13_NodeJoins.j2 kj32 (Go.bits .and .i64 a4 1125899906842623) true t706 ((t756.length : Int) != 1) a0_0 a0_1 a0_2 a0_3 a0_4 t730 t731 t732 t733 t734 t735 t736 t737 t738 t739 t740 t741 t744 t745))) = some r := by rw [if_neg (show ¬ (false = true) by decide)] at H; exact H
             clear H
             have H := H1
             clear H1
             by_cases c68 : t733 > (Go.bits .and .i64 a4 1125899906842623)
             ·rw [if_pos c68] at H
              exact absurd H (by simp)
             ·rw [if_neg c68] at H
              have c68b0 : decide ((Go.bits .and .i64 a4 1125899906842623) < t733) = false := decide_eq_false c68
              clear c68
              replace H := Option.bind_eq_some_iff.mp H
              obtain ⟨t756, A690, H⟩ := H
              replace H : (palletlaw13_NodeJoins.j2 kj32 (Go.bits .and .i64 a4 1125899906842623) true t706 ((t756.length : Int) != 1) a0_0 a0_1 a0_2 a0_3 a0_4 t730 t731 t732 t733 t734 t735 t736 t737 t738 t739 t740 t741 t744 t745) = some r := H
              have A69 := asd A690
              clear A690
              have H' := asd H
              clear H
              have hnb70 := NB750_684.out
              have hnc70 := NB684_750.out
              have hnb71 := NB750_685.out
              have hnc71 := NB685_750.out
              have hnb72 := NB750_686.out
              have hnc72 := NB686_750.out
              have hnb73 := NB750_705.out
              have hnc73 := NB705_750.out
              have hcz74 := cf14 BK750
              have hnb75 := NB686_684.out
              have hnc75 := NB684_686.out
              have hnb76 := NB686_685.out
              have hnc76 := NB685_686.out
              have hnb77 := NB686_705.out
              have hnc77 := NB705_686.out
              have hcz78 := cf4 BK686
              go_wp2_with (first | (go_at_call 17; (with_reducible refine (frame_Has.calls t738 a3_1 true _ A64.out).mono ?_); rintro e w' ⟨rfl, ⟨nd, rfl⟩⟩) | (go_at_call 17; (with_reducible refine (frame_Has.calls t738 a1 false _ A66.out).mono ?_); rintro e w' ⟨rfl, ⟨nd, rfl⟩⟩; obtain ⟨Ao79, co79, eo79⟩ := Kd.R_slice HO_17.out; subst eo79) | (go_at_call 18; (with_reducible refine (palletlaw13_timers.calls kj32 _ _ t746 t756 _ ?side1 ?side2 A69.out).mono ?_); (case side1 => exact cr (Kd.R_reads' HO_17.out).2.2); (case side2 => exact (Kd.R_reads' HO_17.out).2.1); rintro e w80 ⟨v757, rfl, ho0, hb⟩; have HO758 := asd (Kd.R_lower (Kd.R_new' (Kd.R_new' ho0 (Kd.R_lt (re HO_706011).out)) (Kd.R_lt (re HO_751011).out)) (below_size (bse HB))); replace HO_14 := rb HO_14 hb; replace HO_17 := rb HO_17 hb; replace HO_706011 := asd (Kd.R_elder' (re HO_706011).out (Kd.R_base ho0) hb); replace HO_751011 := asd (Kd.R_elder' (re HO_751011).out (Kd.R_base ho0) hb); replace BK684 := bb BK684 hb; replace BK685 := bb BK685 hb; replace BK686 := bb BK686 hb; replace BK705 := bb BK705 hb; replace BK750 := bb BK750 hb; replace HB := bs HB hb; (try clear hb); (try clear ho0); obtain ⟨Ao81, co81, eo81⟩ := Kd.R_slice HO758.out; subst eo81))
              go_meet
              case rel => exact ⟨_, (((t756.length : Int) != 1)), (by first | rfl | (simp; done) | (simp [*]; done)), H', ⟨by have := HJ9.out; have := HJ32.out; first | omega | exact Nat.le_refl _⟩, re HO_14, ⟨by (with_reducible repeat (first | apply Kd.R_alloc | apply Kd.R_drewN | apply Kd.R_drew)); exact Kd.R_mono HO_706011.out (fun _ hk => hk.1)⟩, ⟨by (with_reducible repeat (first | apply Kd.R_alloc | apply Kd.R_drewN | apply Kd.R_drew)); exact Kd.R_mono HO_751011.out (fun _ hk => hk.1)⟩, be BK684, be BK685, be BK686, be BK705, be BK750, ⟨bse HB⟩⟩
           ·replace c65 := Bool.eq_false_iff.mpr c65
            subst c65
            have H1 : (none) = some r := by rw [if_neg (show ¬ (false = true) by decide)] at H; exact H
            clear H
            have H := H1
            clear H1
            exact absurd H (by simp)
          ·rw [if_neg c63] at H
           exact absurd H (by simp)
         case rest =>
          clear HC57
          try clear c1
          try clear c2
          try clear p2
          try clear c3
          try clear c4
          try clear c5
          try clear c6
          try clear p6
          try clear c7
          try clear c10
          try clear c13
          try clear c14
          try clear c15
          try clear c16
          try clear c18
          try clear c22
          try clear c23
          try clear c24
          try clear c29
          try clear c29b0
          try clear c29b1
          try clear c30
          try clear c34
          try clear c35
          try clear c36
          try clear c38
          try clear c39
          try clear c48
          try clear c49
          try clear c50
          try clear c51
          try clear c54
          try clear c54b0
          try clear c54b1
          try clear c55
          try clear c56
          try clear c56b0
          try clear c56b1
          try clear c58
          try clear c59
          try clear c60
          try clear c61
          try clear c63
          try clear c63b0
          try clear c63b1
          try clear p64
          try clear c65
          try clear c67
          try clear c68
          try clear c68b0
          try clear c70
          try clear c71
          try clear c72
          try clear c73
          try clear c75
          try clear c76
          try clear c77
          try clear hcz17
          try clear hcz19_0
          try clear hcz19_1
          try clear hcz19_2
          try clear hcz25
          try clear hcz27
          try clear hcz37
          try clear hcz40
          try clear hcz42
          try clear hcz44
          try clear hcz52
          try clear hcz62
          try clear hcz74
          try clear hcz78
          try clear hcz17
          try clear hfz19_0
          try clear hfz19_1
          try clear hfz19_2
          try clear hcz25
          try clear hcz27
          try clear hcz37
          try clear hcz40
          try clear hcz42
          try clear hcz44
          try clear hcz52
          try clear hcz62
          try clear hcz74
          try clear hcz78
          try clear p2
          try clear p6
          obtain ⟨kq, x162_56, rfl, HA, HJ56, HO_14, HO_706011, HO_751011, BK684, BK685, BK686, BK705, BK750, HB⟩ := hcut
          cases kq with
          | zero => exact absurd HA.out (by simp [palletlaw13_NodeJoins.j2])
          | succ kj56 =>
           have H := HA.out
           clear HA
           simp only [palletlaw13_NodeJoins.j2] at H
           by_cases c82 : x162_56 = true
           ·subst c82
            have H1 : (none) = some r := by rw [if_pos rfl] at H; exact H
            clear H
            have H := H1
            clear H1
            exact absurd H (by simp)
           ·replace c82 := Bool.eq_false_iff.mpr c82
            subst c82
            have H1 : ((node_Hear.f kj56 a0_0 a0_1 a0_2 a0_3 a0_4 t730 t731 t732 t733 t734 t735 t736 t737 t738 t739 t740 t741 t744 t745 (wrap64 ((Go.bits .and .i64 a4 1125899906842623) + 1)) (Go.bits .and .i64 a4 1125899906842623) t706 false).bind fun bt759 => (if true = true then (if bt759.2.2.2.2.2.2.2.2.2.2.2.2.2.2.2 = 0 then ((node_Same.f kj56 t730 t731 t732 t733 t734 t735 t736 t737 t738 t739 t740 t741 t744 t745 bt759.1 bt759.2.1 bt759.2.2.1 bt759.2.2.2.1 bt759.2.2.2.2.1 bt759.2.2.2.2.2.1 bt759.2.2.2.2.2.2.1 bt759.2.2.2.2.2.2.2.1 bt759.2.2.2.2.2.2.2.2.1 bt759.2.2.2.2.2.2.2.2.2.1 bt759.2.2.2.2.2.2.2.2.2.2.1 bt759.2.2.2.2.2.2.2.2.2.2.2.1 bt759.2.2.2.2.2.2.2.2.2.2.2.2.1 bt759.2.2.2.2.2.2.2.2.2.2.2.2.2.1).bind fun t780 => (if t780 = true then (some ((bt759.2.2.2.2.2.2.2.2.2.2.2.2.2.2.1.length : Int) == 0)) else (none))) else (none)) else (none))) = some r := by rw [if_neg (show ¬ (false = true) by decide)] at H; exact H
            clear H
            have H := H1
            clear H1
            replace H := Option.bind_eq_some_iff.mp H
            obtain ⟨⟨t759, t760, t761, t762, t763, t764, t765, t766, t767, t768, t769, t770, t773, t774, t775, t778⟩, A830, H⟩ := H
            replace H : (if true = true then (if t778 = 0 then ((node_Same.f kj56 t730 t731 t732 t733 t734 t735 t736 t737 t738 t739 t740 t741 t744 t745 t759 t760 t761 t762 t763 t764 t765 t766 t767 t768 t769 t770 t773 t774).bind fun t780 => (if t780 = true then (some ((t775.length : Int) == 0)) else (none))) else (none)) else (none)) = some r := H
            have A83 := asd A830
            clear A830
            have H1 : (if t778 = 0 then ((node_Same.f kj56 t730 t731 t732 t733 t734 t735 t736 t737 t738 t739 t740 t741 t744 t745 t759 t760 t761 t762 t763 t764 t765 t766 t767 t768 t769 t770 t773 t774).bind fun t780 => (if t780 = true then (some ((t775.length : Int) == 0)) else (none))) else (none)) = some r := by first | (rw [if_pos rfl] at H; exact H) | exact H
            clear H
            have H := H1
            clear H1
            by_cases c84 : t778 = 0
            ·rw [if_pos c84] at H
             have c84b0 : (t778 == 0) = true := beq_iff_eq.mpr c84
             have c84b1 : (t778 != 0) = false := bne_eq_false_iff_eq.mpr c84
             clear c84
             replace H := Option.bind_eq_some_iff.mp H
             obtain ⟨t780, A850, H⟩ := H
             replace H : (if t780 = true then (some ((t775.length : Int) == 0)) else (none)) = some r := H
             have A85 := asd A850
             clear A850
             by_cases c86 : t780 = true
             ·subst c86
              have H1 : (some ((t775.length : Int) == 0)) = some r := by rw [if_pos rfl] at H; exact H
              clear H
              have H := H1
              clear H1
              obtain rfl := Option.some.inj H
              have hnb87 := NB684_685.out
              have hnc87 := NB685_684.out
              have hnb88 := NB684_686.out
              have hnc88 := NB686_684.out
              have hnb89 := NB684_705.out
              have hnc89 := NB705_684.out
              have hnb90 := NB684_750.out
              have hnc90 := NB750_684.out
              have hcz91 := cf5 BK684
              have hnb92 := NB750_685.out
              have hnc92 := NB685_750.out
              have hnb93 := NB750_686.out
              have hnc93 := NB686_750.out
              have hnb94 := NB750_705.out
              have hnc94 := NB705_750.out
              have hcz95 := cf14 BK750
              go_wp2_with (first | ((with_reducible refine gate_callee (f := 10) rfl ?_); refine gL (some 170) Tryz.func10 #[.agg #[.int .i64 a0_0, .int .i64 a0_1, .int .i64 a0_2, .int .i64 a0_3, .int .i64 a0_4], .agg #[.int .i64 t730, .int .i64 t731, .int .u64 t732, .int .i64 t733, .int .i64 t734, .int .i64 t735, .int .i64 t736, .int .i64 t737, .int .u16 t738, .int .i64 t739, .int .i64 t740, .slice Ao53 t741.length co53, .bool t744, .int .i64 t745], .int .i64 (wrap64 ((Go.bits .and .i64 a4 1125899906842623) + 1)), .int .i64 (Go.bits .and .i64 a4 1125899906842623), .slice Ao45 t706.length co45, .bool false] ?_; (with_reducible refine (node_Hear.calls kj56 a0_0 a0_1 a0_2 a0_3 a0_4 t730 t731 t732 t733 t734 t735 t736 t737 t738 t739 t740 _ _ t741 t744 t745 (wrap64 ((Go.bits .and .i64 a4 1125899906842623) + 1)) (Go.bits .and .i64 a4 1125899906842623) _ _ t706 false t759 t760 t761 t762 t763 t764 t765 t766 t767 t768 t769 t770 t773 t774 t775 t778 _ ?side1 ?side2 ?side3 ?side4 A83.out).mono ?_); (case side1 => exact cr (Kd.R_reads' HO_751011.out).2.2); (case side2 => exact (Kd.R_reads' HO_751011.out).2.1); (case side3 => exact cr (Kd.R_reads' HO_14.out).2.2); (case side4 => exact (Kd.R_reads' HO_14.out).2.1); rintro e w96 ⟨v771, v776, rfl, ho0, ho1, hb⟩; refine ⟨_, rfl, ?_⟩; have HO772 := asd (Kd.R_lower (Kd.R_new' (Kd.R_new' ho0 (Kd.R_lt (re HO_706011).out)) (Kd.R_lt (re HO_751011).out)) (below_size (bse HB))); have HO777 := rl ho1 HB; replace HO_14 := rb HO_14 hb; replace HO_706011 := asd (Kd.R_elder' (re HO_706011).out (Kd.R_base ho0) hb); replace HO_751011 := asd (Kd.R_elder' (re HO_751011).out (Kd.R_base ho0) hb); replace BK684 := bb BK684 hb; replace BK685 := bb BK685 hb; replace BK686 := bb BK686 hb; replace BK705 := bb BK705 hb; replace BK750 := bb BK750 hb; replace HB := bs HB hb; (try clear hb); (try clear ho0); (try clear ho1)) | ((with_reducible refine gate_dst (N := 21) rfl ?_); (try (refine gate_guard (by rfl) ?_; dsimp only)); refine bx (N := 21) (cs := #[.int .i64 0, .int .i64 0, .int .u64 0, .int .i64 0, .int .i64 0, .int .i64 0, .int .i64 0, .int .i64 0, .int .u16 0, .int .i64 0, .int .i64 0, .slice none 0 0, .bool false, .int .i64 0]) (t := 32) ?_; intro gb779 hg w97 hbox hb; have BK779 := asd (hbox); have GW779 := bz HB hg; have GE779 := bz HB hg; have NB684_779 := nl BK684 hg; have NB779_684 := nr BK684 hg; have NB685_779 := nl BK685 hg; have NB779_685 := nr BK685 hg; have NB686_779 := nl BK686 hg; have NB779_686 := nr BK686 hg; have NB705_779 := nl BK705 hg; have NB779_705 := nr BK705 hg; have NB750_779 := nl BK750 hg; have NB779_750 := nr BK750 hg; replace HO_14 := rb HO_14 hb; replace HO_706011 := rb HO_706011 hb; replace HO_751011 := rb HO_751011 hb; replace HO772 := rb HO772 hb; replace HO777 := rb HO777 hb; replace BK684 := bb BK684 hb; replace BK685 := bb BK685 hb; replace BK686 := bb BK686 hb; replace BK705 := bb BK705 hb; replace BK750 := bb BK750 hb; replace HB := bs HB hb; clear hb hbox hg; have hnb98 := NB779_684.out; have hnc98 := NB684_779.out; have hnb99 := NB779_685.out; have hnc99 := NB685_779.out; have hnb100 := NB779_686.out; have hnc100 := NB686_779.out; have hnb101 := NB779_705.out; have hnc101 := NB705_779.out; have hnb102 := NB779_750.out; have hnc102 := NB750_779.out; have hcz103 := cf14 BK779; obtain ⟨Ao104, co104, eo104⟩ := Kd.R_slice HO772.out; subst eo104; have hcz105 := cf14 BK750) | (go_at_call 11; (with_reducible refine (node_Same.calls kj56 t730 t731 t732 t733 t734 t735 t736 t737 t738 t739 t740 _ _ t741 t744 t745 t759 t760 t761 t762 t763 t764 t765 t766 t767 t768 t769 _ _ t770 t773 t774 true _ ?side1 ?side2 ?side3 ?side4 A85.out).mono ?_); (case side1 => refine (Kd.R_reads' (e := 2) (base := w.heap.size) (ok := fun k_ => (some k_ ≠ (.slice Ao43 t721.length co43 : Value).ownBlock ∧ some k_ ≠ (.slice Ao104 t770.length co104 : Value).ownBlock)) (n := t741.length) (c := co53) ?_).2.2; exact (rf HO_751011 BK779 (by decide) (fun _ hk => hk)).out); (case side2 => exact (Kd.R_reads' HO_751011.out).2.1); (case side3 => refine (Kd.R_reads' (e := 2) (base := w.heap.size) (ok := fun k_ => ((True ∧ some k_ ≠ (.slice Ao43 t721.length co43 : Value).ownBlock) ∧ some k_ ≠ (.slice Ao53 t741.length co53 : Value).ownBlock)) (n := t770.length) (c := co104) ?_).2.2; exact (rf HO772 BK779 (by decide) (fun _ hk => hk)).out); (case side4 => exact (Kd.R_reads' HO772.out).2.1); rintro e w106 ⟨rfl, hb⟩; replace HO_14 := rfb HO_14 BK779 (by decide) (fun _ hk => hk) hb; replace HO_706011 := rfb HO_706011 BK779 (by decide) (fun _ hk => hk) hb; replace HO_751011 := rfb HO_751011 BK779 (by decide) (fun _ hk => hk) hb; replace HO772 := rfb HO772 BK779 (by decide) (fun _ hk => hk) hb; replace HO777 := rfb HO777 BK779 (by decide) (fun _ hk => hk) hb; replace BK684 := fq NB684_779 BK684 hb; replace BK685 := fq NB685_779 BK685 hb; replace BK686 := fq NB686_779 BK686 hb; replace BK705 := fq NB705_779 BK705 hb; replace BK750 := fq NB750_779 BK750 hb; replace BK779 := asd (blk_below (bp14 BK779).out hb); replace HB := bs HB hb; (try clear hb); (try clear hk); obtain ⟨Ao107, co107, eo107⟩ := Kd.R_slice HO777.out; subst eo107))
              go_ret
              exact ⟨by first | rfl | (simp [errW_none, errW_some] <;> rfl) | (simp [*, errW_none, errW_some] <;> rfl), bse HB⟩
             ·replace c86 := Bool.eq_false_iff.mpr c86
              subst c86
              have H1 : (none) = some r := by rw [if_neg (show ¬ (false = true) by decide)] at H; exact H
              clear H
              have H := H1
              clear H1
              exact absurd H (by simp)
            ·rw [if_neg c84] at H
             exact absurd H (by simp)
        ·rw [if_neg c56] at H
         exact absurd H (by simp)
 ·replace c7 := Bool.eq_false_iff.mpr c7
  subst c7
  have H1 : (none) = some r := by rw [if_neg (show ¬ (false = true) by decide)] at H; exact H
  clear H
  have H := H1
  clear H1
  exact absurd H (by simp)

end Go.Proofs.YtcofclkgfandfaaGreat.Print
