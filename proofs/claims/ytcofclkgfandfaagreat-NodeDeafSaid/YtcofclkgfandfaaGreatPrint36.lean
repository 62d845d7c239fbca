-- PRINTED by print.py (a twelfth state) out of the translation. Not trusted: Lean checks it.
import Derived.Test.YtcofclkgfandfaaGreatSq
import Derived.Test.YtcofclkgfandfaaGreatPrint0
import Derived.Test.YtcofclkgfandfaaGreatPrint5
import Derived.Test.YtcofclkgfandfaaGreatPrint23
import Derived.Test.YtcofclkgfandfaaGreatPrint26
import Derived.Test.YtcofclkgfandfaaGreatPrint35
namespace Go.Proofs.YtcofclkgfandfaaGreat.Print
open Go.RowKit Go.Proofs.YtcofclkgfandfaaGreatW.PrintWords Go.Proofs.YtcofclkgfandfaaGreatW.PrintLast Go.Proofs.YtcofclkgfandfaaGreatW.PrintMore Go.Proofs.YtcofclkgfandfaaGreatX
attribute [local go_sem] str_lss str_geq max2_int min2_int max_two min_two max_three min_three max_four min_four   -- for this text's walks alone
set_option linter.unusedVariables false
set_option linter.unusedSimpArgs false

/-! ### palletlaw13_NodeDeaf: function 3 -/
mutual
def palletlaw13_NodeDeaf.j0 : Nat → Int → Int → List Int → Bool → Bool → Int → Int → Int → Int → Int → Int → Int → Int → Int → Int → Int → Int → Int → Int → Int → Int → List Int → Bool → Int → Option (Bool)
 | 0, _, _, _, _, _, _, _, _, _, _, _, _, _, _, _, _, _, _, _, _, _, _, _, _ => none
 | k + 1, x2, x3, x4, x11, x30, x624000, x624001, x624002, x624003, x624004, x625000, x625001, x625002, x625003, x625004, x625005, x625006, x625007, x625008, x625009, x625010, x625011, x625012, x625013 => if x30 = true then (some x11) else ((node_Hear.f k x624000 x624001 x624002 x624003 x624004 x625000 x625001 x625002 x625003 x625004 x625005 x625006 x625007 x625008 x625009 x625010 x625011 x625012 x625013 x2 x3 x4 true).bind fun bt628 => (if bt628.2.2.2.2.2.2.2.2.2.2.2.2.2.2.2 = 0 then ((node_Same.f k bt628.1 bt628.2.1 bt628.2.2.1 bt628.2.2.2.1 bt628.2.2.2.2.1 bt628.2.2.2.2.2.1 bt628.2.2.2.2.2.2.1 bt628.2.2.2.2.2.2.2.1 bt628.2.2.2.2.2.2.2.2.1 bt628.2.2.2.2.2.2.2.2.2.1 bt628.2.2.2.2.2.2.2.2.2.2.1 bt628.2.2.2.2.2.2.2.2.2.2.2.1 bt628.2.2.2.2.2.2.2.2.2.2.2.2.1 bt628.2.2.2.2.2.2.2.2.2.2.2.2.2.1 x625000 x625001 x625002 x625003 x625004 x625005 x625006 x625007 x625008 x625009 x625010 x625011 x625012 x625013).bind fun t650 => (if t650 = true then (palletlaw13_NodeDeaf.j1 k x2 x3 x4 x11 ((bt628.2.2.2.2.2.2.2.2.2.2.2.2.2.2.1.length : Int) != 0) x624000 x624001 x624002 x624003 x624004 x625000 x625001 x625002 x625003 x625004 x625005 x625006 x625007 x625008 x625009 x625010 x625011 x625012 x625013) else (palletlaw13_NodeDeaf.j1 k x2 x3 x4 x11 true x624000 x624001 x624002 x624003 x624004 x625000 x625001 x625002 x625003 x625004 x625005 x625006 x625007 x625008 x625009 x625010 x625011 x625012 x625013))) else (if x11 = true then ((node_Same.f k bt628.1 bt628.2.1 bt628.2.2.1 bt628.2.2.2.1 bt628.2.2.2.2.1 bt628.2.2.2.2.2.1 bt628.2.2.2.2.2.2.1 bt628.2.2.2.2.2.2.2.1 bt628.2.2.2.2.2.2.2.2.1 bt628.2.2.2.2.2.2.2.2.2.1 bt628.2.2.2.2.2.2.2.2.2.2.1 bt628.2.2.2.2.2.2.2.2.2.2.2.1 bt628.2.2.2.2.2.2.2.2.2.2.2.2.1 bt628.2.2.2.2.2.2.2.2.2.2.2.2.2.1 x625000 x625001 x625002 x625003 x625004 x625005 x625006 x625007 x625008 x625009 x625010 x625011 x625012 x625013).bind fun t649 => (if t649 = true then (some ((bt628.2.2.2.2.2.2.2.2.2.2.2.2.2.2.1.length : Int) == 0)) else (none))) else (none))))
def palletlaw13_NodeDeaf.j1 : Nat → Int → Int → List Int → Bool → Bool → Int → Int → Int → Int → Int → Int → Int → Int → Int → Int → Int → Int → Int → Int → Int → Int → List Int → Bool → Int → Option (Bool)
 | 0, _, _, _, _, _, _, _, _, _, _, _, _, _, _, _, _, _, _, _, _, _, _, _, _ => none
 | k + 1, x2, x3, x4, x11, x63, x624000, x624001, x624002, x624003, x624004, x625000, x625001, x625002, x625003, x625004, x625005, x625006, x625007, x625008, x625009, x625010, x625011, x625012, x625013 => if x63 = true then (none) else ((frame_Read.f k x4).bind fun bt651 => ((node_Hear.f k x624000 x624001 x624002 x624003 x624004 x625000 x625001 x625002 x625003 x625004 x625005 x625006 x625007 x625008 x625009 x625010 x625011 x625012 x625013 x2 x3 x4 false).bind fun bt657 => (if bt651.2.2.2.2 = 0 then (if bt651.2.1 = x625000 then (palletlaw13_NodeDeaf.j2 k x11 bt657.2.2.2.2.2.2.2.2.2.2.2.2.2.2.1 bt657.2.2.2.2.2.2.2.2.2.2.2.2.2.2.2 true x625000 x625001 x625002 x625003 x625004 x625005 x625006 x625007 x625008 x625009 x625010 x625011 x625012 x625013 bt657.1 bt657.2.1 bt657.2.2.1 bt657.2.2.2.1 bt657.2.2.2.2.1 bt657.2.2.2.2.2.1 bt657.2.2.2.2.2.2.1 bt657.2.2.2.2.2.2.2.1 bt657.2.2.2.2.2.2.2.2.1 bt657.2.2.2.2.2.2.2.2.2.1 bt657.2.2.2.2.2.2.2.2.2.2.1 bt657.2.2.2.2.2.2.2.2.2.2.2.1 bt657.2.2.2.2.2.2.2.2.2.2.2.2.1 bt657.2.2.2.2.2.2.2.2.2.2.2.2.2.1) else (if x625001 = 0 then (palletlaw13_NodeDeaf.j2 k x11 bt657.2.2.2.2.2.2.2.2.2.2.2.2.2.2.1 bt657.2.2.2.2.2.2.2.2.2.2.2.2.2.2.2 true x625000 x625001 x625002 x625003 x625004 x625005 x625006 x625007 x625008 x625009 x625010 x625011 x625012 x625013 bt657.1 bt657.2.1 bt657.2.2.1 bt657.2.2.2.1 bt657.2.2.2.2.1 bt657.2.2.2.2.2.1 bt657.2.2.2.2.2.2.1 bt657.2.2.2.2.2.2.2.1 bt657.2.2.2.2.2.2.2.2.1 bt657.2.2.2.2.2.2.2.2.2.1 bt657.2.2.2.2.2.2.2.2.2.2.1 bt657.2.2.2.2.2.2.2.2.2.2.2.1 bt657.2.2.2.2.2.2.2.2.2.2.2.2.1 bt657.2.2.2.2.2.2.2.2.2.2.2.2.2.1) else (palletlaw13_NodeDeaf.j2 k x11 bt657.2.2.2.2.2.2.2.2.2.2.2.2.2.2.1 bt657.2.2.2.2.2.2.2.2.2.2.2.2.2.2.2 (x625001 == 3) x625000 x625001 x625002 x625003 x625004 x625005 x625006 x625007 x625008 x625009 x625010 x625011 x625012 x625013 bt657.1 bt657.2.1 bt657.2.2.1 bt657.2.2.2.1 bt657.2.2.2.2.1 bt657.2.2.2.2.2.1 bt657.2.2.2.2.2.2.1 bt657.2.2.2.2.2.2.2.1 bt657.2.2.2.2.2.2.2.2.1 bt657.2.2.2.2.2.2.2.2.2.1 bt657.2.2.2.2.2.2.2.2.2.2.1 bt657.2.2.2.2.2.2.2.2.2.2.2.1 bt657.2.2.2.2.2.2.2.2.2.2.2.2.1 bt657.2.2.2.2.2.2.2.2.2.2.2.2.2.1))) else (palletlaw13_NodeDeaf.j2 k x11 bt657.2.2.2.2.2.2.2.2.2.2.2.2.2.2.1 bt657.2.2.2.2.2.2.2.2.2.2.2.2.2.2.2 true x625000 x625001 x625002 x625003 x625004 x625005 x625006 x625007 x625008 x625009 x625010 x625011 x625012 x625013 bt657.1 bt657.2.1 bt657.2.2.1 bt657.2.2.2.1 bt657.2.2.2.2.1 bt657.2.2.2.2.2.1 bt657.2.2.2.2.2.2.1 bt657.2.2.2.2.2.2.2.1 bt657.2.2.2.2.2.2.2.2.1 bt657.2.2.2.2.2.2.2.2.2.1 bt657.2.2.2.2.2.2.2.2.2.2.1 bt657.2.2.2.2.2.2.2.2.2.2.2.1 bt657.2.2.2.2.2.2.2.2.2.2.2.2.1 bt657.2.2.2.2.2.2.2.2.2.2.2.2.2.1))))
def palletlaw13_NodeDeaf.j2 : Nat → Bool → List (S66) → Int → Bool → Int → Int → Int → Int → Int → Int → Int → Int → Int → Int → Int → List Int → Bool → Int → Int → Int → Int → Int → Int → Int → Int → Int → Int → Int → Int → List Int → Bool → Int → Option (Bool)
 | 0, _, _, _, _, _, _, _, _, _, _, _, _, _, _, _, _, _, _, _, _, _, _, _, _, _, _, _, _, _, _, _, _ => none
 | k + 1, x11, x18, x19, x97, x625000, x625001, x625002, x625003, x625004, x625005, x625006, x625007, x625008, x625009, x625010, x625011, x625012, x625013, x678000, x678001, x678002, x678003, x678004, x678005, x678006, x678007, x678008, x678009, x678010, x678011, x678012, x678013 => if x97 = true then (if x11 = true then (if x19 = 0 then ((node_Same.f k x678000 x678001 x678002 x678003 x678004 x678005 x678006 x678007 x678008 x678009 x678010 x678011 x678012 x678013 x625000 x625001 x625002 x625003 x625004 x625005 x625006 x625007 x625008 x625009 x625010 x625011 x625012 x625013).bind fun t678 => (if t678 = true then (some ((x18.length : Int) == 0)) else (none))) else (none)) else (none)) else (some x11)
end
def palletlaw13_NodeDeaf.f (k : Nat) (a0_0 : Int) (a0_1 : Int) (a0_2 : Int) (a0_3 : Int) (a0_4 : Int) (a1_0 : Int) (a1_1 : Int) (a1_2 : Int) (a1_3 : Int) (a1_4 : Int) (a1_5 : Int) (a1_6 : Int) (a1_7 : Int) (a1_8 : Int) (a1_9 : Int) (a1_10 : Int) (l1_11 : List Int) (a1_12 : Bool) (a1_13 : Int) (a2 : Int) (a3 : Int) (l4 : List Int) : Option (Bool) := (palletlaw13_live.f k).bind fun t625 => ((palletlaw13_few.f a1_0 a1_1 a1_2 a1_3 a1_4 a1_5 a1_6 a1_7 a1_8 a1_9 a1_10 l1_11 a1_12 a1_13 l4).bind fun t626 => (if t626 = true then ((node_Check.f k a0_0 a0_1 a0_2 a0_3 a0_4 a1_0 a1_1 a1_2 a1_3 a1_4 a1_5 a1_6 a1_7 a1_8 a1_9 a1_10 l1_11 a1_12 a1_13).bind fun t627 => (palletlaw13_NodeDeaf.j0 k a2 a3 l4 t625 (t627 != 0) a0_0 a0_1 a0_2 a0_3 a0_4 a1_0 a1_1 a1_2 a1_3 a1_4 a1_5 a1_6 a1_7 a1_8 a1_9 a1_10 l1_11 a1_12 a1_13)) else (palletlaw13_NodeDeaf.j0 k a2 a3 l4 t625 true a0_0 a0_1 a0_2 a0_3 a0_4 a1_0 a1_1 a1_2 a1_3 a1_4 a1_5 a1_6 a1_7 a1_8 a1_9 a1_10 l1_11 a1_12 a1_13)))
set_option maxHeartbeats 8000000 in
set_option maxRecDepth 100000 in
theorem palletlaw13_NodeDeaf.calls (k : Nat) (a0_0 : Int) (a0_1 : Int) (a0_2 : Int) (a0_3 : Int) (a0_4 : Int) (a1_0 : Int) (a1_1 : Int) (a1_2 : Int) (a1_3 : Int) (a1_4 : Int) (a1_5 : Int) (a1_6 : Int) (a1_7 : Int) (a1_8 : Int) (a1_9 : Int) (a1_10 : Int) (A1_11 : Option Addr) (c1_11 : Nat) (l1_11 : List Int) (a1_12 : Bool) (a1_13 : Int) (a2 : Int) (a3 : Int) (A4 : Option Addr) (c4 : Nat) (l4 : List Int) (r : Bool) (w : World) (hr1_11 : Kd.C (Kd.int .i64) w A1_11 l1_11.length l1_11) (hc1_11 : l1_11.length ≤ c1_11) (hr4 : Kd.C (Kd.int .u8) w A4 l4.length l4) (hc4 : l4.length ≤ c4) (hr_ : Aside0 (r = true)) (h : palletlaw13_NodeDeaf.f k a0_0 a0_1 a0_2 a0_3 a0_4 a1_0 a1_1 a1_2 a1_3 a1_4 a1_5 a1_6 a1_7 a1_8 a1_9 a1_10 l1_11 a1_12 a1_13 a2 a3 l4 = some r) :
  Calls Tryz.prog 3 #[.agg #[.int .i64 a0_0, .int .i64 a0_1, .int .i64 a0_2, .int .i64 a0_3, .int .i64 a0_4], .agg #[.int .i64 a1_0, .int .i64 a1_1, .int .u64 a1_2, .int .i64 a1_3, .int .i64 a1_4, .int .i64 a1_5, .int .i64 a1_6, .int .i64 a1_7, .int .u16 a1_8, .int .i64 a1_9, .int .i64 a1_10, .slice A1_11 l1_11.length c1_11, .bool a1_12, .int .i64 a1_13], .int .i64 a2, .int .i64 a3, .slice A4 l4.length c4] w fun e w' => e = .returned (.bool r) ∧ Below w.heap.size w w' := by
 have hu23 := Tryz.underlying23
 have hu32 := Tryz.underlying32
 have hu43 := Tryz.underlying43
 have HR1_11 := asd hr1_11
 have HC1_11 := asd hc1_11
 clear hr1_11 hc1_11
 have HR4 := asd hr4
 have HC4 := asd hc4
 clear hr4 hc4
 have HB := asd (Below.refl w.heap.size w)
 have H : ((palletlaw13_live.f k).bind fun t625 => ((palletlaw13_few.f a1_0 a1_1 a1_2 a1_3 a1_4 a1_5 a1_6 a1_7 a1_8 a1_9 a1_10 l1_11 a1_12 a1_13 l4).bind fun t626 => (if t626 = true then ((node_Check.f k a0_0 a0_1 a0_2 a0_3 a0_4 a1_0 a1_1 a1_2 a1_3 a1_4 a1_5 a1_6 a1_7 a1_8 a1_9 a1_10 l1_11 a1_12 a1_13).bind fun t627 => (palletlaw13_NodeDeaf.j0 k a2 a3 l4 t625 (t627 != 0) a0_0 a0_1 a0_2 a0_3 a0_4 a1_0 a1_1 a1_2 a1_3 a1_4 a1_5 a1_6 a1_7 a1_8 a1_9 a1_10 l1_11 a1_12 a1_13)) else (palletlaw13_NodeDeaf.j0 k a2 a3 l4 t625 true a0_0 a0_1 a0_2 a0_3 a0_4 a1_0 a1_1 a1_2 a1_3 a1_4 a1_5 a1_6 a1_7 a1_8 a1_9 a1_10 l1_11 a1_12 a1_13)))) = some r := h
 clear h
 replace H := Option.bind_eq_some_iff.mp H
 obtain ⟨t625, A60, H⟩ := H
 replace H : ((palletlaw13_few.f a1_0 a1_1 a1_2 a1_3 a1_4 a1_5 a1_6 a1_7 a1_8 a1_9 a1_10 l1_11 a1_12 a1_13 l4).bind fun t626 => (if t626 = true then ((node_Check.f k a0_0 a0_1 a0_2 a0_3 a0_4 a1_0 a1_1 a1_2 a1_3 a1_4 a1_5 a1_6 a1_7 a1_8 a1_9 a1_10 l1_11 a1_12 a1_13).bind fun t627 => (palletlaw13_NodeDeaf.j0 k a2 a3 l4 t625 (t627 != 0) a0_0 a0_1 a0_2 a0_3 a0_4 a1_0 a1_1 a1_2 a1_3 a1_4 a1_5 a1_6 a1_7 a1_8 a1_9 a1_10 l1_11 a1_12 a1_13)) else (palletlaw13_NodeDeaf.j0 k a2 a3 l4 t625 true a0_0 a0_1 a0_2 a0_3 a0_4 a1_0 a1_1 a1_2 a1_3 a1_4 a1_5 a1_6 a1_7 a1_8 a1_9 a1_10 l1_11 a1_12 a1_13))) = some r := H
 have A6 := asd A60
 clear A60
 have HC7 := asd H
 clear H
 go_enter Tryz.func3, Tryz.ntmps3
 go_upto_region 2 with (first | ((with_reducible refine gate_dst (N := 5) rfl ?_); (try (refine gate_guard (by rfl) ?_; dsimp only)); refine bx (N := 5) (cs := #[.int .i64 a0_0, .int .i64 a0_1, .int .i64 a0_2, .int .i64 a0_3, .int .i64 a0_4]) (t := 23) ?_; intro gb623 hg w8 hbox hb; have BK623 := asd (hbox); have GW623 := bz HB hg; have GE623 := bz HB hg; replace HB := bs HB hb; clear hb hbox hg) | ((with_reducible refine gate_dst (N := 6) rfl ?_); (try (refine gate_guard (by rfl) ?_; dsimp only)); refine bx (N := 6) (cs := #[.int .i64 a1_0, .int .i64 a1_1, .int .u64 a1_2, .int .i64 a1_3, .int .i64 a1_4, .int .i64 a1_5, .int .i64 a1_6, .int .i64 a1_7, .int .u16 a1_8, .int .i64 a1_9, .int .i64 a1_10, .slice A1_11 l1_11.length c1_11, .bool a1_12, .int .i64 a1_13]) (t := 32) ?_; intro gb624 hg w9 hbox hb; have BK624 := asd (hbox); have GW624 := bz HB hg; have GE624 := bz HB hg; have NB623_624 := nl BK623 hg; have NB624_623 := nr BK623 hg; replace BK623 := bb BK623 hb; replace HB := bs HB hb; clear hb hbox hg) | ((with_reducible refine gate_callee (f := 7) rfl ?_); refine gL (some 20) Tryz.func7 #[] ?_; (with_reducible refine (palletlaw13_live.calls k  t625 _ A6.out).mono ?_); rintro e w10 ⟨rfl, hb⟩; refine ⟨_, rfl, ?_⟩; replace BK623 := bb BK623 hb; replace BK624 := bb BK624 hb; replace HB := bs HB hb; (try clear hb)))
 (try simp only [Act.put, List.setIfInBounds_toArray, List.set_cons_zero, List.set_cons_succ])
 go_cut [30] (fun v30 wc => ∃ (kq : Nat) (x30_6 : Bool), v30 = .bool x30_6 ∧ Aside0 (palletlaw13_NodeDeaf.j0 kq a2 a3 l4 t625 x30_6 a0_0 a0_1 a0_2 a0_3 a0_4 a1_0 a1_1 a1_2 a1_3 a1_4 a1_5 a1_6 a1_7 a1_8 a1_9 a1_10 l1_11 a1_12 a1_13 = some r) ∧ Aside0 (kq ≤ k) ∧ Aside0 (wc.heap[gb623]? = some (.cells #[.int .i64 a0_0, .int .i64 a0_1, .int .i64 a0_2, .int .i64 a0_3, .int .i64 a0_4] 23 (0, 0))) ∧ Aside0 (wc.heap[gb624]? = some (.cells #[.int .i64 a1_0, .int .i64 a1_1, .int .u64 a1_2, .int .i64 a1_3, .int .i64 a1_4, .int .i64 a1_5, .int .i64 a1_6, .int .i64 a1_7, .int .u16 a1_8, .int .i64 a1_9, .int .i64 a1_10, (.slice A1_11 l1_11.length c1_11), .bool a1_12, .int .i64 a1_13] 32 (0, 0))) ∧ Aside0 (Below w.heap.size w wc))
 case first =>
  have H := HC7.out
  clear HC7
  replace H := Option.bind_eq_some_iff.mp H
  obtain ⟨t626, A110, H⟩ := H
  replace H : (if t626 = true then ((node_Check.f k a0_0 a0_1 a0_2 a0_3 a0_4 a1_0 a1_1 a1_2 a1_3 a1_4 a1_5 a1_6 a1_7 a1_8 a1_9 a1_10 l1_11 a1_12 a1_13).bind fun t627 => (palletlaw13_NodeDeaf.j0 k a2 a3 l4 t625 (t627 != 0) a0_0 a0_1 a0_2 a0_3 a0_4 a1_0 a1_1 a1_2 a1_3 a1_4 a1_5 a1_6 a1_7 a1_8 a1_9 a1_10 l1_11 a1_12 a1_13)) else (palletlaw13_NodeDeaf.j0 k a2 a3 l4 t625 true a0_0 a0_1 a0_2 a0_3 a0_4 a1_0 a1_1 a1_2 a1_3 a1_4 a1_5 a1_6 a1_7 a1_8 a1_9 a1_10 l1_11 a1_12 a1_13)) = some r := H
  have A11 := asd A110
  clear A110
  by_cases c12 : t626 = true
  ·subst c12
   have H1 : ((node_Check.f k a0_0 a0_1 a0_2 a0_3 a0_4 a1_0 a1_1 a1_2 a1_3 a1_4 a1_5 a1_6 a1_7 a1_8 a1_9 a1_10 l1_11 a1_12 a1_13).bind fun t627 => (palletlaw13_NodeDeaf.j0 k a2 a3 l4 t625 (t627 != 0) a0_0 a0_1 a0_2 a0_3 a0_4 a1_0 a1_1 a1_2 a1_3 a1_4 a1_5 a1_6 a1_7 a1_8 a1_9 a1_10 l1_11 a1_12 a1_13)) = some r := by rw [if_pos rfl] at H; exact H
   clear H
   have H := H1
   clear H1
   replace H := Option.bind_eq_some_iff.mp H
   obtain ⟨t627, A130, H⟩ := H
   replace H : (palletlaw13_NodeDeaf.j0 k a2 a3 l4 t625 (t627 != 0) a0_0 a0_1 a0_2 a0_3 a0_4 a1_0 a1_1 a1_2 a1_3 a1_4 a1_5 a1_6 a1_7 a1_8 a1_9 a1_10 l1_11 a1_12 a1_13) = some r := H
   have A13 := asd A130
   clear A130
   have H' := asd H
   clear H
   have hnb14 := NB624_623.out
   have hnc14 := NB623_624.out
   have hcz15 := cf14 BK624
   go_wp2_with (first | ((with_reducible refine gate_callee (f := 8) rfl ?_); refine gL (some 23) Tryz.func8 #[.agg #[.int .i64 a1_0, .int .i64 a1_1, .int .u64 a1_2, .int .i64 a1_3, .int .i64 a1_4, .int .i64 a1_5, .int .i64 a1_6, .int .i64 a1_7, .int .u16 a1_8, .int .i64 a1_9, .int .i64 a1_10, .slice A1_11 l1_11.length c1_11, .bool a1_12, .int .i64 a1_13], .slice A4 l4.length c4] ?_; (with_reducible refine (palletlaw13_few.calls a1_0 a1_1 a1_2 a1_3 a1_4 a1_5 a1_6 a1_7 a1_8 a1_9 a1_10 _ _ l1_11 a1_12 a1_13 _ _ l4 true _ ?side1 ?side2 ?side3 ?side4 A11.out).mono ?_); (case side1 => exact cb HR1_11 HB); (case side2 => exact HC1_11.out); (case side3 => exact cb HR4 HB); (case side4 => exact HC4.out); rintro e w16 ⟨rfl, hb⟩; refine ⟨_, rfl, ?_⟩; replace BK623 := bb BK623 hb; replace BK624 := bb BK624 hb; replace HB := bs HB hb; (try clear hb); have hcz17 := cf5 BK623; have hcz18 := cf14 BK624) | (go_at_call 9; (with_reducible refine (node_Check.calls k a0_0 a0_1 a0_2 a0_3 a0_4 a1_0 a1_1 a1_2 a1_3 a1_4 a1_5 a1_6 a1_7 a1_8 a1_9 a1_10 _ _ l1_11 a1_12 a1_13 t627 _ ?side1 ?side2 A13.out).mono ?_); (case side1 => exact cb HR1_11 HB); (case side2 => exact HC1_11.out); rintro e w19 ⟨rfl, hb⟩; replace BK623 := bb BK623 hb; replace BK624 := bb BK624 hb; replace HB := bs HB hb; (try clear hb)))
   go_meet
   case rel => exact ⟨_, ((t627 != 0)), (by first | rfl | (simp; done) | (simp [*]; done)), H', ⟨by first | omega | exact Nat.le_refl _⟩, ⟨by (with_reducible repeat (first | refine blk_drewN ?_ _ | refine blk_drew ?_ | refine blk_alloc ?_ _)); exact BK623.out⟩, ⟨by (with_reducible repeat (first | refine blk_drewN ?_ _ | refine blk_drew ?_ | refine blk_alloc ?_ _)); exact BK624.out⟩, ⟨by repeat (first | (with_reducible first | exact HB.out | apply below_alloc | apply pw_below_drewN | apply below_drew1 | refine below_set ?_ GE623.out | refine below_set ?_ GE624.out) | exact HB.out)⟩⟩
  ·replace c12 := Bool.eq_false_iff.mpr c12
   subst c12
   have H1 : (palletlaw13_NodeDeaf.j0 k a2 a3 l4 t625 true a0_0 a0_1 a0_2 a0_3 a0_4 a1_0 a1_1 a1_2 a1_3 a1_4 a1_5 a1_6 a1_7 a1_8 a1_9 a1_10 l1_11 a1_12 a1_13) = some r := by rw [if_neg (show ¬ (false = true) by decide)] at H; exact H
   clear H
   have H := H1
   clear H1
   have H' := asd H
   clear H
   have hnb20 := NB624_623.out
   have hnc20 := NB623_624.out
   have hcz21 := cf14 BK624
   go_wp2_with (first | ((with_reducible refine gate_callee (f := 8) rfl ?_); refine gL (some 23) Tryz.func8 #[.agg #[.int .i64 a1_0, .int .i64 a1_1, .int .u64 a1_2, .int .i64 a1_3, .int .i64 a1_4, .int .i64 a1_5, .int .i64 a1_6, .int .i64 a1_7, .int .u16 a1_8, .int .i64 a1_9, .int .i64 a1_10, .slice A1_11 l1_11.length c1_11, .bool a1_12, .int .i64 a1_13], .slice A4 l4.length c4] ?_; (with_reducible refine (palletlaw13_few.calls a1_0 a1_1 a1_2 a1_3 a1_4 a1_5 a1_6 a1_7 a1_8 a1_9 a1_10 _ _ l1_11 a1_12 a1_13 _ _ l4 false _ ?side1 ?side2 ?side3 ?side4 A11.out).mono ?_); (case side1 => exact cb HR1_11 HB); (case side2 => exact HC1_11.out); (case side3 => exact cb HR4 HB); (case side4 => exact HC4.out); rintro e w22 ⟨rfl, hb⟩; refine ⟨_, rfl, ?_⟩; replace BK623 := bb BK623 hb; replace BK624 := bb BK624 hb; replace HB := bs HB hb; (try clear hb)))
   go_meet
   case rel => exact ⟨_, (true), (by first | rfl | (simp; done) | (simp [*]; done)), H', ⟨by first | omega | exact Nat.le_refl _⟩, ⟨by (with_reducible repeat (first | refine blk_drewN ?_ _ | refine blk_drew ?_ | refine blk_alloc ?_ _)); exact BK623.out⟩, ⟨by (with_reducible repeat (first | refine blk_drewN ?_ _ | refine blk_drew ?_ | refine blk_alloc ?_ _)); exact BK624.out⟩, ⟨by repeat (first | (with_reducible first | exact HB.out | apply below_alloc | apply pw_below_drewN | apply below_drew1 | refine below_set ?_ GE623.out | refine below_set ?_ GE624.out) | exact HB.out)⟩⟩
 case rest =>
  clear HC7
  try clear c1
  try clear c2
  try clear p2
  try clear c3
  try clear c4
  try clear c7
  try clear c8
  try clear c12
  try clear c14
  try clear c20
  try clear hcz15
  try clear hcz15
  try clear hcz15
  try clear hcz15
  try clear hcz15
  try clear hcz15
  try clear hcz15
  try clear hcz15
  try clear hcz15
  try clear hcz15
  try clear hcz15
  try clear hcz15
  try clear hcz15
  try clear hcz15
  try clear hcz17
  try clear hcz17
  try clear hcz17
  try clear hcz17
  try clear hcz17
  try clear hcz18
  try clear hcz18
  try clear hcz18
  try clear hcz18
  try clear hcz18
  try clear hcz18
  try clear hcz18
  try clear hcz18
  try clear hcz18
  try clear hcz18
  try clear hcz18
  try clear hcz18
  try clear hcz18
  try clear hcz18
  try clear hcz21
  try clear hcz21
  try clear hcz21
  try clear hcz21
  try clear hcz21
  try clear hcz21
  try clear hcz21
  try clear hcz21
  try clear hcz21
  try clear hcz21
  try clear hcz21
  try clear hcz21
  try clear hcz21
  try clear hcz21
  try clear hcz15
  try clear hcz15
  try clear hcz15
  try clear hcz15
  try clear hcz15
  try clear hcz15
  try clear hcz15
  try clear hcz15
  try clear hcz15
  try clear hcz15
  try clear hcz15
  try clear hcz15
  try clear hcz15
  try clear hcz15
  try clear hcz17
  try clear hcz17
  try clear hcz17
  try clear hcz17
  try clear hcz17
  try clear hcz18
  try clear hcz18
  try clear hcz18
  try clear hcz18
  try clear hcz18
  try clear hcz18
  try clear hcz18
  try clear hcz18
  try clear hcz18
  try clear hcz18
  try clear hcz18
  try clear hcz18
  try clear hcz18
  try clear hcz18
  try clear hcz21
  try clear hcz21
  try clear hcz21
  try clear hcz21
  try clear hcz21
  try clear hcz21
  try clear hcz21
  try clear hcz21
  try clear hcz21
  try clear hcz21
  try clear hcz21
  try clear hcz21
  try clear hcz21
  try clear hcz21
  obtain ⟨kq, x30_6, rfl, HA, HJ6, BK623, BK624, HB⟩ := hcut
  cases kq with
  | zero => exact absurd HA.out (by simp [palletlaw13_NodeDeaf.j0])
  | succ kj6 =>
   have H := HA.out
   clear HA
   simp only [palletlaw13_NodeDeaf.j0] at H
   by_cases c23 : x30_6 = true
   ·subst c23
    have H1 : (some t625) = some r := by rw [if_pos rfl] at H; exact H
    clear H
    have H := H1
    clear H1
    obtain rfl := Option.some.inj H
    go_wp2
    go_ret
    exact ⟨by first | rfl | (simp [errW_none, errW_some] <;> rfl) | (simp [*, errW_none, errW_some] <;> rfl), by repeat (first | (with_reducible first | exact HB.out | apply below_alloc | apply pw_below_drewN | apply below_drew1 | refine below_set ?_ GE623.out | refine below_set ?_ GE624.out) | exact HB.out)⟩
   ·replace c23 := Bool.eq_false_iff.mpr c23
    subst c23
    have H1 : ((node_Hear.f kj6 a0_0 a0_1 a0_2 a0_3 a0_4 a1_0 a1_1 a1_2 a1_3 a1_4 a1_5 a1_6 a1_7 a1_8 a1_9 a1_10 l1_11 a1_12 a1_13 a2 a3 l4 true).bind fun bt628 => (if bt628.2.2.2.2.2.2.2.2.2.2.2.2.2.2.2 = 0 then ((node_Same.f kj6 bt628.1 bt628.2.1 bt628.2.2.1 bt628.2.2.2.1 bt628.2.2.2.2.1 bt628.2.2.2.2.2.1 bt628.2.2.2.2.2.2.1 bt628.2.2.2.2.2.2.2.1 bt628.2.2.2.2.2.2.2.2.1 bt628.2.2.2.2.2.2.2.2.2.1 bt628.2.2.2.2.2.2.2.2.2.2.1 bt628.2.2.2.2.2.2.2.2.2.2.2.1 bt628.2.2.2.2.2.2.2.2.2.2.2.2.1 bt628.2.2.2.2.2.2.2.2.2.2.2.2.2.1 a1_0 a1_1 a1_2 a1_3 a1_4 a1_5 a1_6 a1_7 a1_8 a1_9 a1_10 l1_11 a1_12 a1_13).bind fun t650 => (if t650 = true then (palletlaw13_NodeDeaf.j1 kj6 a2 a3 l4 t625 ((bt628.2.2.2.2.2.2.2.2.2.2.2.2.2.2.1.length : Int) != 0) a0_0 a0_1 a0_2 a0_3 a0_4 a1_0 a1_1 a1_2 a1_3 a1_4 a1_5 a1_6 a1_7 a1_8 a1_9 a1_10 l1_11 a1_12 a1_13) else (palletlaw13_NodeDeaf.j1 kj6 a2 a3 l4 t625 true a0_0 a0_1 a0_2 a0_3 a0_4 a1_0 a1_1 a1_2 a1_3 a1_4 a1_5 a1_6 a1_7 a1_8 a1_9 a1_10 l1_11 a1_12 a1_13))) else (if t625 = true then ((node_Same.f kj6 bt628.1 bt628.2.1 bt628.2.2.1 bt628.2.2.2.1 bt628.2.2.2.2.1 bt628.2.2.2.2.2.1 bt628.2.2.2.2.2.2.1 bt628.2.2.2.2.2.2.2.1 bt628.2.2.2.2.2.2.2.2.1 bt628.2.2.2.2.2.2.2.2.2.1 bt628.2.2.2.2.2.2.2.2.2.2.1 bt628.2.2.2.2.2.2.2.2.2.2.2.1 bt628.2.2.2.2.2.2.2.2.2.2.2.2.1 bt628.2.2.2.2.2.2.2.2.2.2.2.2.2.1 a1_0 a1_1 a1_2 a1_3 a1_4 a1_5 a1_6 a1_7 a1_8 a1_9 a1_10 l1_11 a1_12 a1_13).bind fun t649 => (if t649 = true then (some ((bt628.2.2.2.2.2.2.2.2.2.2.2.2.2.2.1.length : Int) == 0)) else (none))) else (none)))) = some r := by rw [if_neg (show ¬ (false = true) by decide)] at H; exact H
    clear H
    have H := H1
    clear H1
    replace H := Option.bind_eq_some_iff.mp H
    obtain ⟨⟨t628, t629, t630, t631, t632, t633, t634, t635, t636, t637, t638, t639, t642, t643, t644, t647⟩, A240, H⟩ := H
    replace H : (if t647 = 0 then ((node_Same.f kj6 t628 t629 t630 t631 t632 t633 t634 t635 t636 t637 t638 t639 t642 t643 a1_0 a1_1 a1_2 a1_3 a1_4 a1_5 a1_6 a1_7 a1_8 a1_9 a1_10 l1_11 a1_12 a1_13).bind fun t650 => (if t650 = true then (palletlaw13_NodeDeaf.j1 kj6 a2 a3 l4 t625 ((t644.length : Int) != 0) a0_0 a0_1 a0_2 a0_3 a0_4 a1_0 a1_1 a1_2 a1_3 a1_4 a1_5 a1_6 a1_7 a1_8 a1_9 a1_10 l1_11 a1_12 a1_13) else (palletlaw13_NodeDeaf.j1 kj6 a2 a3 l4 t625 true a0_0 a0_1 a0_2 a0_3 a0_4 a1_0 a1_1 a1_2 a1_3 a1_4 a1_5 a1_6 a1_7 a1_8 a1_9 a1_10 l1_11 a1_12 a1_13))) else (if t625 = true then ((node_Same.f kj6 t628 t629 t630 t631 t632 t633 t634 t635 t636 t637 t638 t639 t642 t643 a1_0 a1_1 a1_2 a1_3 a1_4 a1_5 a1_6 a1_7 a1_8 a1_9 a1_10 l1_11 a1_12 a1_13).bind fun t649 => (if t649 = true then (some ((t644.length : Int) == 0)) else (none))) else (none))) = some r := H
    have A24 := asd A240
    clear A240
    by_cases c25 : t647 = 0
    ·rw [if_pos c25] at H
     have c25b0 : (t647 == 0) = true := beq_iff_eq.mpr c25
     have c25b1 : (t647 != 0) = false := bne_eq_false_iff_eq.mpr c25
     clear c25
     have HC26 := asd H
     clear H
     have hnb27 := NB623_624.out
     have hnc27 := NB624_623.out
     have hcz28 := cf5 BK623
     have hcz29 := cf14 BK624
     go_upto_region 7 with (first | ((with_reducible refine gate_callee (f := 10) rfl ?_); refine gL (some 38) Tryz.func10 #[.agg #[.int .i64 a0_0, .int .i64 a0_1, .int .i64 a0_2, .int .i64 a0_3, .int .i64 a0_4], .agg #[.int .i64 a1_0, .int .i64 a1_1, .int .u64 a1_2, .int .i64 a1_3, .int .i64 a1_4, .int .i64 a1_5, .int .i64 a1_6, .int .i64 a1_7, .int .u16 a1_8, .int .i64 a1_9, .int .i64 a1_10, .slice A1_11 l1_11.length c1_11, .bool a1_12, .int .i64 a1_13], .int .i64 a2, .int .i64 a3, .slice A4 l4.length c4, .bool true] ?_; (with_reducible refine (node_Hear.calls kj6 a0_0 a0_1 a0_2 a0_3 a0_4 a1_0 a1_1 a1_2 a1_3 a1_4 a1_5 a1_6 a1_7 a1_8 a1_9 a1_10 _ _ l1_11 a1_12 a1_13 a2 a3 _ _ l4 true t628 t629 t630 t631 t632 t633 t634 t635 t636 t637 t638 t639 t642 t643 t644 t647 _ ?side1 ?side2 ?side3 ?side4 A24.out).mono ?_); (case side1 => exact cb HR1_11 HB); (case side2 => exact HC1_11.out); (case side3 => exact cb HR4 HB); (case side4 => exact HC4.out); rintro e w30 ⟨v640, v645, rfl, ho0, ho1, hb⟩; refine ⟨_, rfl, ?_⟩; have HO641 := rl ho0 HB; have HO646 := rl ho1 HB; replace BK623 := bb BK623 hb; replace BK624 := bb BK624 hb; replace HB := bs HB hb; (try clear hb); (try clear ho0); (try clear ho1)) | ((with_reducible refine gate_dst (N := 12) rfl ?_); (try (refine gate_guard (by rfl) ?_; dsimp only)); refine bx (N := 12) (cs := #[.int .i64 0, .int .i64 0, .int .u64 0, .int .i64 0, .int .i64 0, .int .i64 0, .int .i64 0, .int .i64 0, .int .u16 0, .int .i64 0, .int .i64 0, .slice none 0 0, .bool false, .int .i64 0]) (t := 32) ?_; intro gb648 hg w31 hbox hb; have BK648 := asd (hbox); have GW648 := bz HB hg; have GE648 := bz HB hg; have NB623_648 := nl BK623 hg; have NB648_623 := nr BK623 hg; have NB624_648 := nl BK624 hg; have NB648_624 := nr BK624 hg; replace HO641 := rb HO641 hb; replace HO646 := rb HO646 hb; replace BK623 := bb BK623 hb; replace BK624 := bb BK624 hb; replace HB := bs HB hb; clear hb hbox hg; have hnb32 := NB648_623.out; have hnc32 := NB623_648.out; have hnb33 := NB648_624.out; have hnc33 := NB624_648.out; have hcz34 := cf14 BK648; obtain ⟨Ao35, co35, eo35⟩ := Kd.R_slice HO641.out; subst eo35))
     (try simp only [Act.put, List.setIfInBounds_toArray, List.set_cons_zero, List.set_cons_succ])
     go_cut [63] (fun v63 wc => ∃ (kq : Nat) (x63_25 : Bool), v63 = .bool x63_25 ∧ Aside0 (palletlaw13_NodeDeaf.j1 kq a2 a3 l4 t625 x63_25 a0_0 a0_1 a0_2 a0_3 a0_4 a1_0 a1_1 a1_2 a1_3 a1_4 a1_5 a1_6 a1_7 a1_8 a1_9 a1_10 l1_11 a1_12 a1_13 = some r) ∧ Aside0 (kq ≤ kj6) ∧ Aside0 (Kd.R (Kd.int .i64) 2 wc w.heap.size (fun _ => True) (.slice Ao35 t639.length co35) t639) ∧ Aside0 (wc.heap[gb623]? = some (.cells #[.int .i64 a0_0, .int .i64 a0_1, .int .i64 a0_2, .int .i64 a0_3, .int .i64 a0_4] 23 (0, 0))) ∧ Aside0 (wc.heap[gb624]? = some (.cells #[.int .i64 a1_0, .int .i64 a1_1, .int .u64 a1_2, .int .i64 a1_3, .int .i64 a1_4, .int .i64 a1_5, .int .i64 a1_6, .int .i64 a1_7, .int .u16 a1_8, .int .i64 a1_9, .int .i64 a1_10, (.slice A1_11 l1_11.length c1_11), .bool a1_12, .int .i64 a1_13] 32 (0, 0))) ∧ Aside0 (wc.heap[gb648]? = some (.cells #[.int .i64 t628, .int .i64 t629, .int .u64 t630, .int .i64 t631, .int .i64 t632, .int .i64 t633, .int .i64 t634, .int .i64 t635, .int .u16 t636, .int .i64 t637, .int .i64 t638, (.slice Ao35 t639.length co35), .bool t642, .int .i64 t643] 32 (0, 0))) ∧ Aside0 (Below w.heap.size w wc))
     case first =>
      have H := HC26.out
      clear HC26
      replace H := Option.bind_eq_some_iff.mp H
      obtain ⟨t650, A360, H⟩ := H
      replace H : (if t650 = true then (palletlaw13_NodeDeaf.j1 kj6 a2 a3 l4 t625 ((t644.length : Int) != 0) a0_0 a0_1 a0_2 a0_3 a0_4 a1_0 a1_1 a1_2 a1_3 a1_4 a1_5 a1_6 a1_7 a1_8 a1_9 a1_10 l1_11 a1_12 a1_13) else (palletlaw13_NodeDeaf.j1 kj6 a2 a3 l4 t625 true a0_0 a0_1 a0_2 a0_3 a0_4 a1_0 a1_1 a1_2 a1_3 a1_4 a1_5 a1_6 a1_7 a1_8 a1_9 a1_10 l1_11 a1_12 a1_13)) = some r := H
      have A36 := asd A360
      clear A360
      by_cases c37 : t650 = true
      ·subst c37
       have H1 : (palletlaw13_NodeDeaf.j1 kj6 a2 a3 l4 t625 ((t644.length : Int) != 0) a0_0 a0_1 a0_2 a0_3 a0_4 a1_0 a1_1 a1_2 a1_3 a1_4 a1_5 a1_6 a1_7 a1_8 a1_9 a1_10 l1_11 a1_12 a1_13) = some r := by rw [if_pos rfl] at H; exact H
       clear H
       have H := H1
       clear H1
       have H' := asd H
       clear H
       have hnb38 := NB648_623.out
       have hnc38 := NB623_648.out
       have hnb39 := NB648_624.out
       have hnc39 := NB624_648.out
       have hcz40 := cf14 BK648
       have hnb41 := NB624_623.out
       have hnc41 := NB623_624.out
       have hcz42 := cf14 BK624
       go_wp2_with (first | ((with_reducible refine gate_callee (f := 11) rfl ?_); refine gL (some 57) Tryz.func11 #[.agg #[.int .i64 t628, .int .i64 t629, .int .u64 t630, .int .i64 t631, .int .i64 t632, .int .i64 t633, .int .i64 t634, .int .i64 t635, .int .u16 t636, .int .i64 t637, .int .i64 t638, .slice Ao35 t639.length co35, .bool t642, .int .i64 t643], .agg #[.int .i64 a1_0, .int .i64 a1_1, .int .u64 a1_2, .int .i64 a1_3, .int .i64 a1_4, .int .i64 a1_5, .int .i64 a1_6, .int .i64 a1_7, .int .u16 a1_8, .int .i64 a1_9, .int .i64 a1_10, .slice A1_11 l1_11.length c1_11, .bool a1_12, .int .i64 a1_13]] ?_; (with_reducible refine (node_Same.calls kj6 t628 t629 t630 t631 t632 t633 t634 t635 t636 t637 t638 _ _ t639 t642 t643 a1_0 a1_1 a1_2 a1_3 a1_4 a1_5 a1_6 a1_7 a1_8 a1_9 a1_10 _ _ l1_11 a1_12 a1_13 true _ ?side1 ?side2 ?side3 ?side4 A36.out).mono ?_); (case side1 => refine (Kd.R_reads' (e := 2) (base := w.heap.size) (ok := fun k_ => True) (n := t639.length) (c := co35) ?_).2.2; exact (by (with_reducible repeat (first | apply Kd.R_alloc | apply Kd.R_drewN | apply Kd.R_drew)); exact (Kd.R_mono (Kd.R_far (p := ⟨gb648, 13, none⟩) (Kd.R_far (p := ⟨gb648, 12, none⟩) (Kd.R_far (p := ⟨gb648, 11, none⟩) (Kd.R_far (p := ⟨gb648, 10, none⟩) (Kd.R_far (p := ⟨gb648, 9, none⟩) (Kd.R_far (p := ⟨gb648, 8, none⟩) (Kd.R_far (p := ⟨gb648, 7, none⟩) (Kd.R_far (p := ⟨gb648, 6, none⟩) (Kd.R_far (p := ⟨gb648, 5, none⟩) (Kd.R_far (p := ⟨gb648, 4, none⟩) (Kd.R_far (p := ⟨gb648, 3, none⟩) (Kd.R_far (p := ⟨gb648, 2, none⟩) (Kd.R_far (p := ⟨gb648, 1, none⟩) (Kd.R_far (p := ⟨gb648, 0, none⟩) (Kd.R_types HO641.out BK648.out (by decide)) (fun _ hk => hk.2) (.int .i64 t628)) (fun _ hk => hk.2) (.int .i64 t629)) (fun _ hk => hk.2) (.int .u64 t630)) (fun _ hk => hk.2) (.int .i64 t631)) (fun _ hk => hk.2) (.int .i64 t632)) (fun _ hk => hk.2) (.int .i64 t633)) (fun _ hk => hk.2) (.int .i64 t634)) (fun _ hk => hk.2) (.int .i64 t635)) (fun _ hk => hk.2) (.int .u16 t636)) (fun _ hk => hk.2) (.int .i64 t637)) (fun _ hk => hk.2) (.int .i64 t638)) (fun _ hk => hk.2) (.slice Ao35 t639.length co35)) (fun _ hk => hk.2) (.bool t642)) (fun _ hk => hk.2) (.int .i64 t643)) (fun _ h_ => h_.1)))); (case side2 => exact (Kd.R_reads' HO641.out).2.1); (case side3 => exact cb HR1_11 HB); (case side4 => exact HC1_11.out); rintro e w43 ⟨rfl, hb⟩; refine ⟨_, rfl, ?_⟩; have n0_ := asd (Kd.R_below (by (with_reducible repeat (first | apply Kd.R_alloc | apply Kd.R_drewN | apply Kd.R_drew)); exact (Kd.R_mono (Kd.R_far (p := ⟨gb648, 13, none⟩) (Kd.R_far (p := ⟨gb648, 12, none⟩) (Kd.R_far (p := ⟨gb648, 11, none⟩) (Kd.R_far (p := ⟨gb648, 10, none⟩) (Kd.R_far (p := ⟨gb648, 9, none⟩) (Kd.R_far (p := ⟨gb648, 8, none⟩) (Kd.R_far (p := ⟨gb648, 7, none⟩) (Kd.R_far (p := ⟨gb648, 6, none⟩) (Kd.R_far (p := ⟨gb648, 5, none⟩) (Kd.R_far (p := ⟨gb648, 4, none⟩) (Kd.R_far (p := ⟨gb648, 3, none⟩) (Kd.R_far (p := ⟨gb648, 2, none⟩) (Kd.R_far (p := ⟨gb648, 1, none⟩) (Kd.R_far (p := ⟨gb648, 0, none⟩) (Kd.R_types HO641.out BK648.out (by decide)) (fun _ hk => hk.2) (.int .i64 t628)) (fun _ hk => hk.2) (.int .i64 t629)) (fun _ hk => hk.2) (.int .u64 t630)) (fun _ hk => hk.2) (.int .i64 t631)) (fun _ hk => hk.2) (.int .i64 t632)) (fun _ hk => hk.2) (.int .i64 t633)) (fun _ hk => hk.2) (.int .i64 t634)) (fun _ hk => hk.2) (.int .i64 t635)) (fun _ hk => hk.2) (.int .u16 t636)) (fun _ hk => hk.2) (.int .i64 t637)) (fun _ hk => hk.2) (.int .i64 t638)) (fun _ hk => hk.2) (.slice Ao35 t639.length co35)) (fun _ hk => hk.2) (.bool t642)) (fun _ hk => hk.2) (.int .i64 t643)) (fun _ h_ => h_.1))) hb); have n1_ := asd (Kd.R_below (by (with_reducible repeat (first | apply Kd.R_alloc | apply Kd.R_drewN | apply Kd.R_drew)); exact (Kd.R_mono (Kd.R_far (p := ⟨gb648, 13, none⟩) (Kd.R_far (p := ⟨gb648, 12, none⟩) (Kd.R_far (p := ⟨gb648, 11, none⟩) (Kd.R_far (p := ⟨gb648, 10, none⟩) (Kd.R_far (p := ⟨gb648, 9, none⟩) (Kd.R_far (p := ⟨gb648, 8, none⟩) (Kd.R_far (p := ⟨gb648, 7, none⟩) (Kd.R_far (p := ⟨gb648, 6, none⟩) (Kd.R_far (p := ⟨gb648, 5, none⟩) (Kd.R_far (p := ⟨gb648, 4, none⟩) (Kd.R_far (p := ⟨gb648, 3, none⟩) (Kd.R_far (p := ⟨gb648, 2, none⟩) (Kd.R_far (p := ⟨gb648, 1, none⟩) (Kd.R_far (p := ⟨gb648, 0, none⟩) (Kd.R_types HO646.out BK648.out (by decide)) (fun _ hk => hk.2) (.int .i64 t628)) (fun _ hk => hk.2) (.int .i64 t629)) (fun _ hk => hk.2) (.int .u64 t630)) (fun _ hk => hk.2) (.int .i64 t631)) (fun _ hk => hk.2) (.int .i64 t632)) (fun _ hk => hk.2) (.int .i64 t633)) (fun _ hk => hk.2) (.int .i64 t634)) (fun _ hk => hk.2) (.int .i64 t635)) (fun _ hk => hk.2) (.int .u16 t636)) (fun _ hk => hk.2) (.int .i64 t637)) (fun _ hk => hk.2) (.int .i64 t638)) (fun _ hk => hk.2) (.slice Ao35 t639.length co35)) (fun _ hk => hk.2) (.bool t642)) (fun _ hk => hk.2) (.int .i64 t643)) (fun _ h_ => h_.1))) hb); have n2_ := fq NB623_648 BK623 hb; have n3_ := fq NB624_648 BK624 hb; have n4_ := asd (blk_below (bp14 BK648).out hb); have n5_ := bs HB hb; clear HO641 HO646 BK623 BK624 BK648 HB; have HO641 := n0_; have HO646 := n1_; have BK623 := n2_; have BK624 := n3_; have BK648 := n4_; have HB := n5_; clear n0_ n1_ n2_ n3_ n4_ n5_; (try clear hb); (try clear hk); obtain ⟨Ao44, co44, eo44⟩ := Kd.R_slice HO646.out; subst eo44))
       go_meet
       case rel => exact ⟨_, (((t644.length : Int) != 0)), (by first | rfl | (simp; done) | (simp [*]; done)), H', ⟨by have := HJ6.out; first | omega | exact Nat.le_refl _⟩, ⟨by (with_reducible repeat (first | apply Kd.R_alloc | apply Kd.R_drewN | apply Kd.R_drew)); exact HO641.out⟩, ⟨by (with_reducible repeat (first | refine blk_drewN ?_ _ | refine blk_drew ?_ | refine blk_alloc ?_ _)); exact BK623.out⟩, ⟨by (with_reducible repeat (first | refine blk_drewN ?_ _ | refine blk_drew ?_ | refine blk_alloc ?_ _)); exact BK624.out⟩, ⟨by (with_reducible repeat (first | refine blk_drewN ?_ _ | refine blk_drew ?_ | refine blk_alloc ?_ _)); exact BK648.out⟩, ⟨by repeat (first | (with_reducible first | exact HB.out | apply below_alloc | apply pw_below_drewN | apply below_drew1 | refine below_set ?_ GE623.out | refine below_set ?_ GE624.out | refine below_set ?_ GE648.out) | exact HB.out)⟩⟩
      ·replace c37 := Bool.eq_false_iff.mpr c37
       subst c37
       have H1 : (palletlaw13_NodeDeaf.j1 kj6 a2 a3 l4 t625 true a0_0 a0_1 a0_2 a0_3 a0_4 a1_0 a1_1 a1_2 a1_3 a1_4 a1_5 a1_6 a1_7 a1_8 a1_9 a1_10 l1_11 a1_12 a1_13) = some r := by rw [if_neg (show ¬ (false = true) by decide)] at H; exact H
       clear H
       have H := H1
       clear H1
       have H' := asd H
       clear H
       have hnb45 := NB648_623.out
       have hnc45 := NB623_648.out
       have hnb46 := NB648_624.out
       have hnc46 := NB624_648.out
       have hcz47 := cf14 BK648
       have hnb48 := NB624_623.out
       have hnc48 := NB623_624.out
       have hcz49 := cf14 BK624
       go_wp2_with (first | ((with_reducible refine gate_callee (f := 11) rfl ?_); refine gL (some 57) Tryz.func11 #[.agg #[.int .i64 t628, .int .i64 t629, .int .u64 t630, .int .i64 t631, .int .i64 t632, .int .i64 t633, .int .i64 t634, .int .i64 t635, .int .u16 t636, .int .i64 t637, .int .i64 t638, .slice Ao35 t639.length co35, .bool t642, .int .i64 t643], .agg #[.int .i64 a1_0, .int .i64 a1_1, .int .u64 a1_2, .int .i64 a1_3, .int .i64 a1_4, .int .i64 a1_5, .int .i64 a1_6, .int .i64 a1_7, .int .u16 a1_8, .int .i64 a1_9, .int .i64 a1_10, .slice A1_11 l1_11.length c1_11, .bool a1_12, .int .i64 a1_13]] ?_; (with_reducible refine (node_Same.calls kj6 t628 t629 t630 t631 t632 t633 t634 t635 t636 t637 t638 _ _ t639 t642 t643 a1_0 a1_1 a1_2 a1_3 a1_4 a1_5 a1_6 a1_7 a1_8 a1_9 a1_10 _ _ l1_11 a1_12 a1_13 false _ ?side1 ?side2 ?side3 ?side4 A36.out).mono ?_); (case side1 => refine (Kd.R_reads' (e := 2) (base := w.heap.size) (ok := fun k_ => True) (n := t639.length) (c := co35) ?_).2.2; exact (by (with_reducible repeat (first | apply Kd.R_alloc | apply Kd.R_drewN | apply Kd.R_drew)); exact (Kd.R_mono (Kd.R_far (p := ⟨gb648, 13, none⟩) (Kd.R_far (p := ⟨gb648, 12, none⟩) (Kd.R_far (p := ⟨gb648, 11, none⟩) (Kd.R_far (p := ⟨gb648, 10, none⟩) (Kd.R_far (p := ⟨gb648, 9, none⟩) (Kd.R_far (p := ⟨gb648, 8, none⟩) (Kd.R_far (p := ⟨gb648, 7, none⟩) (Kd.R_far (p := ⟨gb648, 6, none⟩) (Kd.R_far (p := ⟨gb648, 5, none⟩) (Kd.R_far (p := ⟨gb648, 4, none⟩) (Kd.R_far (p := ⟨gb648, 3, none⟩) (Kd.R_far (p := ⟨gb648, 2, none⟩) (Kd.R_far (p := ⟨gb648, 1, none⟩) (Kd.R_far (p := ⟨gb648, 0, none⟩) (Kd.R_types HO641.out BK648.out (by decide)) (fun _ hk => hk.2) (.int .i64 t628)) (fun _ hk => hk.2) (.int .i64 t629)) (fun _ hk => hk.2) (.int .u64 t630)) (fun _ hk => hk.2) (.int .i64 t631)) (fun _ hk => hk.2) (.int .i64 t632)) (fun _ hk => hk.2) (.int .i64 t633)) (fun _ hk => hk.2) (.int .i64 t634)) (fun _ hk => hk.2) (.int .i64 t635)) (fun _ hk => hk.2) (.int .u16 t636)) (fun _ hk => hk.2) (.int .i64 t637)) (fun _ hk => hk.2) (.int .i64 t638)) (fun _ hk => hk.2) (.slice Ao35 t639.length co35)) (fun _ hk => hk.2) (.bool t642)) (fun _ hk => hk.2) (.int .i64 t643)) (fun _ h_ => h_.1)))); (case side2 => exact (Kd.R_reads' HO641.out).2.1); (case side3 => exact cb HR1_11 HB); (case side4 => exact HC1_11.out); rintro e w50 ⟨rfl, hb⟩; refine ⟨_, rfl, ?_⟩; have n0_ := asd (Kd.R_below (by (with_reducible repeat (first | apply Kd.R_alloc | apply Kd.R_drewN | apply Kd.R_drew)); exact (Kd.R_mono (Kd.R_far (p := ⟨gb648, 13, none⟩) (Kd.R_far (p := ⟨gb648, 12, none⟩) (Kd.R_far (p := ⟨gb648, 11, none⟩) (Kd.R_far (p := ⟨gb648, 10, none⟩) (Kd.R_far (p := ⟨gb648, 9, none⟩) (Kd.R_far (p := ⟨gb648, 8, none⟩) (Kd.R_far (p := ⟨gb648, 7, none⟩) (Kd.R_far (p := ⟨gb648, 6, none⟩) (Kd.R_far (p := ⟨gb648, 5, none⟩) (Kd.R_far (p := ⟨gb648, 4, none⟩) (Kd.R_far (p := ⟨gb648, 3, none⟩) (Kd.R_far (p := ⟨gb648, 2, none⟩) (Kd.R_far (p := ⟨gb648, 1, none⟩) (Kd.R_far (p := ⟨gb648, 0, none⟩) (Kd.R_types HO641.out BK648.out (by decide)) (fun _ hk => hk.2) (.int .i64 t628)) (fun _ hk => hk.2) (.int .i64 t629)) (fun _ hk => hk.2) (.int .u64 t630)) (fun _ hk => hk.2) (.int .i64 t631)) (fun _ hk => hk.2) (.int .i64 t632)) (fun _ hk => hk.2) (.int .i64 t633)) (fun _ hk => hk.2) (.int .i64 t634)) (fun _ hk => hk.2) (.int .i64 t635)) (fun _ hk => hk.2) (.int .u16 t636)) (fun _ hk => hk.2) (.int .i64 t637)) (fun _ hk => hk.2) (.int .i64 t638)) (fun _ hk => hk.2) (.slice Ao35 t639.length co35)) (fun _ hk => hk.2) (.bool t642)) (fun _ hk => hk.2) (.int .i64 t643)) (fun _ h_ => h_.1))) hb); have n1_ := asd (Kd.R_below (by (with_reducible repeat (first | apply Kd.R_alloc | apply Kd.R_drewN | apply Kd.R_drew)); exact (Kd.R_mono (Kd.R_far (p := ⟨gb648, 13, none⟩) (Kd.R_far (p := ⟨gb648, 12, none⟩) (Kd.R_far (p := ⟨gb648, 11, none⟩) (Kd.R_far (p := ⟨gb648, 10, none⟩) (Kd.R_far (p := ⟨gb648, 9, none⟩) (Kd.R_far (p := ⟨gb648, 8, none⟩) (Kd.R_far (p := ⟨gb648, 7, none⟩) (Kd.R_far (p := ⟨gb648, 6, none⟩) (Kd.R_far (p := ⟨gb648, 5, none⟩) (Kd.R_far (p := ⟨gb648, 4, none⟩) (Kd.R_far (p := ⟨gb648, 3, none⟩) (Kd.R_far (p := ⟨gb648, 2, none⟩) (Kd.R_far (p := ⟨gb648, 1, none⟩) (Kd.R_far (p := ⟨gb648, 0, none⟩) (Kd.R_types HO646.out BK648.out (by decide)) (fun _ hk => hk.2) (.int .i64 t628)) (fun _ hk => hk.2) (.int .i64 t629)) (fun _ hk => hk.2) (.int .u64 t630)) (fun _ hk => hk.2) (.int .i64 t631)) (fun _ hk => hk.2) (.int .i64 t632)) (fun _ hk => hk.2) (.int .i64 t633)) (fun _ hk => hk.2) (.int .i64 t634)) (fun _ hk => hk.2) (.int .i64 t635)) (fun _ hk => hk.2) (.int .u16 t636)) (fun _ hk => hk.2) (.int .i64 t637)) (fun _ hk => hk.2) (.int .i64 t638)) (fun _ hk => hk.2) (.slice Ao35 t639.length co35)) (fun _ hk => hk.2) (.bool t642)) (fun _ hk => hk.2) (.int .i64 t643)) (fun _ h_ => h_.1))) hb); have n2_ := fq NB623_648 BK623 hb; have n3_ := fq NB624_648 BK624 hb; have n4_ := asd (blk_below (bp14 BK648).out hb); have n5_ := bs HB hb; clear HO641 HO646 BK623 BK624 BK648 HB; have HO641 := n0_; have HO646 := n1_; have BK623 := n2_; have BK624 := n3_; have BK648 := n4_; have HB := n5_; clear n0_ n1_ n2_ n3_ n4_ n5_; (try clear hb); (try clear hk)))
       go_meet
       case rel => exact ⟨_, (true), (by first | rfl | (simp; done) | (simp [*]; done)), H', ⟨by have := HJ6.out; first | omega | exact Nat.le_refl _⟩, ⟨by (with_reducible repeat (first | apply Kd.R_alloc | apply Kd.R_drewN | apply Kd.R_drew)); exact HO641.out⟩, ⟨by (with_reducible repeat (first | refine blk_drewN ?_ _ | refine blk_drew ?_ | refine blk_alloc ?_ _)); exact BK623.out⟩, ⟨by (with_reducible repeat (first | refine blk_drewN ?_ _ | refine blk_drew ?_ | refine blk_alloc ?_ _)); exact BK624.out⟩, ⟨by (with_reducible repeat (first | refine blk_drewN ?_ _ | refine blk_drew ?_ | refine blk_alloc ?_ _)); exact BK648.out⟩, ⟨by repeat (first | (with_reducible first | exact HB.out | apply below_alloc | apply pw_below_drewN | apply below_drew1 | refine below_set ?_ GE623.out | refine below_set ?_ GE624.out | refine below_set ?_ GE648.out) | exact HB.out)⟩⟩
     case rest =>
      clear HC26
      try clear c1
      try clear c2
      try clear p2
      try clear c3
      try clear c4
      try clear c7
      try clear c8
      try clear c10
      try clear c11
      try clear c12
      try clear c14
      try clear c20
      try clear c23
      try clear c25
      try clear c25b0
      try clear c25b1
      try clear c27
      try clear c32
      try clear c33
      try clear c37
      try clear c38
      try clear c39
      try clear c41
      try clear c45
      try clear c46
      try clear c48
      try clear hcz15
      try clear hcz15
      try clear hcz15
      try clear hcz15
      try clear hcz15
      try clear hcz15
      try clear hcz15
      try clear hcz15
      try clear hcz15
      try clear hcz15
      try clear hcz15
      try clear hcz15
      try clear hcz15
      try clear hcz15
      try clear hcz17
      try clear hcz17
      try clear hcz17
      try clear hcz17
      try clear hcz17
      try clear hcz18
      try clear hcz18
      try clear hcz18
      try clear hcz18
      try clear hcz18
      try clear hcz18
      try clear hcz18
      try clear hcz18
      try clear hcz18
      try clear hcz18
      try clear hcz18
      try clear hcz18
      try clear hcz18
      try clear hcz18
      try clear hcz21
      try clear hcz21
      try clear hcz21
      try clear hcz21
      try clear hcz21
      try clear hcz21
      try clear hcz21
      try clear hcz21
      try clear hcz21
      try clear hcz21
      try clear hcz21
      try clear hcz21
      try clear hcz21
      try clear hcz21
      try clear hcz28
      try clear hcz28
      try clear hcz28
      try clear hcz28
      try clear hcz28
      try clear hcz29
      try clear hcz29
      try clear hcz29
      try clear hcz29
      try clear hcz29
      try clear hcz29
      try clear hcz29
      try clear hcz29
      try clear hcz29
      try clear hcz29
      try clear hcz29
      try clear hcz29
      try clear hcz29
      try clear hcz29
      try clear hcz34
      try clear hcz34
      try clear hcz34
      try clear hcz34
      try clear hcz34
      try clear hcz34
      try clear hcz34
      try clear hcz34
      try clear hcz34
      try clear hcz34
      try clear hcz34
      try clear hcz34
      try clear hcz34
      try clear hcz34
      try clear hcz40
      try clear hcz40
      try clear hcz40
      try clear hcz40
      try clear hcz40
      try clear hcz40
      try clear hcz40
      try clear hcz40
      try clear hcz40
      try clear hcz40
      try clear hcz40
      try clear hcz40
      try clear hcz40
      try clear hcz40
      try clear hcz42
      try clear hcz42
      try clear hcz42
      try clear hcz42
      try clear hcz42
      try clear hcz42
      try clear hcz42
      try clear hcz42
      try clear hcz42
      try clear hcz42
      try clear hcz42
      try clear hcz42
      try clear hcz42
      try clear hcz42
      try clear hcz47
      try clear hcz47
      try clear hcz47
      try clear hcz47
      try clear hcz47
      try clear hcz47
      try clear hcz47
      try clear hcz47
      try clear hcz47
      try clear hcz47
      try clear hcz47
      try clear hcz47
      try clear hcz47
      try clear hcz47
      try clear hcz49
      try clear hcz49
      try clear hcz49
      try clear hcz49
      try clear hcz49
      try clear hcz49
      try clear hcz49
      try clear hcz49
      try clear hcz49
      try clear hcz49
      try clear hcz49
      try clear hcz49
      try clear hcz49
      try clear hcz49
      try clear hcz15
      try clear hcz15
      try clear hcz15
      try clear hcz15
      try clear hcz15
      try clear hcz15
      try clear hcz15
      try clear hcz15
      try clear hcz15
      try clear hcz15
      try clear hcz15
      try clear hcz15
      try clear hcz15
      try clear hcz15
      try clear hcz17
      try clear hcz17
      try clear hcz17
      try clear hcz17
      try clear hcz17
      try clear hcz18
      try clear hcz18
      try clear hcz18
      try clear hcz18
      try clear hcz18
      try clear hcz18
      try clear hcz18
      try clear hcz18
      try clear hcz18
      try clear hcz18
      try clear hcz18
      try clear hcz18
      try clear hcz18
      try clear hcz18
      try clear hcz21
      try clear hcz21
      try clear hcz21
      try clear hcz21
      try clear hcz21
      try clear hcz21
      try clear hcz21
      try clear hcz21
      try clear hcz21
      try clear hcz21
      try clear hcz21
      try clear hcz21
      try clear hcz21
      try clear hcz21
      try clear hcz28
      try clear hcz28
      try clear hcz28
      try clear hcz28
      try clear hcz28
      try clear hcz29
      try clear hcz29
      try clear hcz29
      try clear hcz29
      try clear hcz29
      try clear hcz29
      try clear hcz29
      try clear hcz29
      try clear hcz29
      try clear hcz29
      try clear hcz29
      try clear hcz29
      try clear hcz29
      try clear hcz29
      try clear hcz34
      try clear hcz34
      try clear hcz34
      try clear hcz34
      try clear hcz34
      try clear hcz34
      try clear hcz34
      try clear hcz34
      try clear hcz34
      try clear hcz34
      try clear hcz34
      try clear hcz34
      try clear hcz34
      try clear hcz34
      try clear hcz40
      try clear hcz40
      try clear hcz40
      try clear hcz40
      try clear hcz40
      try clear hcz40
      try clear hcz40
      try clear hcz40
      try clear hcz40
      try clear hcz40
      try clear hcz40
      try clear hcz40
      try clear hcz40
      try clear hcz40
      try clear hcz42
      try clear hcz42
      try clear hcz42
      try clear hcz42
      try clear hcz42
      try clear hcz42
      try clear hcz42
      try clear hcz42
      try clear hcz42
      try clear hcz42
      try clear hcz42
      try clear hcz42
      try clear hcz42
      try clear hcz42
      try clear hcz47
      try clear hcz47
      try clear hcz47
      try clear hcz47
      try clear hcz47
      try clear hcz47
      try clear hcz47
      try clear hcz47
      try clear hcz47
      try clear hcz47
      try clear hcz47
      try clear hcz47
      try clear hcz47
      try clear hcz47
      try clear hcz49
      try clear hcz49
      try clear hcz49
      try clear hcz49
      try clear hcz49
      try clear hcz49
      try clear hcz49
      try clear hcz49
      try clear hcz49
      try clear hcz49
      try clear hcz49
      try clear hcz49
      try clear hcz49
      try clear hcz49
      try clear p2
      obtain ⟨kq, x63_25, rfl, HA, HJ25, HO_649011, BK623, BK624, BK648, HB⟩ := hcut
      cases kq with
      | zero => exact absurd HA.out (by simp [palletlaw13_NodeDeaf.j1])
      | succ kj25 =>
       have H := HA.out
       clear HA
       simp only [palletlaw13_NodeDeaf.j1] at H
       by_cases c51 : x63_25 = true
       ·subst c51
        have H1 : (none) = some r := by rw [if_pos rfl] at H; exact H
        clear H
        have H := H1
        clear H1
        exact absurd H (by simp)
       ·replace c51 := Bool.eq_false_iff.mpr c51
        subst c51
        have H1 : ((frame_Read.f kj25 l4).bind fun bt651 => ((node_Hear.f kj25 a0_0 a0_1 a0_2 a0_3 a0_4 a1_0 a1_1 a1_2 a1_3 a1_4 a1_5 a1_6 a1_7 a1_8 a1_9 a1_10 l1_11 a1_12 a1_13 a2 a3 l4 false).bind fun bt657 => (if bt651.2.2.2.2 = 0 then (if bt651.2.1 = a1_0 then (palletlaw13_NodeDeaf.j2 kj25 t625 bt657.2.2.2.2.2.2.2.2.2.2.2.2.2.2.1 bt657.2.2.2.2.2.2.2.2.2.2.2.2.2.2.2 true a1_0 a1_1 a1_2 a1_3 a1_4 a1_5 a1_6 a1_7 a1_8 a1_9 a1_10 l1_11 a1_12 a1_13 bt657.1 bt657.2.1 bt657.2.2.1 bt657.2.2.2.1 bt657.2.2.2.2.1 bt657.2.2.2.2.2.1 bt657.2.2.2.2.2.2.1 bt657.2.2.2.2.2.2.2.1 bt657.2.2.2.2.2.2.2.2.1 bt657.2.2.2.2.2.2.2.2.2.1 bt657.2.2.2.2.2.2.2.2.2.2.1 bt657.2.2.2.2.2.2.2.2.2.2.2.1 bt657.2.2.2.2.2.2.2.2.2.2.2.2.1 bt657.2.2.2.2.2.2.2.2.2.2.2.2.2.1) else (if a1_1 = 0 then (palletlaw13_NodeDeaf.j2 kj25 t625 bt657.2.2.2.2.2.2.2.2.2.2.2.2.2.2.1 bt657.2.2.2.2.2.2.2.2.2.2.2.2.2.2.2 true a1_0 a1_1 a1_2 a1_3 a1_4 a1_5 a1_6 a1_7 a1_8 a1_9 a1_10 l1_11 a1_12 a1_13 bt657.1 bt657.2.1 bt657.2.2.1 bt657.2.2.2.1 bt657.2.2.2.2.1 bt657.2.2.2.2.2.1 bt657.2.2.2.2.2.2.1 bt657.2.2.2.2.2.2.2.1 bt657.2.2.2.2.2.2.2.2.1 bt657.2.2.2.2.2.2.2.2.2.1 bt657.2.2.2.2.2.2.2.2.2.2.1 bt657.2.2.2.2.2.2.2.2.2.2.2.1 bt657.2.2.2.2.2.2.2.2.2.2.2.2.1 bt657.2.2.2.2.2.2.2.2.2.2.2.2.2.1) else (palletlaw13_NodeDeaf.j2 kj25 t625 bt657.2.2.2.2.2.2.2.2.2.2.2.2.2.2.1 bt657.2.2.2.2.2.2.2.2.2.2.2.2.2.2.2 (a1_1 == 3) a1_0 a1_1 a1_2 a1_3 a1_4 a1_5 a1_6 a1_7 a1_8 a1_9 a1_10 l1_11 a1_12 a1_13 bt657.1 bt657.2.1 bt657.2.2.1 bt657.2.2.2.1 bt657.2.2.2.2.1 bt657.2.2.2.2.2.1 bt657.2.2.2.2.2.2.1 bt657.2.2.2.2.2.2.2.1 bt657.2.2.2.2.2.2.2.2.1 bt657.2.2.2.2.2.2.2.2.2.1 bt657.2.2.2.2.2.2.2.2.2.2.1 bt657.2.2.2.2.2.2.2.2.2.2.2.1 bt657.2.2.2.2.2.2.2.2.2.2.2.2.1 bt657.2.2.2.2.2.2.2.2.2.2.2.2.2.1))) else (palletlaw13_NodeDeaf.j2 kj25 t625 bt657.2.2.2.2.2.2.2.2.2.2.2.2.2.2.1 bt657.2.2.2.2.2.2.2.2.2.2.2.2.2.2.2 true a1_0 a1_1 a1_2 a1_3 a1_4 a1_5 a1_6 a1_7 a1_8 a1_9 a1_10 l1_11 a1_12 a1_13 bt657.1 bt657.2.1 bt657.2.2.1 bt657.2.2.2.1 bt657.2.2.2.2.1 bt657.2.2.2.2.2.1 bt657.2.2.2.2.2.2.1 bt657.2.2.2.2.2.2.2.1 bt657.2.2.2.2.2.2.2.2.1 bt657.2.2.2.2.2.2.2.2.2.1 bt657.2.2.2.2.2.2.2.2.2.2.1 bt657.2.2.2.2.2.2.2.2.2.2.2.1 bt657.2.2.2.2.2.2.2.2.2.2.2.2.1 bt657.2.2.2.2.2.2.2.2.2.2.2.2.2.1)))) = some r := by rw [if_neg (show ¬ (false = true) by decide)] at H; exact H
        clear H
        have H := H1
        clear H1
        replace H := Option.bind_eq_some_iff.mp H
        obtain ⟨⟨t651, t652, t653, t654, t655⟩, A520, H⟩ := H
        replace H : ((node_Hear.f kj25 a0_0 a0_1 a0_2 a0_3 a0_4 a1_0 a1_1 a1_2 a1_3 a1_4 a1_5 a1_6 a1_7 a1_8 a1_9 a1_10 l1_11 a1_12 a1_13 a2 a3 l4 false).bind fun bt657 => (if t655 = 0 then (if t652 = a1_0 then (palletlaw13_NodeDeaf.j2 kj25 t625 bt657.2.2.2.2.2.2.2.2.2.2.2.2.2.2.1 bt657.2.2.2.2.2.2.2.2.2.2.2.2.2.2.2 true a1_0 a1_1 a1_2 a1_3 a1_4 a1_5 a1_6 a1_7 a1_8 a1_9 a1_10 l1_11 a1_12 a1_13 bt657.1 bt657.2.1 bt657.2.2.1 bt657.2.2.2.1 bt657.2.2.2.2.1 bt657.2.2.2.2.2.1 bt657.2.2.2.2.2.2.1 bt657.2.2.2.2.2.2.2.1 bt657.2.2.2.2.2.2.2.2.1 bt657.2.2.2.2.2.2.2.2.2.1 bt657.2.2.2.2.2.2.2.2.2.2.1 bt657.2.2.2.2.2.2.2.2.2.2.2.1 bt657.2.2.2.2.2.2.2.2.2.2.2.2.1 bt657.2.2.2.2.2.2.2.2.2.2.2.2.2.1) else (if a1_1 = 0 then (palletlaw13_NodeDeaf.j2 kj25 t625 bt657.2.2.2.2.2.2.2.2.2.2.2.2.2.2.1 bt657.2.2.2.2.2.2.2.2.2.2.2.2.2.2.2 true a1_0 a1_1 a1_2 a1_3 a1_4 a1_5 a1_6 a1_7 a1_8 a1_9 a1_10 l1_11 a1_12 a1_13 bt657.1 bt657.2.1 bt657.2.2.1 bt657.2.2.2.1 bt657.2.2.2.2.1 bt657.2.2.2.2.2.1 bt657.2.2.2.2.2.2.1 bt657.2.2.2.2.2.2.2.1 bt657.2.2.2.2.2.2.2.2.1 bt657.2.2.2.2.2.2.2.2.2.1 bt657.2.2.2.2.2.2.2.2.2.2.1 bt657.2.2.2.2.2.2.2.2.2.2.2.1 bt657.2.2.2.2.2.2.2.2.2.2.2.2.1 bt657.2.2.2.2.2.2.2.2.2.2.2.2.2.1) else (palletlaw13_NodeDeaf.j2 kj25 t625 bt657.2.2.2.2.2.2.2.2.2.2.2.2.2.2.1 bt657.2.2.2.2.2.2.2.2.2.2.2.2.2.2.2 (a1_1 == 3) a1_0 a1_1 a1_2 a1_3 a1_4 a1_5 a1_6 a1_7 a1_8 a1_9 a1_10 l1_11 a1_12 a1_13 bt657.1 bt657.2.1 bt657.2.2.1 bt657.2.2.2.1 bt657.2.2.2.2.1 bt657.2.2.2.2.2.1 bt657.2.2.2.2.2.2.1 bt657.2.2.2.2.2.2.2.1 bt657.2.2.2.2.2.2.2.2.1 bt657.2.2.2.2.2.2.2.2.2.1 bt657.2.2.2.2.2.2.2.2.2.2.1 bt657.2.2.2.2.2.2.2.2.2.2.2.1 bt657.2.2.2.2.2.2.2.2.2.2.2.2.1 bt657.2.2.2.2.2.2.2.2.2.2.2.2.2.1))) else (palletlaw13_NodeDeaf.j2 kj25 t625 bt657.2.2.2.2.2.2.2.2.2.2.2.2.2.2.1 bt657.2.2.2.2.2.2.2.2.2.2.2.2.2.2.2 true a1_0 a1_1 a1_2 a1_3 a1_4 a1_5 a1_6 a1_7 a1_8 a1_9 a1_10 l1_11 a1_12 a1_13 bt657.1 bt657.2.1 bt657.2.2.1 bt657.2.2.2.1 bt657.2.2.2.2.1 bt657.2.2.2.2.2.1 bt657.2.2.2.2.2.2.1 bt657.2.2.2.2.2.2.2.1 bt657.2.2.2.2.2.2.2.2.1 bt657.2.2.2.2.2.2.2.2.2.1 bt657.2.2.2.2.2.2.2.2.2.2.1 bt657.2.2.2.2.2.2.2.2.2.2.2.1 bt657.2.2.2.2.2.2.2.2.2.2.2.2.1 bt657.2.2.2.2.2.2.2.2.2.2.2.2.2.1))) = some r := H
        have A52 := asd A520
        clear A520
        replace H := Option.bind_eq_some_iff.mp H
        obtain ⟨⟨t657, t658, t659, t660, t661, t662, t663, t664, t665, t666, t667, t668, t671, t672, t673, t676⟩, A530, H⟩ := H
        replace H : (if t655 = 0 then (if t652 = a1_0 then (palletlaw13_NodeDeaf.j2 kj25 t625 t673 t676 true a1_0 a1_1 a1_2 a1_3 a1_4 a1_5 a1_6 a1_7 a1_8 a1_9 a1_10 l1_11 a1_12 a1_13 t657 t658 t659 t660 t661 t662 t663 t664 t665 t666 t667 t668 t671 t672) else (if a1_1 = 0 then (palletlaw13_NodeDeaf.j2 kj25 t625 t673 t676 true a1_0 a1_1 a1_2 a1_3 a1_4 a1_5 a1_6 a1_7 a1_8 a1_9 a1_10 l1_11 a1_12 a1_13 t657 t658 t659 t660 t661 t662 t663 t664 t665 t666 t667 t668 t671 t672) else (palletlaw13_NodeDeaf.j2 kj25 t625 t673 t676 (a1_1 == 3) a1_0 a1_1 a1_2 a1_3 a1_4 a1_5 a1_6 a1_7 a1_8 a1_9 a1_10 l1_11 a1_12 a1_13 t657 t658 t659 t660 t661 t662 t663 t664 t665 t666 t667 t668 t671 t672))) else (palletlaw13_NodeDeaf.j2 kj25 t625 t673 t676 true a1_0 a1_1 a1_2 a1_3 a1_4 a1_5 a1_6 a1_7 a1_8 a1_9 a1_10 l1_11 a1_12 a1_13 t657 t658 t659 t660 t661 t662 t663 t664 t665 t666 t667 t668 t671 t672)) = some r := H
        have A53 := asd A530
        clear A530
        have HC54 := asd H
        clear H
        go_upto_region 11 with (first | ((with_reducible refine gate_callee (f := 12) rfl ?_); refine gL (some 66) Tryz.func12 #[.slice A4 l4.length c4] ?_; (with_reducible refine (frame_Read.calls kj25 _ _ l4 t651 t652 t653 t654 t655 _ ?side1 ?side2 A52.out).mono ?_); (case side1 => exact cb HR4 HB); (case side2 => exact HC4.out); rintro e w55 ⟨rfl, hb⟩; refine ⟨_, rfl, ?_⟩; replace HO_649011 := rb HO_649011 hb; replace BK623 := bb BK623 hb; replace BK624 := bb BK624 hb; replace BK648 := bb BK648 hb; replace HB := bs HB hb; (try clear hb)) | ((with_reducible refine gate_dst (N := 15) rfl ?_); (try (refine gate_guard (by rfl) ?_; dsimp only)); refine bx (N := 15) (cs := #[.int .i64 0, .int .i64 0, .int .u64 0, .int .u16 0]) (t := 43) ?_; intro gb656 hg w56 hbox hb; have BK656 := asd (hbox); have GW656 := bz HB hg; have GE656 := bz HB hg; have NB623_656 := nl BK623 hg; have NB656_623 := nr BK623 hg; have NB624_656 := nl BK624 hg; have NB656_624 := nr BK624 hg; have NB648_656 := nl BK648 hg; have NB656_648 := nr BK648 hg; replace HO_649011 := rb HO_649011 hb; replace BK623 := bb BK623 hb; replace BK624 := bb BK624 hb; replace BK648 := bb BK648 hb; replace HB := bs HB hb; clear hb hbox hg; have hnb57 := NB656_623.out; have hnc57 := NB623_656.out; have hnb58 := NB656_624.out; have hnc58 := NB624_656.out; have hnb59 := NB656_648.out; have hnc59 := NB648_656.out; have hcz60 := cf4 BK656; have hnb61 := NB623_624.out; have hnc61 := NB624_623.out; have hnb62 := NB623_648.out; have hnc62 := NB648_623.out; have hcz63 := cf5 BK623; have hnb64 := NB624_648.out; have hnc64 := NB648_624.out; have hcz65 := cf14 BK624) | ((with_reducible refine gate_callee (f := 10) rfl ?_); refine gL (some 75) Tryz.func10 #[.agg #[.int .i64 a0_0, .int .i64 a0_1, .int .i64 a0_2, .int .i64 a0_3, .int .i64 a0_4], .agg #[.int .i64 a1_0, .int .i64 a1_1, .int .u64 a1_2, .int .i64 a1_3, .int .i64 a1_4, .int .i64 a1_5, .int .i64 a1_6, .int .i64 a1_7, .int .u16 a1_8, .int .i64 a1_9, .int .i64 a1_10, .slice A1_11 l1_11.length c1_11, .bool a1_12, .int .i64 a1_13], .int .i64 a2, .int .i64 a3, .slice A4 l4.length c4, .bool false] ?_; (with_reducible refine (node_Hear.calls kj25 a0_0 a0_1 a0_2 a0_3 a0_4 a1_0 a1_1 a1_2 a1_3 a1_4 a1_5 a1_6 a1_7 a1_8 a1_9 a1_10 _ _ l1_11 a1_12 a1_13 a2 a3 _ _ l4 false t657 t658 t659 t660 t661 t662 t663 t664 t665 t666 t667 t668 t671 t672 t673 t676 _ ?side1 ?side2 ?side3 ?side4 A53.out).mono ?_); (case side1 => exact cb HR1_11 HB); (case side2 => exact HC1_11.out); (case side3 => exact cb HR4 HB); (case side4 => exact HC4.out); rintro e w66 ⟨v669, v674, rfl, ho0, ho1, hb⟩; refine ⟨_, rfl, ?_⟩; have n0_ := asd (Kd.R_elder' (by (with_reducible repeat (first | apply Kd.R_alloc | apply Kd.R_drewN | apply Kd.R_drew)); exact (Kd.R_mono (Kd.R_far (p := ⟨gb656, 3, none⟩) (Kd.R_far (p := ⟨gb656, 2, none⟩) (Kd.R_far (p := ⟨gb656, 1, none⟩) (Kd.R_far (p := ⟨gb656, 0, none⟩) (Kd.R_types HO_649011.out BK656.out (by decide)) (fun _ hk => hk.2) (.int .i64 t651)) (fun _ hk => hk.2) (.int .i64 t652)) (fun _ hk => hk.2) (.int .u64 t653)) (fun _ hk => hk.2) (.int .u16 t654)) (fun _ h_ => h_.1))) (Kd.R_base ho0) hb); have n1_ := asd (Kd.R_lower (Kd.R_new' ho0 (Kd.R_lt (by (with_reducible repeat (first | apply Kd.R_alloc | apply Kd.R_drewN | apply Kd.R_drew)); exact (Kd.R_mono (Kd.R_far (p := ⟨gb656, 3, none⟩) (Kd.R_far (p := ⟨gb656, 2, none⟩) (Kd.R_far (p := ⟨gb656, 1, none⟩) (Kd.R_far (p := ⟨gb656, 0, none⟩) (Kd.R_types HO_649011.out BK656.out (by decide)) (fun _ hk => hk.2) (.int .i64 t651)) (fun _ hk => hk.2) (.int .i64 t652)) (fun _ hk => hk.2) (.int .u64 t653)) (fun _ hk => hk.2) (.int .u16 t654)) (fun _ h_ => h_.1))))) (below_size (by repeat (first | (with_reducible first | exact HB.out | apply below_alloc | apply pw_below_drewN | apply below_drew1 | refine below_set ?_ GE623.out | refine below_set ?_ GE624.out | refine below_set ?_ GE648.out | refine below_set ?_ GE656.out) | exact HB.out)))); have n2_ := rl ho1 HB; have n3_ := fq NB623_656 BK623 hb; have n4_ := fq NB624_656 BK624 hb; have n5_ := fq NB648_656 BK648 hb; have n6_ := asd (blk_below (g := gb656) (o := .cells #[.int .i64 t651, .int .i64 t652, .int .u64 t653, .int .u16 t654] 43 (0, 0)) (by (with_reducible repeat (first | refine blk_drewN ?_ _ | refine blk_drew ?_ | refine blk_alloc ?_ _)); refine blk_put (cs := #[.int .i64 t651, .int .i64 t652, .int .u64 t653, .int .u16 0]) ?_ 3 _ rfl; (with_reducible repeat (first | refine blk_drewN ?_ _ | refine blk_drew ?_ | refine blk_alloc ?_ _)); refine blk_put (cs := #[.int .i64 t651, .int .i64 t652, .int .u64 0, .int .u16 0]) ?_ 2 _ rfl; (with_reducible repeat (first | refine blk_drewN ?_ _ | refine blk_drew ?_ | refine blk_alloc ?_ _)); refine blk_put (cs := #[.int .i64 t651, .int .i64 0, .int .u64 0, .int .u16 0]) ?_ 1 _ rfl; (with_reducible repeat (first | refine blk_drewN ?_ _ | refine blk_drew ?_ | refine blk_alloc ?_ _)); refine blk_put (cs := #[.int .i64 0, .int .i64 0, .int .u64 0, .int .u16 0]) ?_ 0 _ rfl; (with_reducible repeat (first | refine blk_drewN ?_ _ | refine blk_drew ?_ | refine blk_alloc ?_ _)); exact BK656.out) hb); have n7_ := bs HB hb; clear HO_649011 BK623 BK624 BK648 BK656 HB; have HO_649011 := n0_; have HO670 := n1_; have HO675 := n2_; have BK623 := n3_; have BK624 := n4_; have BK648 := n5_; have BK656 := n6_; have HB := n7_; clear n0_ n1_ n2_ n3_ n4_ n5_ n6_ n7_; (try clear hb); (try clear hk); (try clear ho0); (try clear ho1)) | ((with_reducible refine gate_dst (N := 17) rfl ?_); (try (refine gate_guard (by rfl) ?_; dsimp only)); refine bx (N := 17) (cs := #[.int .i64 0, .int .i64 0, .int .u64 0, .int .i64 0, .int .i64 0, .int .i64 0, .int .i64 0, .int .i64 0, .int .u16 0, .int .i64 0, .int .i64 0, .slice none 0 0, .bool false, .int .i64 0]) (t := 32) ?_; intro gb677 hg w67 hbox hb; have BK677 := asd (hbox); have GW677 := bz HB hg; have GE677 := bz HB hg; have NB623_677 := nl BK623 hg; have NB677_623 := nr BK623 hg; have NB624_677 := nl BK624 hg; have NB677_624 := nr BK624 hg; have NB648_677 := nl BK648 hg; have NB677_648 := nr BK648 hg; have NB656_677 := nl BK656 hg; have NB677_656 := nr BK656 hg; replace HO_649011 := rb HO_649011 hb; replace HO670 := rb HO670 hb; replace HO675 := rb HO675 hb; replace BK623 := bb BK623 hb; replace BK624 := bb BK624 hb; replace BK648 := bb BK648 hb; replace BK656 := bb BK656 hb; replace HB := bs HB hb; clear hb hbox hg; have hnb68 := NB677_623.out; have hnc68 := NB623_677.out; have hnb69 := NB677_624.out; have hnc69 := NB624_677.out; have hnb70 := NB677_648.out; have hnc70 := NB648_677.out; have hnb71 := NB677_656.out; have hnc71 := NB656_677.out; have hcz72 := cf14 BK677; obtain ⟨Ao73, co73, eo73⟩ := Kd.R_slice HO670.out; subst eo73))
        (try simp only [Act.put, List.setIfInBounds_toArray, List.set_cons_zero, List.set_cons_succ])
        go_cut [97] (fun v97 wc => ∃ (kq : Nat) (x97_53 : Bool), v97 = .bool x97_53 ∧ Aside0 (palletlaw13_NodeDeaf.j2 kq t625 t673 t676 x97_53 a1_0 a1_1 a1_2 a1_3 a1_4 a1_5 a1_6 a1_7 a1_8 a1_9 a1_10 l1_11 a1_12 a1_13 t657 t658 t659 t660 t661 t662 t663 t664 t665 t666 t667 t668 t671 t672 = some r) ∧ Aside0 (kq ≤ kj25) ∧ Aside0 (Kd.R k66 66 wc w.heap.size (fun _ => True) v674 t673) ∧ Aside0 (Kd.R (Kd.int .i64) 2 wc w.heap.size (fun k_ => some k_ ≠ ((.slice Ao73 t668.length co73) : Value).ownBlock) (.slice Ao35 t639.length co35) t639) ∧ Aside0 (Kd.R (Kd.int .i64) 2 wc w.heap.size (fun k_ => some k_ ≠ ((.slice Ao35 t639.length co35) : Value).ownBlock) (.slice Ao73 t668.length co73) t668) ∧ Aside0 (wc.heap[gb623]? = some (.cells #[.int .i64 a0_0, .int .i64 a0_1, .int .i64 a0_2, .int .i64 a0_3, .int .i64 a0_4] 23 (0, 0))) ∧ Aside0 (wc.heap[gb624]? = some (.cells #[.int .i64 a1_0, .int .i64 a1_1, .int .u64 a1_2, .int .i64 a1_3, .int .i64 a1_4, .int .i64 a1_5, .int .i64 a1_6, .int .i64 a1_7, .int .u16 a1_8, .int .i64 a1_9, .int .i64 a1_10, (.slice A1_11 l1_11.length c1_11), .bool a1_12, .int .i64 a1_13] 32 (0, 0))) ∧ Aside0 (wc.heap[gb648]? = some (.cells #[.int .i64 t628, .int .i64 t629, .int .u64 t630, .int .i64 t631, .int .i64 t632, .int .i64 t633, .int .i64 t634, .int .i64 t635, .int .u16 t636, .int .i64 t637, .int .i64 t638, (.slice Ao35 t639.length co35), .bool t642, .int .i64 t643] 32 (0, 0))) ∧ Aside0 (wc.heap[gb656]? = some (.cells #[.int .i64 t651, .int .i64 t652, .int .u64 t653, .int .u16 t654] 43 (0, 0))) ∧ Aside0 (wc.heap[gb677]? = some (.cells #[.int .i64 t657, .int .i64 t658, .int .u64 t659, .int .i64 t660, .int .i64 t661, .int .i64 t662, .int .i64 t663, .int .i64 t664, .int .u16 t665, .int .i64 t666, .int .i64 t667, (.slice Ao73 t668.length co73), .bool t671, .int .i64 t672] 32 (0, 0))) ∧ Aside0 (Below w.heap.size w wc))
        case first =>
         have H := HC54.out
         clear HC54
         by_cases c74 : t655 = 0
         ·rw [if_pos c74] at H
          have c74b0 : (t655 == 0) = true := beq_iff_eq.mpr c74
          have c74b1 : (t655 != 0) = false := bne_eq_false_iff_eq.mpr c74
          clear c74
          (first | rw [c74b0] | (simp only [i64_w, i32_w]; rw [c74b0]) | skip)
          by_cases c75 : t652 = a1_0
          ·rw [if_pos c75] at H
           have c75b0 : (t652 == a1_0) = true := beq_iff_eq.mpr c75
           have c75b1 : (t652 != a1_0) = false := bne_eq_false_iff_eq.mpr c75
           clear c75
           have H' := asd H
           clear H
           have hnb76 := NB656_623.out
           have hnc76 := NB623_656.out
           have hnb77 := NB656_624.out
           have hnc77 := NB624_656.out
           have hnb78 := NB656_648.out
           have hnc78 := NB648_656.out
           have hnb79 := NB656_677.out
           have hnc79 := NB677_656.out
           have hcz80 := cf4 BK656
           have hnb81 := NB624_623.out
           have hnc81 := NB623_624.out
           have hnb82 := NB624_648.out
           have hnc82 := NB648_624.out
           have hnb83 := NB624_677.out
           have hnc83 := NB677_624.out
           have hcz84 := cf14 BK624
           go_wp2
           go_meet
           case rel => exact ⟨_, (true), (by first | rfl | (simp; done) | (simp [*]; done)), H', ⟨by have := HJ6.out; have := HJ25.out; first | omega | exact Nat.le_refl _⟩, rf HO675 BK677 (by decide) (fun _ hk => trivial), rf HO_649011 BK677 (by decide) (fun _ hk => hk.2), rf HO670 BK677 (by decide) (fun _ hk => hk.2), ff NB623_677 BK623, ff NB624_677 BK624, ff NB648_677 BK648, ff NB656_677 BK656, bp14 BK677, ⟨by repeat (first | (with_reducible first | exact HB.out | apply below_alloc | apply pw_below_drewN | apply below_drew1 | refine below_set ?_ GE623.out | refine below_set ?_ GE624.out | refine below_set ?_ GE648.out | refine below_set ?_ GE656.out | refine below_set ?_ GE677.out) | exact HB.out)⟩⟩
          ·rw [if_neg c75] at H
           have c75b0 : (t652 == a1_0) = false := beq_eq_false_iff_ne.mpr c75
           have c75b1 : (t652 != a1_0) = true := bne_iff_ne.mpr c75
           by_cases c85 : a1_1 = 0
           ·rw [if_pos c85] at H
            have c85b0 : (a1_1 == 0) = true := beq_iff_eq.mpr c85
            have c85b1 : (a1_1 != 0) = false := bne_eq_false_iff_eq.mpr c85
            clear c85
            have H' := asd H
            clear H
            have hnb86 := NB656_623.out
            have hnc86 := NB623_656.out
            have hnb87 := NB656_624.out
            have hnc87 := NB624_656.out
            have hnb88 := NB656_648.out
            have hnc88 := NB648_656.out
            have hnb89 := NB656_677.out
            have hnc89 := NB677_656.out
            have hcz90 := cf4 BK656
            have hnb91 := NB624_623.out
            have hnc91 := NB623_624.out
            have hnb92 := NB624_648.out
            have hnc92 := NB648_624.out
            have hnb93 := NB624_677.out
            have hnc93 := NB677_624.out
            have hcz94 := cf14 BK624
            go_wp2
            go_meet
            case rel => exact ⟨_, (true), (by first | rfl | (simp; done) | (simp [*]; done)), H', ⟨by have := HJ6.out; have := HJ25.out; first | omega | exact Nat.le_refl _⟩, rf HO675 BK677 (by decide) (fun _ hk => trivial), rf HO_649011 BK677 (by decide) (fun _ hk => hk.2), rf HO670 BK677 (by decide) (fun _ hk => hk.2), ff NB623_677 BK623, ff NB624_677 BK624, ff NB648_677 BK648, ff NB656_677 BK656, bp14 BK677, ⟨by repeat (first | (with_reducible first | exact HB.out | apply below_alloc | apply pw_below_drewN | apply below_drew1 | refine below_set ?_ GE623.out | refine below_set ?_ GE624.out | refine below_set ?_ GE648.out | refine below_set ?_ GE656.out | refine below_set ?_ GE677.out) | exact HB.out)⟩⟩
           ·rw [if_neg c85] at H
            have c85b0 : (a1_1 == 0) = false := beq_eq_false_iff_ne.mpr c85
            have c85b1 : (a1_1 != 0) = true := bne_iff_ne.mpr c85
            have H' := asd H
            clear H
            have hnb95 := NB656_623.out
            have hnc95 := NB623_656.out
            have hnb96 := NB656_624.out
            have hnc96 := NB624_656.out
            have hnb97 := NB656_648.out
            have hnc97 := NB648_656.out
            have hnb98 := NB656_677.out
            have hnc98 := NB677_656.out
            have hcz99 := cf4 BK656
            have hnb100 := NB624_623.out
            have hnc100 := NB623_624.out
            have hnb101 := NB624_648.out
            have hnc101 := NB648_624.out
            have hnb102 := NB624_677.out
            have hnc102 := NB677_624.out
            have hcz103 := cf14 BK624
            go_wp2
            go_meet
            case rel => exact ⟨_, ((a1_1 == 3)), (by first | rfl | (simp; done) | (simp [*]; done)), H', ⟨by have := HJ6.out; have := HJ25.out; first | omega | exact Nat.le_refl _⟩, rf HO675 BK677 (by decide) (fun _ hk => trivial), rf HO_649011 BK677 (by decide) (fun _ hk => hk.2), rf HO670 BK677 (by decide) (fun _ hk => hk.2), ff NB623_677 BK623, ff NB624_677 BK624, ff NB648_677 BK648, ff NB656_677 BK656, bp14 BK677, ⟨by repeat (first | (with_reducible first | exact HB.out | apply below_alloc | apply pw_below_drewN | apply below_drew1 | refine below_set ?_ GE623.out | refine below_set ?_ GE624.out | refine below_set ?_ GE648.out | refine below_set ?_ GE656.out | refine below_set ?_ GE677.out) | exact HB.out)⟩⟩
         ·rw [if_neg c74] at H
          have c74b0 : (t655 == 0) = false := beq_eq_false_iff_ne.mpr c74
          have c74b1 : (t655 != 0) = true := bne_iff_ne.mpr c74
          (first | rw [c74b0] | (simp only [i64_w, i32_w]; rw [c74b0]) | skip)
          have H' := asd H
          clear H
          go_wp2
          go_meet
          case rel => exact ⟨_, (true), (by first | rfl | (simp; done) | (simp [*]; done)), H', ⟨by have := HJ6.out; have := HJ25.out; first | omega | exact Nat.le_refl _⟩, rf HO675 BK677 (by decide) (fun _ hk => trivial), rf HO_649011 BK677 (by decide) (fun _ hk => hk.2), rf HO670 BK677 (by decide) (fun _ hk => hk.2), ff NB623_677 BK623, ff NB624_677 BK624, ff NB648_677 BK648, ff NB656_677 BK656, bp14 BK677, ⟨by repeat (first | (with_reducible first | exact HB.out | apply below_alloc | apply pw_below_drewN | apply below_drew1 | refine below_set ?_ GE623.out | refine below_set ?_ GE624.out | refine below_set ?_ GE648.out | refine below_set ?_ GE656.out | refine below_set ?_ GE677.out) | exact HB.out)⟩⟩
        case rest =>
         clear HC54
         try clear c1
         try clear c2
         try clear p2
         try clear c3
         try clear c4
         try clear c5
         try clear c6
         try clear c7
         try clear c8
         try clear c9
         try clear c10
         try clear c11
         try clear c12
         try clear c14
         try clear c20
         try clear c23
         try clear c25
         try clear c25b0
         try clear c25b1
         try clear c27
         try clear c32
         try clear c33
         try clear c37
         try clear c38
         try clear c39
         try clear c41
         try clear c45
         try clear c46
         try clear c48
         try clear c51
         try clear c57
         try clear c58
         try clear c59
         try clear c61
         try clear c62
         try clear c64
         try clear c68
         try clear c69
         try clear c70
         try clear c71
         try clear c74
         try clear c74b0
         try clear c74b1
         try clear c75
         try clear c75b0
         try clear c75b1
         try clear c76
         try clear c77
         try clear c78
         try clear c79
         try clear c81
         try clear c82
         try clear c83
         try clear c85
         try clear c85b0
         try clear c85b1
         try clear c86
         try clear c87
         try clear c88
         try clear c89
         try clear c91
         try clear c92
         try clear c93
         try clear c95
         try clear c96
         try clear c97
         try clear c98
         try clear c100
         try clear c101
         try clear c102
         try clear hcz103
         try clear hcz103
         try clear hcz103
         try clear hcz103
         try clear hcz103
         try clear hcz103
         try clear hcz103
         try clear hcz103
         try clear hcz103
         try clear hcz103
         try clear hcz103
         try clear hcz103
         try clear hcz103
         try clear hcz103
         try clear hcz15
         try clear hcz15
         try clear hcz15
         try clear hcz15
         try clear hcz15
         try clear hcz15
         try clear hcz15
         try clear hcz15
         try clear hcz15
         try clear hcz15
         try clear hcz15
         try clear hcz15
         try clear hcz15
         try clear hcz15
         try clear hcz17
         try clear hcz17
         try clear hcz17
         try clear hcz17
         try clear hcz17
         try clear hcz18
         try clear hcz18
         try clear hcz18
         try clear hcz18
         try clear hcz18
         try clear hcz18
         try clear hcz18
         try clear hcz18
         try clear hcz18
         try clear hcz18
         try clear hcz18
         try clear hcz18
         try clear hcz18
         try clear hcz18
         try clear hcz21
         try clear hcz21
         try clear hcz21
         try clear hcz21
         try clear hcz21
         try clear hcz21
         try clear hcz21
         try clear hcz21
         try clear hcz21
         try clear hcz21
         try clear hcz21
         try clear hcz21
         try clear hcz21
         try clear hcz21
         try clear hcz28
         try clear hcz28
         try clear hcz28
         try clear hcz28
         try clear hcz28
         try clear hcz29
         try clear hcz29
         try clear hcz29
         try clear hcz29
         try clear hcz29
         try clear hcz29
         try clear hcz29
         try clear hcz29
         try clear hcz29
         try clear hcz29
         try clear hcz29
         try clear hcz29
         try clear hcz29
         try clear hcz29
         try clear hcz34
         try clear hcz34
         try clear hcz34
         try clear hcz34
         try clear hcz34
         try clear hcz34
         try clear hcz34
         try clear hcz34
         try clear hcz34
         try clear hcz34
         try clear hcz34
         try clear hcz34
         try clear hcz34
         try clear hcz34
         try clear hcz40
         try clear hcz40
         try clear hcz40
         try clear hcz40
         try clear hcz40
         try clear hcz40
         try clear hcz40
         try clear hcz40
         try clear hcz40
         try clear hcz40
         try clear hcz40
         try clear hcz40
         try clear hcz40
         try clear hcz40
         try clear hcz42
         try clear hcz42
         try clear hcz42
         try clear hcz42
         try clear hcz42
         try clear hcz42
         try clear hcz42
         try clear hcz42
         try clear hcz42
         try clear hcz42
         try clear hcz42
         try clear hcz42
         try clear hcz42
         try clear hcz42
         try clear hcz47
         try clear hcz47
         try clear hcz47
         try clear hcz47
         try clear hcz47
         try clear hcz47
         try clear hcz47
         try clear hcz47
         try clear hcz47
         try clear hcz47
         try clear hcz47
         try clear hcz47
         try clear hcz47
         try clear hcz47
         try clear hcz49
         try clear hcz49
         try clear hcz49
         try clear hcz49
         try clear hcz49
         try clear hcz49
         try clear hcz49
         try clear hcz49
         try clear hcz49
         try clear hcz49
         try clear hcz49
         try clear hcz49
         try clear hcz49
         try clear hcz49
         try clear hcz60
         try clear hcz60
         try clear hcz60
         try clear hcz60
         try clear hcz63
         try clear hcz63
         try clear hcz63
         try clear hcz63
         try clear hcz63
         try clear hcz65
         try clear hcz65
         try clear hcz65
         try clear hcz65
         try clear hcz65
         try clear hcz65
         try clear hcz65
         try clear hcz65
         try clear hcz65
         try clear hcz65
         try clear hcz65
         try clear hcz65
         try clear hcz65
         try clear hcz65
         try clear hcz72
         try clear hcz72
         try clear hcz72
         try clear hcz72
         try clear hcz72
         try clear hcz72
         try clear hcz72
         try clear hcz72
         try clear hcz72
         try clear hcz72
         try clear hcz72
         try clear hcz72
         try clear hcz72
         try clear hcz72
         try clear hcz80
         try clear hcz80
         try clear hcz80
         try clear hcz80
         try clear hcz84
         try clear hcz84
         try clear hcz84
         try clear hcz84
         try clear hcz84
         try clear hcz84
         try clear hcz84
         try clear hcz84
         try clear hcz84
         try clear hcz84
         try clear hcz84
         try clear hcz84
         try clear hcz84
         try clear hcz84
         try clear hcz90
         try clear hcz90
         try clear hcz90
         try clear hcz90
         try clear hcz94
         try clear hcz94
         try clear hcz94
         try clear hcz94
         try clear hcz94
         try clear hcz94
         try clear hcz94
         try clear hcz94
         try clear hcz94
         try clear hcz94
         try clear hcz94
         try clear hcz94
         try clear hcz94
         try clear hcz94
         try clear hcz99
         try clear hcz99
         try clear hcz99
         try clear hcz99
         try clear hcz103
         try clear hcz103
         try clear hcz103
         try clear hcz103
         try clear hcz103
         try clear hcz103
         try clear hcz103
         try clear hcz103
         try clear hcz103
         try clear hcz103
         try clear hcz103
         try clear hcz103
         try clear hcz103
         try clear hcz103
         try clear hcz15
         try clear hcz15
         try clear hcz15
         try clear hcz15
         try clear hcz15
         try clear hcz15
         try clear hcz15
         try clear hcz15
         try clear hcz15
         try clear hcz15
         try clear hcz15
         try clear hcz15
         try clear hcz15
         try clear hcz15
         try clear hcz17
         try clear hcz17
         try clear hcz17
         try clear hcz17
         try clear hcz17
         try clear hcz18
         try clear hcz18
         try clear hcz18
         try clear hcz18
         try clear hcz18
         try clear hcz18
         try clear hcz18
         try clear hcz18
         try clear hcz18
         try clear hcz18
         try clear hcz18
         try clear hcz18
         try clear hcz18
         try clear hcz18
         try clear hcz21
         try clear hcz21
         try clear hcz21
         try clear hcz21
         try clear hcz21
         try clear hcz21
         try clear hcz21
         try clear hcz21
         try clear hcz21
         try clear hcz21
         try clear hcz21
         try clear hcz21
         try clear hcz21
         try clear hcz21
         try clear hcz28
         try clear hcz28
         try clear hcz28
         try clear hcz28
         try clear hcz28
         try clear hcz29
         try clear hcz29
         try clear hcz29
         try clear hcz29
         try clear hcz29
         try clear hcz29
         try clear hcz29
         try clear hcz29
         try clear hcz29
         try clear hcz29
         try clear hcz29
         try clear hcz29
         try clear hcz29
         try clear hcz29
         try clear hcz34
         try clear hcz34
         try clear hcz34
         try clear hcz34
         try clear hcz34
         try clear hcz34
         try clear hcz34
         try clear hcz34
         try clear hcz34
         try clear hcz34
         try clear hcz34
         try clear hcz34
         try clear hcz34
         try clear hcz34
         try clear hcz40
         try clear hcz40
         try clear hcz40
         try clear hcz40
         try clear hcz40
         try clear hcz40
         try clear hcz40
         try clear hcz40
         try clear hcz40
         try clear hcz40
         try clear hcz40
         try clear hcz40
         try clear hcz40
         try clear hcz40
         try clear hcz42
         try clear hcz42
         try clear hcz42
         try clear hcz42
         try clear hcz42
         try clear hcz42
         try clear hcz42
         try clear hcz42
         try clear hcz42
         try clear hcz42
         try clear hcz42
         try clear hcz42
         try clear hcz42
         try clear hcz42
         try clear hcz47
         try clear hcz47
         try clear hcz47
         try clear hcz47
         try clear hcz47
         try clear hcz47
         try clear hcz47
         try clear hcz47
         try clear hcz47
         try clear hcz47
         try clear hcz47
         try clear hcz47
         try clear hcz47
         try clear hcz47
         try clear hcz49
         try clear hcz49
         try clear hcz49
         try clear hcz49
         try clear hcz49
         try clear hcz49
         try clear hcz49
         try clear hcz49
         try clear hcz49
         try clear hcz49
         try clear hcz49
         try clear hcz49
         try clear hcz49
         try clear hcz49
         try clear hcz60
         try clear hcz60
         try clear hcz60
         try clear hcz60
         try clear hcz63
         try clear hcz63
         try clear hcz63
         try clear hcz63
         try clear hcz63
         try clear hcz65
         try clear hcz65
         try clear hcz65
         try clear hcz65
         try clear hcz65
         try clear hcz65
         try clear hcz65
         try clear hcz65
         try clear hcz65
         try clear hcz65
         try clear hcz65
         try clear hcz65
         try clear hcz65
         try clear hcz65
         try clear hcz72
         try clear hcz72
         try clear hcz72
         try clear hcz72
         try clear hcz72
         try clear hcz72
         try clear hcz72
         try clear hcz72
         try clear hcz72
         try clear hcz72
         try clear hcz72
         try clear hcz72
         try clear hcz72
         try clear hcz72
         try clear hcz80
         try clear hcz80
         try clear hcz80
         try clear hcz80
         try clear hcz84
         try clear hcz84
         try clear hcz84
         try clear hcz84
         try clear hcz84
         try clear hcz84
         try clear hcz84
         try clear hcz84
         try clear hcz84
         try clear hcz84
         try clear hcz84
         try clear hcz84
         try clear hcz84
         try clear hcz84
         try clear hcz90
         try clear hcz90
         try clear hcz90
         try clear hcz90
         try clear hcz94
         try clear hcz94
         try clear hcz94
         try clear hcz94
         try clear hcz94
         try clear hcz94
         try clear hcz94
         try clear hcz94
         try clear hcz94
         try clear hcz94
         try clear hcz94
         try clear hcz94
         try clear hcz94
         try clear hcz94
         try clear hcz99
         try clear hcz99
         try clear hcz99
         try clear hcz99
         try clear p2
         obtain ⟨kq, x97_53, rfl, HA, HJ53, HO_18, HO_649011, HO_678011, BK623, BK624, BK648, BK656, BK677, HB⟩ := hcut
         cases kq with
         | zero => exact absurd HA.out (by simp [palletlaw13_NodeDeaf.j2])
         | succ kj53 =>
          have H := HA.out
          clear HA
          simp only [palletlaw13_NodeDeaf.j2] at H
          by_cases c104 : x97_53 = true
          ·subst c104
           have H1 : (if t625 = true then (if t676 = 0 then ((node_Same.f kj53 t657 t658 t659 t660 t661 t662 t663 t664 t665 t666 t667 t668 t671 t672 a1_0 a1_1 a1_2 a1_3 a1_4 a1_5 a1_6 a1_7 a1_8 a1_9 a1_10 l1_11 a1_12 a1_13).bind fun t678 => (if t678 = true then (some ((t673.length : Int) == 0)) else (none))) else (none)) else (none)) = some r := by rw [if_pos rfl] at H; exact H
           clear H
           have H := H1
           clear H1
           by_cases c105 : t625 = true
           ·subst c105
            have H1 : (if t676 = 0 then ((node_Same.f kj53 t657 t658 t659 t660 t661 t662 t663 t664 t665 t666 t667 t668 t671 t672 a1_0 a1_1 a1_2 a1_3 a1_4 a1_5 a1_6 a1_7 a1_8 a1_9 a1_10 l1_11 a1_12 a1_13).bind fun t678 => (if t678 = true then (some ((t673.length : Int) == 0)) else (none))) else (none)) = some r := by rw [if_pos rfl] at H; exact H
            clear H
            have H := H1
            clear H1
            by_cases c106 : t676 = 0
            ·rw [if_pos c106] at H
             have c106b0 : (t676 == 0) = true := beq_iff_eq.mpr c106
             have c106b1 : (t676 != 0) = false := bne_eq_false_iff_eq.mpr c106
             clear c106
             replace H := Option.bind_eq_some_iff.mp H
             obtain ⟨t678, A1070, H⟩ := H
             replace H : (if t678 = true then (some ((t673.length : Int) == 0)) else (none)) = some r := H
             have A107 := asd A1070
             clear A1070
             by_cases c108 : t678 = true
             ·subst c108
              have H1 : (some ((t673.length : Int) == 0)) = some r := by rw [if_pos rfl] at H; exact H
              clear H
              have H := H1
              clear H1
              obtain rfl := Option.some.inj H
              have hnb109 := NB677_623.out
              have hnc109 := NB623_677.out
              have hnb110 := NB677_624.out
              have hnc110 := NB624_677.out
              have hnb111 := NB677_648.out
              have hnc111 := NB648_677.out
              have hnb112 := NB677_656.out
              have hnc112 := NB656_677.out
              have hcz113 := cf14 BK677
              have hnb114 := NB624_623.out
              have hnc114 := NB623_624.out
              have hnb115 := NB624_648.out
              have hnc115 := NB648_624.out
              have hnb116 := NB624_656.out
              have hnc116 := NB656_624.out
              have hcz117 := cf14 BK624
              go_wp2_with (first | (go_at_call 11; (with_reducible refine (node_Same.calls kj53 t657 t658 t659 t660 t661 t662 t663 t664 t665 t666 t667 _ _ t668 t671 t672 a1_0 a1_1 a1_2 a1_3 a1_4 a1_5 a1_6 a1_7 a1_8 a1_9 a1_10 _ _ l1_11 a1_12 a1_13 true _ ?side1 ?side2 ?side3 ?side4 A107.out).mono ?_); (case side1 => repeat (first | exact (Kd.R_reads' HO_678011.out).2.2 | (with_reducible refine Kd.C_alloc ?_ _) | (with_reducible refine Kd.C_drewN ?_ _) | (with_reducible refine Kd.C_drew ?_))); (case side2 => exact (Kd.R_reads' HO_678011.out).2.1); (case side3 => exact cb HR1_11 HB); (case side4 => exact HC1_11.out); rintro e w118 ⟨rfl, hb⟩; replace HO_18 := rb HO_18 hb; replace HO_649011 := rb HO_649011 hb; replace HO_678011 := rb HO_678011 hb; replace BK623 := bb BK623 hb; replace BK624 := bb BK624 hb; replace BK648 := bb BK648 hb; replace BK656 := bb BK656 hb; replace BK677 := bb BK677 hb; replace HB := bs HB hb; (try clear hb); obtain ⟨Ao119, co119, eo119⟩ := Kd.R_slice HO_18.out; subst eo119))
              go_ret
              exact ⟨by first | rfl | (simp [errW_none, errW_some] <;> rfl) | (simp [*, errW_none, errW_some] <;> rfl), by repeat (first | (with_reducible first | exact HB.out | apply below_alloc | apply pw_below_drewN | apply below_drew1 | refine below_set ?_ GE623.out | refine below_set ?_ GE624.out | refine below_set ?_ GE648.out | refine below_set ?_ GE656.out | refine below_set ?_ GE677.out) | exact HB.out)⟩
             ·replace c108 := Bool.eq_false_iff.mpr c108
              subst c108
              have H1 : (none) = some r := by rw [if_neg (show ¬ (false = true) by decide)] at H; exact H
              clear H
              have H := H1
              clear H1
              exact absurd H (by simp)
            ·rw [if_neg c106] at H
             exact absurd H (by simp)
           ·replace c105 := Bool.eq_false_iff.mpr c105
            subst c105
            have H1 : (none) = some r := by rw [if_neg (show ¬ (false = true) by decide)] at H; exact H
            clear H
            have H := H1
            clear H1
            exact absurd H (by simp)
          ·replace c104 := Bool.eq_false_iff.mpr c104
           subst c104
           have H1 : (some t625) = some r := by rw [if_neg (show ¬ (false = true) by decide)] at H; exact H
           clear H
           have H := H1
           clear H1
           obtain rfl := Option.some.inj H
           go_wp2
           go_ret
           exact ⟨by first | rfl | (simp [errW_none, errW_some] <;> rfl) | (simp [*, errW_none, errW_some] <;> rfl), by repeat (first | (with_reducible first | exact HB.out | apply below_alloc | apply pw_below_drewN | apply below_drew1 | refine below_set ?_ GE623.out | refine below_set ?_ GE624.out | refine below_set ?_ GE648.out | refine below_set ?_ GE656.out | refine below_set ?_ GE677.out) | exact HB.out)⟩
    ·rw [if_neg c25] at H
     have c25b0 : (t647 == 0) = false := beq_eq_false_iff_ne.mpr c25
     have c25b1 : (t647 != 0) = true := bne_iff_ne.mpr c25
     by_cases c120 : t625 = true
     ·subst c120
      have H1 : ((node_Same.f kj6 t628 t629 t630 t631 t632 t633 t634 t635 t636 t637 t638 t639 t642 t643 a1_0 a1_1 a1_2 a1_3 a1_4 a1_5 a1_6 a1_7 a1_8 a1_9 a1_10 l1_11 a1_12 a1_13).bind fun t649 => (if t649 = true then (some ((t644.length : Int) == 0)) else (none))) = some r := by rw [if_pos rfl] at H; exact H
      clear H
      have H := H1
      clear H1
      replace H := Option.bind_eq_some_iff.mp H
      obtain ⟨t649, A1210, H⟩ := H
      replace H : (if t649 = true then (some ((t644.length : Int) == 0)) else (none)) = some r := H
      have A121 := asd A1210
      clear A1210
      by_cases c122 : t649 = true
      ·subst c122
       have H1 : (some ((t644.length : Int) == 0)) = some r := by rw [if_pos rfl] at H; exact H
       clear H
       have H := H1
       clear H1
       obtain rfl := Option.some.inj H
       have hnb123 := NB623_624.out
       have hnc123 := NB624_623.out
       have hcz124 := cf5 BK623
       have hcz125 := cf14 BK624
       go_wp2_with (first | ((with_reducible refine gate_callee (f := 10) rfl ?_); refine gL (some 38) Tryz.func10 #[.agg #[.int .i64 a0_0, .int .i64 a0_1, .int .i64 a0_2, .int .i64 a0_3, .int .i64 a0_4], .agg #[.int .i64 a1_0, .int .i64 a1_1, .int .u64 a1_2, .int .i64 a1_3, .int .i64 a1_4, .int .i64 a1_5, .int .i64 a1_6, .int .i64 a1_7, .int .u16 a1_8, .int .i64 a1_9, .int .i64 a1_10, .slice A1_11 l1_11.length c1_11, .bool a1_12, .int .i64 a1_13], .int .i64 a2, .int .i64 a3, .slice A4 l4.length c4, .bool true] ?_; (with_reducible refine (node_Hear.calls kj6 a0_0 a0_1 a0_2 a0_3 a0_4 a1_0 a1_1 a1_2 a1_3 a1_4 a1_5 a1_6 a1_7 a1_8 a1_9 a1_10 _ _ l1_11 a1_12 a1_13 a2 a3 _ _ l4 true t628 t629 t630 t631 t632 t633 t634 t635 t636 t637 t638 t639 t642 t643 t644 t647 _ ?side1 ?side2 ?side3 ?side4 A24.out).mono ?_); (case side1 => exact cb HR1_11 HB); (case side2 => exact HC1_11.out); (case side3 => exact cb HR4 HB); (case side4 => exact HC4.out); rintro e w126 ⟨v640, v645, rfl, ho0, ho1, hb⟩; refine ⟨_, rfl, ?_⟩; have HO641 := rl ho0 HB; have HO646 := rl ho1 HB; replace BK623 := bb BK623 hb; replace BK624 := bb BK624 hb; replace HB := bs HB hb; (try clear hb); (try clear ho0); (try clear ho1)) | ((with_reducible refine gate_dst (N := 12) rfl ?_); (try (refine gate_guard (by rfl) ?_; dsimp only)); refine bx (N := 12) (cs := #[.int .i64 0, .int .i64 0, .int .u64 0, .int .i64 0, .int .i64 0, .int .i64 0, .int .i64 0, .int .i64 0, .int .u16 0, .int .i64 0, .int .i64 0, .slice none 0 0, .bool false, .int .i64 0]) (t := 32) ?_; intro gb648 hg w127 hbox hb; have BK648 := asd (hbox); have GW648 := bz HB hg; have GE648 := bz HB hg; have NB623_648 := nl BK623 hg; have NB648_623 := nr BK623 hg; have NB624_648 := nl BK624 hg; have NB648_624 := nr BK624 hg; replace HO641 := rb HO641 hb; replace HO646 := rb HO646 hb; replace BK623 := bb BK623 hb; replace BK624 := bb BK624 hb; replace HB := bs HB hb; clear hb hbox hg; have hnb128 := NB648_623.out; have hnc128 := NB623_648.out; have hnb129 := NB648_624.out; have hnc129 := NB624_648.out; have hcz130 := cf14 BK648; obtain ⟨Ao131, co131, eo131⟩ := Kd.R_slice HO641.out; subst eo131; have hcz132 := cf14 BK624) | (go_at_call 11; (with_reducible refine (node_Same.calls kj6 t628 t629 t630 t631 t632 t633 t634 t635 t636 t637 t638 _ _ t639 t642 t643 a1_0 a1_1 a1_2 a1_3 a1_4 a1_5 a1_6 a1_7 a1_8 a1_9 a1_10 _ _ l1_11 a1_12 a1_13 true _ ?side1 ?side2 ?side3 ?side4 A121.out).mono ?_); (case side1 => refine (Kd.R_reads' (e := 2) (base := w.heap.size) (ok := fun k_ => True) (n := t639.length) (c := co131) ?_).2.2; exact (by (with_reducible repeat (first | apply Kd.R_alloc | apply Kd.R_drewN | apply Kd.R_drew)); exact (Kd.R_mono (Kd.R_far (p := ⟨gb648, 13, none⟩) (Kd.R_far (p := ⟨gb648, 12, none⟩) (Kd.R_far (p := ⟨gb648, 11, none⟩) (Kd.R_far (p := ⟨gb648, 10, none⟩) (Kd.R_far (p := ⟨gb648, 9, none⟩) (Kd.R_far (p := ⟨gb648, 8, none⟩) (Kd.R_far (p := ⟨gb648, 7, none⟩) (Kd.R_far (p := ⟨gb648, 6, none⟩) (Kd.R_far (p := ⟨gb648, 5, none⟩) (Kd.R_far (p := ⟨gb648, 4, none⟩) (Kd.R_far (p := ⟨gb648, 3, none⟩) (Kd.R_far (p := ⟨gb648, 2, none⟩) (Kd.R_far (p := ⟨gb648, 1, none⟩) (Kd.R_far (p := ⟨gb648, 0, none⟩) (Kd.R_types HO641.out BK648.out (by decide)) (fun _ hk => hk.2) (.int .i64 t628)) (fun _ hk => hk.2) (.int .i64 t629)) (fun _ hk => hk.2) (.int .u64 t630)) (fun _ hk => hk.2) (.int .i64 t631)) (fun _ hk => hk.2) (.int .i64 t632)) (fun _ hk => hk.2) (.int .i64 t633)) (fun _ hk => hk.2) (.int .i64 t634)) (fun _ hk => hk.2) (.int .i64 t635)) (fun _ hk => hk.2) (.int .u16 t636)) (fun _ hk => hk.2) (.int .i64 t637)) (fun _ hk => hk.2) (.int .i64 t638)) (fun _ hk => hk.2) (.slice Ao131 t639.length co131)) (fun _ hk => hk.2) (.bool t642)) (fun _ hk => hk.2) (.int .i64 t643)) (fun _ h_ => h_.1)))); (case side2 => exact (Kd.R_reads' HO641.out).2.1); (case side3 => exact cb HR1_11 HB); (case side4 => exact HC1_11.out); rintro e w133 ⟨rfl, hb⟩; have n0_ := asd (Kd.R_below (by (with_reducible repeat (first | apply Kd.R_alloc | apply Kd.R_drewN | apply Kd.R_drew)); exact (Kd.R_mono (Kd.R_far (p := ⟨gb648, 13, none⟩) (Kd.R_far (p := ⟨gb648, 12, none⟩) (Kd.R_far (p := ⟨gb648, 11, none⟩) (Kd.R_far (p := ⟨gb648, 10, none⟩) (Kd.R_far (p := ⟨gb648, 9, none⟩) (Kd.R_far (p := ⟨gb648, 8, none⟩) (Kd.R_far (p := ⟨gb648, 7, none⟩) (Kd.R_far (p := ⟨gb648, 6, none⟩) (Kd.R_far (p := ⟨gb648, 5, none⟩) (Kd.R_far (p := ⟨gb648, 4, none⟩) (Kd.R_far (p := ⟨gb648, 3, none⟩) (Kd.R_far (p := ⟨gb648, 2, none⟩) (Kd.R_far (p := ⟨gb648, 1, none⟩) (Kd.R_far (p := ⟨gb648, 0, none⟩) (Kd.R_types HO641.out BK648.out (by decide)) (fun _ hk => hk.2) (.int .i64 t628)) (fun _ hk => hk.2) (.int .i64 t629)) (fun _ hk => hk.2) (.int .u64 t630)) (fun _ hk => hk.2) (.int .i64 t631)) (fun _ hk => hk.2) (.int .i64 t632)) (fun _ hk => hk.2) (.int .i64 t633)) (fun _ hk => hk.2) (.int .i64 t634)) (fun _ hk => hk.2) (.int .i64 t635)) (fun _ hk => hk.2) (.int .u16 t636)) (fun _ hk => hk.2) (.int .i64 t637)) (fun _ hk => hk.2) (.int .i64 t638)) (fun _ hk => hk.2) (.slice Ao131 t639.length co131)) (fun _ hk => hk.2) (.bool t642)) (fun _ hk => hk.2) (.int .i64 t643)) (fun _ h_ => h_.1))) hb); have n1_ := asd (Kd.R_below (by (with_reducible repeat (first | apply Kd.R_alloc | apply Kd.R_drewN | apply Kd.R_drew)); exact (Kd.R_mono (Kd.R_far (p := ⟨gb648, 13, none⟩) (Kd.R_far (p := ⟨gb648, 12, none⟩) (Kd.R_far (p := ⟨gb648, 11, none⟩) (Kd.R_far (p := ⟨gb648, 10, none⟩) (Kd.R_far (p := ⟨gb648, 9, none⟩) (Kd.R_far (p := ⟨gb648, 8, none⟩) (Kd.R_far (p := ⟨gb648, 7, none⟩) (Kd.R_far (p := ⟨gb648, 6, none⟩) (Kd.R_far (p := ⟨gb648, 5, none⟩) (Kd.R_far (p := ⟨gb648, 4, none⟩) (Kd.R_far (p := ⟨gb648, 3, none⟩) (Kd.R_far (p := ⟨gb648, 2, none⟩) (Kd.R_far (p := ⟨gb648, 1, none⟩) (Kd.R_far (p := ⟨gb648, 0, none⟩) (Kd.R_types HO646.out BK648.out (by decide)) (fun _ hk => hk.2) (.int .i64 t628)) (fun _ hk => hk.2) (.int .i64 t629)) (fun _ hk => hk.2) (.int .u64 t630)) (fun _ hk => hk.2) (.int .i64 t631)) (fun _ hk => hk.2) (.int .i64 t632)) (fun _ hk => hk.2) (.int .i64 t633)) (fun _ hk => hk.2) (.int .i64 t634)) (fun _ hk => hk.2) (.int .i64 t635)) (fun _ hk => hk.2) (.int .u16 t636)) (fun _ hk => hk.2) (.int .i64 t637)) (fun _ hk => hk.2) (.int .i64 t638)) (fun _ hk => hk.2) (.slice Ao131 t639.length co131)) (fun _ hk => hk.2) (.bool t642)) (fun _ hk => hk.2) (.int .i64 t643)) (fun _ h_ => h_.1))) hb); have n2_ := fq NB623_648 BK623 hb; have n3_ := fq NB624_648 BK624 hb; have n4_ := asd (blk_below (bp14 BK648).out hb); have n5_ := bs HB hb; clear HO641 HO646 BK623 BK624 BK648 HB; have HO641 := n0_; have HO646 := n1_; have BK623 := n2_; have BK624 := n3_; have BK648 := n4_; have HB := n5_; clear n0_ n1_ n2_ n3_ n4_ n5_; (try clear hb); (try clear hk); obtain ⟨Ao134, co134, eo134⟩ := Kd.R_slice HO646.out; subst eo134))
       go_ret
       exact ⟨by first | rfl | (simp [errW_none, errW_some] <;> rfl) | (simp [*, errW_none, errW_some] <;> rfl), by repeat (first | (with_reducible first | exact HB.out | apply below_alloc | apply pw_below_drewN | apply below_drew1 | refine below_set ?_ GE623.out | refine below_set ?_ GE624.out | refine below_set ?_ GE648.out) | exact HB.out)⟩
      ·replace c122 := Bool.eq_false_iff.mpr c122
       subst c122
       have H1 : (none) = some r := by rw [if_neg (show ¬ (false = true) by decide)] at H; exact H
       clear H
       have H := H1
       clear H1
       exact absurd H (by simp)
     ·replace c120 := Bool.eq_false_iff.mpr c120
      subst c120
      have H1 : (none) = some r := by rw [if_neg (show ¬ (false = true) by decide)] at H; exact H
      clear H
      have H := H1
      clear H1
      exact absurd H (by simp)

end Go.Proofs.YtcofclkgfandfaaGreat.Print
