-- PRINTED by print.py (a twelfth state) out of the translation. Not trusted: Lean checks it.
import Derived.Test.YtcofclkgfandfaaGreatSq
import Derived.Test.YtcofclkgfandfaaGreatRow14
import Derived.Test.YtcofclkgfandfaaGreatPrint0
import Derived.Test.YtcofclkgfandfaaGreatPrint11
import Derived.Test.YtcofclkgfandfaaGreatPrint12
import Derived.Test.YtcofclkgfandfaaGreatPrint24
import Derived.Test.YtcofclkgfandfaaGreatPrint25
import Derived.Test.YtcofclkgfandfaaGreatPrint37
namespace Go.Proofs.YtcofclkgfandfaaGreat.Print
set_option maxHeartbeats 8000000
set_option maxRecDepth 100000
open Go.RowKit Go.Proofs.YtcofclkgfandfaaGreatW.PrintWords Go.Proofs.YtcofclkgfandfaaGreatW.PrintLast Go.Proofs.YtcofclkgfandfaaGreatW.PrintMore Go.Proofs.YtcofclkgfandfaaGreatX
attribute [local go_sem] str_lss str_geq max2_int min2_int max_two min_two max_three min_three max_four min_four   -- for this text's walks alone
set_option linter.unusedVariables false
set_option linter.unusedSimpArgs false

/-! ### palletlaw13_NodeStays: function 6 -/
mutual
def palletlaw13_NodeStays.l0 : Nat → Bool → List Int → Int → List (S62) → Int → Int → Int → Int → Int → Int → Int → Int → Int → Int → Int → Int → Int → Int → Int → Int → Int → Int → List Int → Bool → Int → Option (Bool)
 | 0, _, _, _, _, _, _, _, _, _, _, _, _, _, _, _, _, _, _, _, _, _, _, _, _, _ => none
 | k + 1, x9, x13, x14, x54, x55, x56, x628000, x628001, x628002, x628003, x628004, x648000, x648001, x648002, x648003, x648004, x648005, x648006, x648007, x648008, x648009, x648010, x648011, x648012, x648013 => if x56 < x55 then (if 0 ≤ x56 then (if x56 < (x54.length : Int) then (if (((rd_T62 x54 x56).f0).length : Int) > 200 then (palletlaw13_NodeStays.j1 k x9 x13 x14 x54 x55 x56 true x628000 x628001 x628002 x628003 x628004 x648000 x648001 x648002 x648003 x648004 x648005 x648006 x648007 x648008 x648009 x648010 x648011 x648012 x648013 ((rd_T62 x54 x56).f0) ((rd_T62 x54 x56).f1) ((rd_T62 x54 x56).f2)) else (palletlaw13_NodeStays.j1 k x9 x13 x14 x54 x55 x56 (decide ((x13.length : Int) > 1)) x628000 x628001 x628002 x628003 x628004 x648000 x648001 x648002 x648003 x648004 x648005 x648006 x648007 x648008 x648009 x648010 x648011 x648012 x648013 ((rd_T62 x54 x56).f0) ((rd_T62 x54 x56).f1) ((rd_T62 x54 x56).f2))) else (none)) else (none)) else (some x9)
def palletlaw13_NodeStays.j1 : Nat → Bool → List Int → Int → List (S62) → Int → Int → Bool → Int → Int → Int → Int → Int → Int → Int → Int → Int → Int → Int → Int → Int → Int → Int → Int → List Int → Bool → Int → List Int → Int → Bool → Option (Bool)
 | 0, _, _, _, _, _, _, _, _, _, _, _, _, _, _, _, _, _, _, _, _, _, _, _, _, _, _, _, _, _ => none
 | k + 1, x9, x13, x14, x54, x55, x56, x68, x628000, x628001, x628002, x628003, x628004, x648000, x648001, x648002, x648003, x648004, x648005, x648006, x648007, x648008, x648009, x648010, x648011, x648012, x648013, x674000, x674001, x674002 => if x68 = true then (if x9 = true then (some (decide ((x13.length : Int) ≤ 1))) else (none)) else (if (x674000.length : Int) = 0 then (if (x13.length : Int) = 0 then (if x9 = true then (some (x648001 == 3)) else (none)) else (if 0 < (x13.length : Int) then ((node_Timer.f k x628000 x628001 x628002 x628003 x628004 x648000 x648001 x648002 x648003 x648004 x648005 x648006 x648007 x648008 x648009 x648010 x648011 x648012 x648013 (rd x13 0)).bind fun bt676 => (palletlaw13_NodeStays.j2 k x9 bt676.2.2.2.2.2.2.2.2.2.2.2.2.2.2.2 bt676.2.2.2.2.2.2.2.2.2.2.2.2.2.2.1 ([] : List Int) (rd x13 0) x54 x55 x56 x628000 x628001 x628002 x628003 x628004 bt676.1 bt676.2.1 bt676.2.2.1 bt676.2.2.2.1 bt676.2.2.2.2.1 bt676.2.2.2.2.2.1 bt676.2.2.2.2.2.2.1 bt676.2.2.2.2.2.2.2.1 bt676.2.2.2.2.2.2.2.2.1 bt676.2.2.2.2.2.2.2.2.2.1 bt676.2.2.2.2.2.2.2.2.2.2.1 bt676.2.2.2.2.2.2.2.2.2.2.2.1 bt676.2.2.2.2.2.2.2.2.2.2.2.2.1 bt676.2.2.2.2.2.2.2.2.2.2.2.2.2.1 x648000 x648001 x648002 x648003 x648004 x648005 x648006 x648007 x648008 x648009 x648010 x648011 x648012 x648013)) else (none))) else ((node_Hear.f k x628000 x628001 x628002 x628003 x628004 x648000 x648001 x648002 x648003 x648004 x648005 x648006 x648007 x648008 x648009 x648010 x648011 x648012 x648013 x14 (wrap64 (x14 - (Int.tmod (wrap64 ((Int.tmod x674001 1048576) + 1048576)) 1048576))) x674000 x674002).bind fun bt696 => (palletlaw13_NodeStays.j2 k x9 bt696.2.2.2.2.2.2.2.2.2.2.2.2.2.2.2 bt696.2.2.2.2.2.2.2.2.2.2.2.2.2.2.1 x13 x14 x54 x55 x56 x628000 x628001 x628002 x628003 x628004 bt696.1 bt696.2.1 bt696.2.2.1 bt696.2.2.2.1 bt696.2.2.2.2.1 bt696.2.2.2.2.2.1 bt696.2.2.2.2.2.2.1 bt696.2.2.2.2.2.2.2.1 bt696.2.2.2.2.2.2.2.2.1 bt696.2.2.2.2.2.2.2.2.2.1 bt696.2.2.2.2.2.2.2.2.2.2.1 bt696.2.2.2.2.2.2.2.2.2.2.2.1 bt696.2.2.2.2.2.2.2.2.2.2.2.2.1 bt696.2.2.2.2.2.2.2.2.2.2.2.2.2.1 x648000 x648001 x648002 x648003 x648004 x648005 x648006 x648007 x648008 x648009 x648010 x648011 x648012 x648013)))
def palletlaw13_NodeStays.j2 : Nat → Bool → Int → List (S66) → List Int → Int → List (S62) → Int → Int → Int → Int → Int → Int → Int → Int → Int → Int → Int → Int → Int → Int → Int → Int → Int → Int → List Int → Bool → Int → Int → Int → Int → Int → Int → Int → Int → Int → Int → Int → Int → List Int → Bool → Int → Option (Bool)
 | 0, _, _, _, _, _, _, _, _, _, _, _, _, _, _, _, _, _, _, _, _, _, _, _, _, _, _, _, _, _, _, _, _, _, _, _, _, _, _, _, _, _ => none
 | k + 1, x9, x11, x12, x13, x14, x54, x55, x56, x628000, x628001, x628002, x628003, x628004, x648000, x648001, x648002, x648003, x648004, x648005, x648006, x648007, x648008, x648009, x648010, x648011, x648012, x648013, x675000, x675001, x675002, x675003, x675004, x675005, x675006, x675007, x675008, x675009, x675010, x675011, x675012, x675013 => if x11 = 0 then ((node_Check.f k x628000 x628001 x628002 x628003 x628004 x648000 x648001 x648002 x648003 x648004 x648005 x648006 x648007 x648008 x648009 x648010 x648011 x648012 x648013).bind fun t717 => (if t717 = 0 then ((palletlaw13_timers.f k x12).bind fun t718 => (palletlaw13_NodeStays.l1 k x9 x12 x13 x14 x54 x55 x56 t718 (t718.length : Int) 0 x628000 x628001 x628002 x628003 x628004 x648000 x648001 x648002 x648003 x648004 x648005 x648006 x648007 x648008 x648009 x648010 x648011 x648012 x648013 x675000 x675001 x675002 x675003 x675004 x675005 x675006 x675007 x675008 x675009 x675010 x675011 x675012 x675013)) else (none))) else (if x9 = true then ((node_Same.f k x648000 x648001 x648002 x648003 x648004 x648005 x648006 x648007 x648008 x648009 x648010 x648011 x648012 x648013 x675000 x675001 x675002 x675003 x675004 x675005 x675006 x675007 x675008 x675009 x675010 x675011 x675012 x675013).bind fun t716 => (some t716)) else (none))
def palletlaw13_NodeStays.l1 : Nat → Bool → List (S66) → List Int → Int → List (S62) → Int → Int → List Int → Int → Int → Int → Int → Int → Int → Int → Int → Int → Int → Int → Int → Int → Int → Int → Int → Int → Int → List Int → Bool → Int → Int → Int → Int → Int → Int → Int → Int → Int → Int → Int → Int → List Int → Bool → Int → Option (Bool)
 | 0, _, _, _, _, _, _, _, _, _, _, _, _, _, _, _, _, _, _, _, _, _, _, _, _, _, _, _, _, _, _, _, _, _, _, _, _, _, _, _, _, _, _, _ => none
 | k + 1, x9, x12, x13, x14, x54, x55, x56, x132, x133, x134, x628000, x628001, x628002, x628003, x628004, x648000, x648001, x648002, x648003, x648004, x648005, x648006, x648007, x648008, x648009, x648010, x648011, x648012, x648013, x675000, x675001, x675002, x675003, x675004, x675005, x675006, x675007, x675008, x675009, x675010, x675011, x675012, x675013 => if x134 < x133 then (if 0 ≤ x134 then (if x134 < (x132.length : Int) then (if (rd x132 x134) < x14 then (none) else (palletlaw13_NodeStays.l1 k x9 x12 (([rd x132 x134] : List Int)) x14 x54 x55 x56 x132 x133 (wrap64 (x134 + 1)) x628000 x628001 x628002 x628003 x628004 x648000 x648001 x648002 x648003 x648004 x648005 x648006 x648007 x648008 x648009 x648010 x648011 x648012 x648013 x675000 x675001 x675002 x675003 x675004 x675005 x675006 x675007 x675008 x675009 x675010 x675011 x675012 x675013)) else (none)) else (none)) else (if x675001 = 3 then (if (x12.length : Int) > 0 then (none) else ((node_Same.f k x648000 x648001 x648002 x648003 x648004 x648005 x648006 x648007 x648008 x648009 x648010 x648011 x648012 x648013 x675000 x675001 x675002 x675003 x675004 x675005 x675006 x675007 x675008 x675009 x675010 x675011 x675012 x675013).bind fun t725 => (palletlaw13_NodeStays.j4 k x9 x13 x14 x54 x55 x56 (!t725) x628000 x628001 x628002 x628003 x628004 x648000 x648001 x648002 x648003 x648004 x648005 x648006 x648007 x648008 x648009 x648010 x648011 x648012 x648013))) else (palletlaw13_NodeStays.j4 k x9 x13 x14 x54 x55 x56 false x628000 x628001 x628002 x628003 x628004 x648000 x648001 x648002 x648003 x648004 x648005 x648006 x648007 x648008 x648009 x648010 x648011 x648012 x648013))
def palletlaw13_NodeStays.j4 : Nat → Bool → List Int → Int → List (S62) → Int → Int → Bool → Int → Int → Int → Int → Int → Int → Int → Int → Int → Int → Int → Int → Int → Int → Int → Int → List Int → Bool → Int → Option (Bool)
 | 0, _, _, _, _, _, _, _, _, _, _, _, _, _, _, _, _, _, _, _, _, _, _, _, _, _, _ => none
 | k + 1, x9, x13, x14, x54, x55, x56, x157, x628000, x628001, x628002, x628003, x628004, x648000, x648001, x648002, x648003, x648004, x648005, x648006, x648007, x648008, x648009, x648010, x648011, x648012, x648013 => if x157 = true then (none) else (palletlaw13_NodeStays.l0 k x9 x13 x14 x54 x55 (wrap64 (x56 + 1)) x628000 x628001 x628002 x628003 x628004 x648000 x648001 x648002 x648003 x648004 x648005 x648006 x648007 x648008 x648009 x648010 x648011 x648012 x648013)
end
def palletlaw13_NodeStays.f (k : Nat) (a0_0 a0_1 a0_2 a0_3 a0_4 a1 a2_0 a2_1 a2_2 : Int) (l3 : List (S62)) : Option (Bool) := (palletlaw13_live.f k).bind fun t629 => (if t629 = true then (if (l3.length : Int) > 60 then (some t629) else ((node_New.f k a0_0 a0_1 a0_2 a0_3 a0_4 a1 a2_0 a2_1 a2_2).bind fun bt630 => (if bt630.2.2.2.2.2.2.2.2.2.2.2.2.2.2 = 0 then ((node_Wake.f k a0_0 a0_1 a0_2 a0_3 a0_4 bt630.1 bt630.2.1 bt630.2.2.1 bt630.2.2.2.1 bt630.2.2.2.2.1 bt630.2.2.2.2.2.1 bt630.2.2.2.2.2.2.1 bt630.2.2.2.2.2.2.2.1 bt630.2.2.2.2.2.2.2.2.1 bt630.2.2.2.2.2.2.2.2.2.1 bt630.2.2.2.2.2.2.2.2.2.2.1 bt630.2.2.2.2.2.2.2.2.2.2.2.1 bt630.2.2.2.2.2.2.2.2.2.2.2.2.1 bt630.2.2.2.2.2.2.2.2.2.2.2.2.2.1 0).bind fun bt649 => (if bt649.2.2.2.2.2.2.2.2.2.2.2.2.2.2.2 = 0 then ((palletlaw13_timers.f k bt649.2.2.2.2.2.2.2.2.2.2.2.2.2.2.1).bind fun t669 => (palletlaw13_NodeStays.l0 k t629 t669 0 l3 (l3.length : Int) 0 a0_0 a0_1 a0_2 a0_3 a0_4 bt649.1 bt649.2.1 bt649.2.2.1 bt649.2.2.2.1 bt649.2.2.2.2.1 bt649.2.2.2.2.2.1 bt649.2.2.2.2.2.2.1 bt649.2.2.2.2.2.2.2.1 bt649.2.2.2.2.2.2.2.2.1 bt649.2.2.2.2.2.2.2.2.2.1 bt649.2.2.2.2.2.2.2.2.2.2.1 bt649.2.2.2.2.2.2.2.2.2.2.2.1 bt649.2.2.2.2.2.2.2.2.2.2.2.2.1 bt649.2.2.2.2.2.2.2.2.2.2.2.2.2.1)) else (none))) else ((node_Same.f k bt630.1 bt630.2.1 bt630.2.2.1 bt630.2.2.2.1 bt630.2.2.2.2.1 bt630.2.2.2.2.2.1 bt630.2.2.2.2.2.2.1 bt630.2.2.2.2.2.2.2.1 bt630.2.2.2.2.2.2.2.2.1 bt630.2.2.2.2.2.2.2.2.2.1 bt630.2.2.2.2.2.2.2.2.2.2.1 bt630.2.2.2.2.2.2.2.2.2.2.2.1 bt630.2.2.2.2.2.2.2.2.2.2.2.2.1 bt630.2.2.2.2.2.2.2.2.2.2.2.2.2.1 0 0 0 0 0 0 0 0 0 0 0 ([] : List Int) false 0).bind fun t648 => (some t648))))) else (none))
theorem palletlaw13_NodeStays.calls (k : Nat) (a0_0 a0_1 a0_2 a0_3 a0_4 a1 a2_0 a2_1 a2_2 : Int) (A3 : Option Addr) (c3 : Nat) (l3 : List (S62)) (r : Bool) (w : World) (hr3 : Kd.C k62 w A3 l3.length l3) (hc3 : l3.length ≤ c3) (hr_ : Aside0 (r = true)) (h : palletlaw13_NodeStays.f k a0_0 a0_1 a0_2 a0_3 a0_4 a1 a2_0 a2_1 a2_2 l3 = some r) :
  Calls Tryz.prog 6 #[.agg #[.int .i64 a0_0, .int .i64 a0_1, .int .i64 a0_2, .int .i64 a0_3, .int .i64 a0_4], .int .i64 a1, .agg #[.int .i64 a2_0, .int .i64 a2_1, .int .i64 a2_2], .slice A3 l3.length c3] w fun e w' => e = .returned (.bool r) ∧ Below w.heap.size w w' := by
 have hu23 := Tryz.underlying23
 have hu26 := Tryz.underlying26
 have hu32 := Tryz.underlying32
 have hu62 := Tryz.underlying62
 have HR3 := asd hr3
 have HC3 := asd hc3
 clear hr3 hc3
 have HB := asd (Below.refl w.heap.size w)
 unfold palletlaw13_NodeStays.f at h
 have H := h
 clear h
 obtain ⟨t629, A5, H⟩ := bio H
 by_cases c6 : t629 = true
 ·subst c6
  rw [if_pos rfl] at H
  by_cases c7 : (l3.length : Int) > 60
  ·rw [if_pos c7] at H
   have c7b0 := decide_eq_true c7
   have c7b1 : decide (60 < l3.length) = true := decide_eq_true (by omega)
   clear c7
   obtain rfl := Option.some.inj H
   go_enter Tryz.func6, Tryz.ntmps6
   go_wp2_with (first | ((with_reducible refine gate_dst (N := 4) rfl ?_); refine bG 4 #[.int .i64 a0_0, .int .i64 a0_1, .int .i64 a0_2, .int .i64 a0_3, .int .i64 a0_4] 23 ?_; intro gb627 hg w8 BK627 hb; have GW627 := bz HB hg; have GE627 := bz HB hg; replace HB := bs HB hb; clear hb hg) | ((with_reducible refine gate_dst (N := 6) rfl ?_); refine bG 6 #[.int .i64 a2_0, .int .i64 a2_1, .int .i64 a2_2] 26 ?_; intro gb628 hg w9 BK628 hb; have GW628 := bz HB hg; have GE628 := bz HB hg; have NB627_628 := nl BK627 hg; have NB628_627 := nr BK627 hg; replace BK627 := bb BK627 hb; replace HB := bs HB hb; clear hb hg) | ((with_reducible refine gate_callee (f := 7) rfl ?_); refine gC (some 20) Tryz.func7 (palletlaw13_live.calls k  true _ A5.out) ?_; rintro e w10 ⟨rfl, hb⟩; refine ⟨_, rfl, ?_⟩; replace BK627 := bb BK627 hb; replace BK628 := bb BK628 hb; replace HB := bs HB hb; (try clear hb)) | ((with_reducible refine gS rfl ?_); refine st14 ?_) | ((with_reducible refine gD rfl ?_); refine ldR ?_))
   go_ret
   exact xo (bse HB)
  rw [if_neg c7] at H
  have c7b0 := decide_eq_false c7
  have c7b1 : decide (60 < l3.length) = false := decide_eq_false (by omega)
  clear c7
  obtain ⟨⟨t630, t631, t632, t633, t634, t635, t636, t637, t638, t639, t640, t641, t644, t645, t646⟩, A11, H⟩ := bio H
  try dsimp only at H
  by_cases c12 : t646 = 0
  ·rw [if_pos c12] at H
   have c12b0 := beq_iff_eq.mpr c12
   have c12b1 := bne_eq_false_iff_eq.mpr c12
   clear c12
   obtain ⟨⟨t649, t650, t651, t652, t653, t654, t655, t656, t657, t658, t659, t660, t663, t664, t665, t668⟩, A13, H⟩ := bio H
   try dsimp only at H
   by_cases c14 : t668 = 0
   ·rw [if_pos c14] at H
    have c14b0 := beq_iff_eq.mpr c14
    have c14b1 := bne_eq_false_iff_eq.mpr c14
    clear c14
    obtain ⟨t669, A15, H⟩ := bio H
    have H' := asd H
    clear H
    go_enter Tryz.func6, Tryz.ntmps6
    go_upto_region 15 with (first | ((with_reducible refine gate_dst (N := 4) rfl ?_); refine bG 4 #[.int .i64 a0_0, .int .i64 a0_1, .int .i64 a0_2, .int .i64 a0_3, .int .i64 a0_4] 23 ?_; intro gb627 hg w16 BK627 hb; have GW627 := bz HB hg; have GE627 := bz HB hg; replace HB := bs HB hb; clear hb hg) | ((with_reducible refine gate_dst (N := 6) rfl ?_); refine bG 6 #[.int .i64 a2_0, .int .i64 a2_1, .int .i64 a2_2] 26 ?_; intro gb628 hg w17 BK628 hb; have GW628 := bz HB hg; have GE628 := bz HB hg; have NB627_628 := nl BK627 hg; have NB628_627 := nr BK627 hg; replace BK627 := bb BK627 hb; replace HB := bs HB hb; clear hb hg) | ((with_reducible refine gate_callee (f := 7) rfl ?_); refine gC (some 20) Tryz.func7 (palletlaw13_live.calls k  true _ A5.out) ?_; rintro e w18 ⟨rfl, hb⟩; refine ⟨_, rfl, ?_⟩; replace BK627 := bb BK627 hb; replace BK628 := bb BK628 hb; replace HB := bs HB hb; (try clear hb); have hnb19 := NB627_628.out; have hnc19 := NB628_627.out; have hcz20 := cf5 BK627; have hcz21 := ca3 BK628) | ((with_reducible refine gate_callee (f := 13) rfl ?_); refine gC (some 31) Tryz.func13 (node_New.calls k a0_0 a0_1 a0_2 a0_3 a0_4 a1 a2_0 a2_1 a2_2 t630 t631 t632 t633 t634 t635 t636 t637 t638 t639 t640 t641 t644 t645 t646 _ A11.out) ?_; rintro e w22 ⟨v642, rfl, ho0, hb⟩; refine ⟨_, rfl, ?_⟩; have HO643 := rl ho0 HB; replace BK627 := bb BK627 hb; replace BK628 := bb BK628 hb; replace HB := bs HB hb; (try clear hb); (try clear ho0)) | ((with_reducible refine gate_dst (N := 10) rfl ?_); refine bG 10 #[.int .i64 0, .int .i64 0, .int .u64 0, .int .i64 0, .int .i64 0, .int .i64 0, .int .i64 0, .int .i64 0, .int .u16 0, .int .i64 0, .int .i64 0, .slice none 0 0, .bool false, .int .i64 0] 32 ?_; intro gb647 hg w23 BK647 hb; have GW647 := bz HB hg; have GE647 := bz HB hg; have NB627_647 := nl BK627 hg; have NB647_627 := nr BK627 hg; have NB628_647 := nl BK628 hg; have NB647_628 := nr BK628 hg; replace HO643 := rb HO643 hb; replace BK627 := bb BK627 hb; replace BK628 := bb BK628 hb; replace HB := bs HB hb; clear hb hg; have hnb24 := NB647_627.out; have hnc24 := NB627_647.out; have hnb25 := NB647_628.out; have hnc25 := NB628_647.out; have hcz26 := cf14 BK647; obtain ⟨Ao27, co27, eo27⟩ := Kd.R_slice HO643.out; subst eo27; have hcz28 := cf5 BK627) | ((with_reducible refine gate_callee (f := 15) rfl ?_); refine gC (some 45) Tryz.func15 (node_Wake.calls k a0_0 a0_1 a0_2 a0_3 a0_4 t630 t631 t632 t633 t634 t635 t636 t637 t638 t639 t640 Ao27 co27 t641 t644 t645 0 t649 t650 t651 t652 t653 t654 t655 t656 t657 t658 t659 t660 t663 t664 t665 t668 _ ?side1 ?side2 A13.out) ?_; (case side1 => refine (Kd.R_reads' (e := 2) (base := w.heap.size) (ok := fun k_ => True) (n := t641.length) (c := co27) ?_).2.2; exact (rf HO643 BK647 (by decide) (fun _ hk => hk)).out); (case side2 => exact (Kd.R_reads' HO643.out).2.1); rintro e w29 ⟨v661, v666, rfl, ho0, ho1, hb⟩; refine ⟨_, rfl, ?_⟩; have HO662 := asd (Kd.R_lower (Kd.R_new' ho0 (Kd.R_lt (rf HO643 BK647 (by decide) (fun _ hk => hk)).out)) (below_size (bse HB))); have HO667 := rl ho1 HB; replace HO643 := asd (Kd.R_elder' (rf HO643 BK647 (by decide) (fun _ hk => hk)).out (Kd.R_base ho0) hb); replace BK627 := fq NB627_647 BK627 hb; replace BK628 := fq NB628_647 BK628 hb; replace BK647 := asd (blk_below (bp14 BK647).out hb); replace HB := bs HB hb; (try clear hb); (try clear hk); (try clear ho0); (try clear ho1); have hcz30 := cf14 BK647; obtain ⟨Ao31, co31, eo31⟩ := Kd.R_slice HO662.out; subst eo31; obtain ⟨Ao32, co32, eo32⟩ := Kd.R_slice HO667.out; subst eo32) | ((with_reducible refine gate_callee (f := 18) rfl ?_); refine gC (some 53) Tryz.func18 (palletlaw13_timers.calls k Ao32 co32 t665 t669 _ ?side1 ?side2 A15.out) ?_; (case side1 => refine (Kd.R_reads' (e := 66) (base := w.heap.size) (ok := fun k_ => True) (n := t665.length) (c := co32) ?_).2.2; exact (rf HO667 BK647 (by decide) (fun _ hk => hk)).out); (case side2 => exact (Kd.R_reads' HO667.out).2.1); rintro e w33 ⟨v670, rfl, ho0, hb⟩; refine ⟨_, rfl, ?_⟩; have HO671 := asd (Kd.R_lower (Kd.R_new' (Kd.R_new' ho0 (Kd.R_lt (rf HO643 BK647 (by decide) (fun _ hk => hk)).out)) (Kd.R_lt (rf HO662 BK647 (by decide) (fun _ hk => hk)).out)) (below_size (bse HB))); replace HO643 := asd (Kd.R_elder' (rf HO643 BK647 (by decide) (fun _ hk => hk)).out (Kd.R_base ho0) hb); replace HO662 := asd (Kd.R_elder' (rf HO662 BK647 (by decide) (fun _ hk => hk)).out (Kd.R_base ho0) hb); replace HO667 := rfb HO667 BK647 (by decide) (fun _ hk => hk) hb; replace BK627 := fq NB627_647 BK627 hb; replace BK628 := fq NB628_647 BK628 hb; replace BK647 := asd (blk_below (bp14 BK647).out hb); replace HB := bs HB hb; (try clear hb); (try clear hk); (try clear ho0)) | ((with_reducible refine gS rfl ?_); refine st14 ?_) | ((with_reducible refine gD rfl ?_); refine ldR ?_))
    go_loopg [13, 14, 56] k (fun kq v13 v14 v56 w' => ∃ (x13_1 : List Int) (x14_1 x56_1 x648000_1 x648001_1 x648002_1 x648003_1 x648004_1 x648005_1 x648006_1 x648007_1 x648008_1 x648009_1 x648010_1 : Int) (x648011_1 : List Int) (x648012_1 : Bool) (x648013_1 : Int) (u648011 : Value), v14 = .int .i64 x14_1 ∧ v56 = .int .i64 x56_1 ∧ Aside0 (palletlaw13_NodeStays.l0 kq true x13_1 x14_1 l3 (l3.length : Int) x56_1 a0_0 a0_1 a0_2 a0_3 a0_4 x648000_1 x648001_1 x648002_1 x648003_1 x648004_1 x648005_1 x648006_1 x648007_1 x648008_1 x648009_1 x648010_1 x648011_1 x648012_1 x648013_1 = some r) ∧ Aside0 (kq ≤ k) ∧ Aside0 (Kd.R (Kd.int .i64) 2 w' w.heap.size (fun k_ => some k_ ≠ (u648011 : Value).ownBlock) v13 x13_1) ∧ Aside0 (Kd.R (Kd.int .i64) 2 w' w.heap.size (fun k_ => some k_ ≠ (v13 : Value).ownBlock) u648011 x648011_1) ∧ Aside0 (w'.heap[gb627]? = some (.cells #[.int .i64 a0_0, .int .i64 a0_1, .int .i64 a0_2, .int .i64 a0_3, .int .i64 a0_4] 23 (0, 0))) ∧ Aside0 (w'.heap[gb628]? = some (.cells #[.int .i64 a2_0, .int .i64 a2_1, .int .i64 a2_2] 26 (0, 0))) ∧ Aside0 (w'.heap[gb647]? = some (.cells #[.int .i64 x648000_1, .int .i64 x648001_1, .int .u64 x648002_1, .int .i64 x648003_1, .int .i64 x648004_1, .int .i64 x648005_1, .int .i64 x648006_1, .int .i64 x648007_1, .int .u16 x648008_1, .int .i64 x648009_1, .int .i64 x648010_1, u648011, .bool x648012_1, .int .i64 x648013_1] 32 (0, 0))) ∧ Aside0 (Below w.heap.size w w'))
    case atStart => exact ⟨(t669), (0), (0), (t649), (t650), (t651), (t652), (t653), (t654), (t655), (t656), (t657), (t658), (t659), (t660), (t663), (t664), (.slice Ao31 t660.length co31), au, au, H', ⟨Nat.le_refl _⟩, ⟨by (with_reducible repeat (first | apply Kd.R_alloc | apply Kd.R_drewN | apply Kd.R_drew)); exact Kd.R_mono HO671.out (fun _ hk => hk.2)⟩, ⟨by (with_reducible repeat (first | apply Kd.R_alloc | apply Kd.R_drewN | apply Kd.R_drew)); exact Kd.R_mono HO662.out (fun _ hk => hk.2)⟩, be BK627, be BK628, be BK647, ⟨bse HB⟩⟩
    case round =>
     clear H'
     try clear c1
     try clear c2
     try clear p2
     try clear c3
     try clear c6
     try clear c7
     try clear c7b0
     try clear c7b1
     try clear c12
     try clear c12b0
     try clear c12b1
     try clear c13
     try clear c14
     try clear c14b0
     try clear c14b1
     try clear c15
     try clear c18
     try clear c19
     try clear c24
     try clear c25
     try clear hcz20
     try clear hcz21
     try clear hcz21
     try clear hcz21
     try clear hcz26
     try clear hcz28
     try clear hcz30
     try clear hcz20
     try clear hcz21
     try clear hcz21
     try clear hcz21
     try clear hcz26
     try clear hcz28
     try clear hcz30
     obtain ⟨x13_1, x14_1, x56_1, x648000_1, x648001_1, x648002_1, x648003_1, x648004_1, x648005_1, x648006_1, x648007_1, x648008_1, x648009_1, x648010_1, x648011_1, x648012_1, x648013_1, u648011, rfl, rfl, HA, HK1, HO_13, HO_648011, BK627, BK628, BK647, HB⟩ := hrel
     cases gk with
     | zero => exact absurd HA.out (by simp [palletlaw13_NodeStays.l0])
     | succ k1 =>
      have H := HA.out
      clear HA
      simp only [palletlaw13_NodeStays.l0] at H
      by_cases c34 : x56_1 < (l3.length : Int)
      ·rw [if_pos c34] at H
       have c34b0 := decide_eq_true c34
       clear c34
       by_cases c35 : 0 ≤ x56_1
       ·rw [if_pos c35] at H
        have c35b0 := decide_eq_true c35
        clear c35
        by_cases c36 : x56_1 < (l3.length : Int)
        ·rw [if_pos c36] at H
         have c36b0 := decide_eq_true c36
         clear c36
         have HC37 := asd H
         clear H
         have p672 : 0 ≤ (x56_1 : Int) := of_decide_eq_true (by first | (with_reducible assumption) | assumption)
         have q672 : x56_1 < (l3.length : Int) := of_decide_eq_true (by first | (with_reducible assumption) | assumption)
         obtain ⟨ad672, A672_0, c672_0, e672, hx672_0, hx672_1, hx672_2, hl672_0, hi672_0⟩ := at_T62 HR3.out x56_1 p672 q672
         cases e672
         replace hx672_0 := (HB.out.cell (World.block_lt_of_cell? w _ hx672_0)).trans hx672_0
         replace hx672_1 := (HB.out.cell (World.block_lt_of_cell? w _ hx672_1)).trans hx672_1
         replace hx672_2 := (HB.out.cell (World.block_lt_of_cell? w _ hx672_2)).trans hx672_2
         have HR672_0 := asd hi672_0
         have HC672_0 := asd hl672_0
         clear hi672_0 hl672_0
         replace p672 := eq_true p672
         replace q672 := eq_true q672
         go_upto_region 17 with (first | ((with_reducible refine gate_dst (N := 16) rfl ?_); refine bG 16 #[.slice none 0 0, .int .i64 0, .bool false] 62 ?_; intro gb673 hg w38 BK673 hb; have GW673 := bz HB hg; have GE673 := bz HB hg; have NB627_673 := nl BK627 hg; have NB673_627 := nr BK627 hg; have NB628_673 := nl BK628 hg; have NB673_628 := nr BK628 hg; have NB647_673 := nl BK647 hg; have NB673_647 := nr BK647 hg; replace HO_13 := rb HO_13 hb; replace HO_648011 := rb HO_648011 hb; replace BK627 := bb BK627 hb; replace BK628 := bb BK628 hb; replace BK647 := bb BK647 hb; replace HB := bs HB hb; clear hb hg; have hnb39 := NB673_627.out; have hnc39 := NB627_673.out; have hnb40 := NB673_628.out; have hnc40 := NB628_673.out; have hnb41 := NB673_647.out; have hnc41 := NB647_673.out; have hcz42 := ca3 BK673) | ((with_reducible refine gS rfl ?_); refine st14 ?_) | ((with_reducible refine gD rfl ?_); refine ldR ?_))
         (try simp only [Act.put, List.setIfInBounds_toArray, List.set_cons_zero, List.set_cons_succ])
         go_cut [68] (fun v68 wc => ∃ (kq : Nat) (x68_36 : Bool), v68 = .bool x68_36 ∧ Aside0 (palletlaw13_NodeStays.j1 kq true x13_1 x14_1 l3 (l3.length : Int) x56_1 x68_36 a0_0 a0_1 a0_2 a0_3 a0_4 x648000_1 x648001_1 x648002_1 x648003_1 x648004_1 x648005_1 x648006_1 x648007_1 x648008_1 x648009_1 x648010_1 x648011_1 x648012_1 x648013_1 ((rd_T62 l3 x56_1).f0) ((rd_T62 l3 x56_1).f1) ((rd_T62 l3 x56_1).f2) = some r) ∧ Aside0 (kq ≤ k1) ∧ Aside0 (Kd.R (Kd.int .i64) 2 wc w.heap.size (fun k_ => some k_ ≠ (u648011 : Value).ownBlock) u13 x13_1) ∧ Aside0 (Kd.R (Kd.int .i64) 2 wc w.heap.size (fun k_ => some k_ ≠ (u13 : Value).ownBlock) u648011 x648011_1) ∧ Aside0 (wc.heap[gb627]? = some (.cells #[.int .i64 a0_0, .int .i64 a0_1, .int .i64 a0_2, .int .i64 a0_3, .int .i64 a0_4] 23 (0, 0))) ∧ Aside0 (wc.heap[gb628]? = some (.cells #[.int .i64 a2_0, .int .i64 a2_1, .int .i64 a2_2] 26 (0, 0))) ∧ Aside0 (wc.heap[gb647]? = some (.cells #[.int .i64 x648000_1, .int .i64 x648001_1, .int .u64 x648002_1, .int .i64 x648003_1, .int .i64 x648004_1, .int .i64 x648005_1, .int .i64 x648006_1, .int .i64 x648007_1, .int .u16 x648008_1, .int .i64 x648009_1, .int .i64 x648010_1, u648011, .bool x648012_1, .int .i64 x648013_1] 32 (0, 0))) ∧ Aside0 (wc.heap[gb673]? = some (.cells #[(.slice A672_0 ((rd_T62 l3 x56_1).f0).length c672_0), .int .i64 ((rd_T62 l3 x56_1).f1), .bool ((rd_T62 l3 x56_1).f2)] 62 (0, 0))) ∧ Aside0 (Below w.heap.size w wc))
         case first =>
          have H := HC37.out
          clear HC37
          by_cases c43 : (((rd_T62 l3 x56_1).f0).length : Int) > 200
          ·rw [if_pos c43] at H
           have c43b0 := decide_eq_true c43
           have c43b1 : decide (200 < ((rd_T62 l3 x56_1).f0).length) = true := decide_eq_true (by omega)
           clear c43
           (first | rw [c43b0] | (simp only [i64_w, i32_w]; rw [c43b0]) | skip)
           have H' := asd H
           clear H
           have hnb44 := NB673_627.out
           have hnc44 := NB627_673.out
           have hnb45 := NB673_628.out
           have hnc45 := NB628_673.out
           have hnb46 := NB673_647.out
           have hnc46 := NB647_673.out
           have hcz47 := ca3 BK673
           go_wp2_with (first | ((with_reducible refine gS rfl ?_); refine st14 ?_) | ((with_reducible refine gD rfl ?_); refine ldR ?_))
           go_meet
           case rel => exact ⟨_, (true), au, H', ⟨by have := HK1.out; first | omega | exact Nat.le_refl _⟩, ⟨by (with_reducible repeat (first | apply Kd.R_alloc | apply Kd.R_drewN | apply Kd.R_drew)); exact Kd.R_mono (Kd.R_far (p := ⟨gb673, 2, none⟩) (Kd.R_far (p := ⟨gb673, 1, none⟩) (Kd.R_far (p := ⟨gb673, 0, none⟩) (Kd.R_types HO_13.out BK673.out (by decide)) (fun _ hk => hk.2) (.slice A672_0 ((rd_T62 l3 x56_1).f0).length c672_0)) (fun _ hk => hk.2) (.int .i64 ((rd_T62 l3 x56_1).f1))) (fun _ hk => hk.2) (.bool ((rd_T62 l3 x56_1).f2))) (fun _ hk => hk.1)⟩, ⟨by (with_reducible repeat (first | apply Kd.R_alloc | apply Kd.R_drewN | apply Kd.R_drew)); exact Kd.R_mono (Kd.R_far (p := ⟨gb673, 2, none⟩) (Kd.R_far (p := ⟨gb673, 1, none⟩) (Kd.R_far (p := ⟨gb673, 0, none⟩) (Kd.R_types HO_648011.out BK673.out (by decide)) (fun _ hk => hk.2) (.slice A672_0 ((rd_T62 l3 x56_1).f0).length c672_0)) (fun _ hk => hk.2) (.int .i64 ((rd_T62 l3 x56_1).f1))) (fun _ hk => hk.2) (.bool ((rd_T62 l3 x56_1).f2))) (fun _ hk => hk.1)⟩, ff NB627_673 BK627, ff NB628_673 BK628, ff NB647_673 BK647, ⟨by (with_reducible repeat (first | refine blk_drewN ?_ _ | refine blk_drew ?_ | refine blk_alloc ?_ _)); refine blk_put (cs := #[.slice A672_0 ((rd_T62 l3 x56_1).f0).length c672_0, .int .i64 ((rd_T62 l3 x56_1).f1), .bool false]) ?_ 2 _ rfl; (with_reducible repeat (first | refine blk_drewN ?_ _ | refine blk_drew ?_ | refine blk_alloc ?_ _)); refine blk_put (cs := #[.slice A672_0 ((rd_T62 l3 x56_1).f0).length c672_0, .int .i64 0, .bool false]) ?_ 1 _ rfl; (with_reducible repeat (first | refine blk_drewN ?_ _ | refine blk_drew ?_ | refine blk_alloc ?_ _)); refine blk_put (cs := #[.slice none 0 0, .int .i64 0, .bool false]) ?_ 0 _ rfl; (with_reducible repeat (first | refine blk_drewN ?_ _ | refine blk_drew ?_ | refine blk_alloc ?_ _)); exact BK673.out⟩, ⟨bse HB⟩⟩
          rw [if_neg c43] at H
          have c43b0 := decide_eq_false c43
          have c43b1 : decide (200 < ((rd_T62 l3 x56_1).f0).length) = false := decide_eq_false (by omega)
          clear c43
          (first | rw [c43b0] | (simp only [i64_w, i32_w]; rw [c43b0]) | skip)
          have H' := asd H
          clear H
          have hnb48 := NB673_627.out
          have hnc48 := NB627_673.out
          have hnb49 := NB673_628.out
          have hnc49 := NB628_673.out
          have hnb50 := NB673_647.out
          have hnc50 := NB647_673.out
          have hcz51 := ca3 BK673
          obtain ⟨Ao52, co52, eo52⟩ := Kd.R_slice HO_13.out
          subst eo52
          go_wp2_with (first | ((with_reducible refine gS rfl ?_); refine st14 ?_) | ((with_reducible refine gD rfl ?_); refine ldR ?_))
          go_meet
          case rel => exact ⟨_, (decide ((x13_1.length : Int) > 1)), au, H', ⟨by have := HK1.out; first | omega | exact Nat.le_refl _⟩, ⟨by (with_reducible repeat (first | apply Kd.R_alloc | apply Kd.R_drewN | apply Kd.R_drew)); exact Kd.R_mono (Kd.R_far (p := ⟨gb673, 2, none⟩) (Kd.R_far (p := ⟨gb673, 1, none⟩) (Kd.R_far (p := ⟨gb673, 0, none⟩) (Kd.R_types HO_13.out BK673.out (by decide)) (fun _ hk => hk.2) (.slice A672_0 ((rd_T62 l3 x56_1).f0).length c672_0)) (fun _ hk => hk.2) (.int .i64 ((rd_T62 l3 x56_1).f1))) (fun _ hk => hk.2) (.bool ((rd_T62 l3 x56_1).f2))) (fun _ hk => hk.1)⟩, ⟨by (with_reducible repeat (first | apply Kd.R_alloc | apply Kd.R_drewN | apply Kd.R_drew)); exact Kd.R_mono (Kd.R_far (p := ⟨gb673, 2, none⟩) (Kd.R_far (p := ⟨gb673, 1, none⟩) (Kd.R_far (p := ⟨gb673, 0, none⟩) (Kd.R_types HO_648011.out BK673.out (by decide)) (fun _ hk => hk.2) (.slice A672_0 ((rd_T62 l3 x56_1).f0).length c672_0)) (fun _ hk => hk.2) (.int .i64 ((rd_T62 l3 x56_1).f1))) (fun _ hk => hk.2) (.bool ((rd_T62 l3 x56_1).f2))) (fun _ hk => hk.1)⟩, ff NB627_673 BK627, ff NB628_673 BK628, ff NB647_673 BK647, ⟨by (with_reducible repeat (first | refine blk_drewN ?_ _ | refine blk_drew ?_ | refine blk_alloc ?_ _)); refine blk_put (cs := #[.slice A672_0 ((rd_T62 l3 x56_1).f0).length c672_0, .int .i64 ((rd_T62 l3 x56_1).f1), .bool false]) ?_ 2 _ rfl; (with_reducible repeat (first | refine blk_drewN ?_ _ | refine blk_drew ?_ | refine blk_alloc ?_ _)); refine blk_put (cs := #[.slice A672_0 ((rd_T62 l3 x56_1).f0).length c672_0, .int .i64 0, .bool false]) ?_ 1 _ rfl; (with_reducible repeat (first | refine blk_drewN ?_ _ | refine blk_drew ?_ | refine blk_alloc ?_ _)); refine blk_put (cs := #[.slice none 0 0, .int .i64 0, .bool false]) ?_ 0 _ rfl; (with_reducible repeat (first | refine blk_drewN ?_ _ | refine blk_drew ?_ | refine blk_alloc ?_ _)); exact BK673.out⟩, ⟨bse HB⟩⟩
         case rest =>
          clear HC37
          try clear c1
          try clear c2
          try clear p2
          try clear c3
          try clear c4
          try clear c5
          try clear c6
          try clear p6
          try clear q6
          try clear hx6
          try clear c7
          try clear c7b0
          try clear c7b1
          try clear c12
          try clear c12b0
          try clear c12b1
          try clear c13
          try clear c14
          try clear c14b0
          try clear c14b1
          try clear c15
          try clear c18
          try clear c19
          try clear c24
          try clear c25
          try clear c34
          try clear c34b0
          try clear c35
          try clear c35b0
          try clear c36
          try clear c36b0
          try clear c39
          try clear c40
          try clear c41
          try clear c43
          try clear c43b0
          try clear c43b1
          try clear c44
          try clear c45
          try clear c46
          try clear c48
          try clear c49
          try clear c50
          try clear hcz20
          try clear hcz21
          try clear hcz21
          try clear hcz21
          try clear hcz26
          try clear hcz28
          try clear hcz30
          try clear hcz42
          try clear hcz42
          try clear hcz42
          try clear hcz47
          try clear hcz47
          try clear hcz47
          try clear hcz51
          try clear hcz51
          try clear hcz51
          try clear hcz20
          try clear hcz21
          try clear hcz21
          try clear hcz21
          try clear hcz26
          try clear hcz28
          try clear hcz30
          try clear hcz42
          try clear hcz42
          try clear hcz42
          try clear hcz47
          try clear hcz47
          try clear hcz47
          try clear hcz51
          try clear hcz51
          try clear hcz51
          try clear hx672_0
          try clear hx672_1
          try clear hx672_2
          try clear p2
          try clear p672
          try clear q672
          obtain ⟨kq, x68_36, rfl, HA, HJ36, HO_13, HO_648011, BK627, BK628, BK647, BK673, HB⟩ := hcut
          cases kq with
          | zero => exact absurd HA.out (by simp [palletlaw13_NodeStays.j1])
          | succ kj36 =>
           have H := HA.out
           clear HA
           simp only [palletlaw13_NodeStays.j1] at H
           by_cases c53 : x68_36 = true
           ·subst c53
            rw [if_pos rfl] at H
            try rw [if_pos rfl] at H
            obtain rfl := Option.some.inj H
            obtain ⟨Ao54, co54, eo54⟩ := Kd.R_slice HO_13.out
            subst eo54
            go_wp2_with (first | ((with_reducible refine gS rfl ?_); refine st14 ?_) | ((with_reducible refine gD rfl ?_); refine ldR ?_))
            go_ret
            exact xo (bse HB)
           replace c53 := Bool.eq_false_iff.mpr c53
           subst c53
           rw [if_neg (show ¬ (false = true) by decide)] at H
           have HC55 := asd H
           clear H
           have hnb56 := NB647_627.out
           have hnc56 := NB627_647.out
           have hnb57 := NB647_628.out
           have hnc57 := NB628_647.out
           have hnb58 := NB647_673.out
           have hnc58 := NB673_647.out
           have hcz59 := cf14 BK647
           go_upto_if 79 with (first | ((with_reducible refine gate_dst (N := 17) rfl ?_); refine bG 17 #[.int .i64 0, .int .i64 0, .int .u64 0, .int .i64 0, .int .i64 0, .int .i64 0, .int .i64 0, .int .i64 0, .int .u16 0, .int .i64 0, .int .i64 0, .slice none 0 0, .bool false, .int .i64 0] 32 ?_; intro gb674 hg w60 BK674 hb; have GW674 := bz HB hg; have GE674 := bz HB hg; have NB627_674 := nl BK627 hg; have NB674_627 := nr BK627 hg; have NB628_674 := nl BK628 hg; have NB674_628 := nr BK628 hg; have NB647_674 := nl BK647 hg; have NB674_647 := nr BK647 hg; have NB673_674 := nl BK673 hg; have NB674_673 := nr BK673 hg; replace HO_13 := rb HO_13 hb; replace HO_648011 := rb HO_648011 hb; replace BK627 := bb BK627 hb; replace BK628 := bb BK628 hb; replace BK647 := bb BK647 hb; replace BK673 := bb BK673 hb; replace HB := bs HB hb; clear hb hg; have hnb61 := NB674_627.out; have hnc61 := NB627_674.out; have hnb62 := NB674_628.out; have hnc62 := NB628_674.out; have hnb63 := NB674_647.out; have hnc63 := NB647_674.out; have hnb64 := NB674_673.out; have hnc64 := NB673_674.out; have hcz65 := cf14 BK674; obtain ⟨Ao66, co66, eo66⟩ := Kd.R_slice HO_648011.out; subst eo66; have hnb67 := NB673_627.out; have hnc67 := NB627_673.out; have hnb68 := NB673_628.out; have hnc68 := NB628_673.out; have hcz69 := ca3 BK673) | ((with_reducible refine gS rfl ?_); refine st14 ?_) | ((with_reducible refine gD rfl ?_); refine ldR ?_))
           (try simp only [Act.put, List.setIfInBounds_toArray, List.set_cons_zero, List.set_cons_succ])
           go_cut [11, 12, 13, 14] (fun v11 v12 v13 v14 wc => ∃ (kq : Nat) (x11_54 : Int) (x12_54 : List (S66)) (x13_54 : List Int) (x14_54 x648000_54 x648001_54 x648002_54 x648003_54 x648004_54 x648005_54 x648006_54 x648007_54 x648008_54 x648009_54 x648010_54 : Int) (x648011_54 : List Int) (x648012_54 : Bool) (x648013_54 : Int) (u648011 : Value), v11 = .int .i64 x11_54 ∧ v14 = .int .i64 x14_54 ∧ Aside0 (palletlaw13_NodeStays.j2 kq true x11_54 x12_54 x13_54 x14_54 l3 (l3.length : Int) x56_1 a0_0 a0_1 a0_2 a0_3 a0_4 x648000_54 x648001_54 x648002_54 x648003_54 x648004_54 x648005_54 x648006_54 x648007_54 x648008_54 x648009_54 x648010_54 x648011_54 x648012_54 x648013_54 x648000_1 x648001_1 x648002_1 x648003_1 x648004_1 x648005_1 x648006_1 x648007_1 x648008_1 x648009_1 x648010_1 x648011_1 x648012_1 x648013_1 = some r) ∧ Aside0 (kq ≤ kj36) ∧ Aside0 (Kd.R k66 66 wc w.heap.size (fun _ => True) v12 x12_54) ∧ Aside0 (Kd.R (Kd.int .i64) 2 wc w.heap.size (fun k_ => some k_ ≠ (u648011 : Value).ownBlock ∧ some k_ ≠ ((.slice Ao66 x648011_1.length co66) : Value).ownBlock) v13 x13_54) ∧ Aside0 (Kd.R (Kd.int .i64) 2 wc w.heap.size (fun k_ => some k_ ≠ (v13 : Value).ownBlock) u648011 x648011_54) ∧ Aside0 (Kd.R (Kd.int .i64) 2 wc w.heap.size (fun k_ => some k_ ≠ (v13 : Value).ownBlock) (.slice Ao66 x648011_1.length co66) x648011_1) ∧ Aside0 (wc.heap[gb627]? = some (.cells #[.int .i64 a0_0, .int .i64 a0_1, .int .i64 a0_2, .int .i64 a0_3, .int .i64 a0_4] 23 (0, 0))) ∧ Aside0 (wc.heap[gb628]? = some (.cells #[.int .i64 a2_0, .int .i64 a2_1, .int .i64 a2_2] 26 (0, 0))) ∧ Aside0 (wc.heap[gb647]? = some (.cells #[.int .i64 x648000_54, .int .i64 x648001_54, .int .u64 x648002_54, .int .i64 x648003_54, .int .i64 x648004_54, .int .i64 x648005_54, .int .i64 x648006_54, .int .i64 x648007_54, .int .u16 x648008_54, .int .i64 x648009_54, .int .i64 x648010_54, u648011, .bool x648012_54, .int .i64 x648013_54] 32 (0, 0))) ∧ Aside0 (wc.heap[gb673]? = some (.cells #[(.slice A672_0 ((rd_T62 l3 x56_1).f0).length c672_0), .int .i64 ((rd_T62 l3 x56_1).f1), .bool ((rd_T62 l3 x56_1).f2)] 62 (0, 0))) ∧ Aside0 (wc.heap[gb674]? = some (.cells #[.int .i64 x648000_1, .int .i64 x648001_1, .int .u64 x648002_1, .int .i64 x648003_1, .int .i64 x648004_1, .int .i64 x648005_1, .int .i64 x648006_1, .int .i64 x648007_1, .int .u16 x648008_1, .int .i64 x648009_1, .int .i64 x648010_1, (.slice Ao66 x648011_1.length co66), .bool x648012_1, .int .i64 x648013_1] 32 (0, 0))) ∧ Aside0 (Below w.heap.size w wc))
           case first =>
            have H := HC55.out
            clear HC55
            by_cases c70 : (((rd_T62 l3 x56_1).f0).length : Int) = 0
            ·rw [if_pos c70] at H
             have c70b0 := beq_iff_eq.mpr c70
             have c70b1 := bne_eq_false_iff_eq.mpr c70
             clear c70
             (first | rw [c70b0] | (simp only [i64_w, i32_w]; rw [c70b0]) | skip)
             by_cases c71 : (x13_1.length : Int) = 0
             ·rw [if_pos c71] at H
              have c71b0 := beq_iff_eq.mpr c71
              have c71b1 := bne_eq_false_iff_eq.mpr c71
              clear c71
              try rw [if_pos rfl] at H
              obtain rfl := Option.some.inj H
              obtain ⟨Ao72, co72, eo72⟩ := Kd.R_slice HO_13.out
              subst eo72
              have hnb73 := NB647_627.out
              have hnc73 := NB627_647.out
              have hnb74 := NB647_628.out
              have hnc74 := NB628_647.out
              have hnb75 := NB647_673.out
              have hnc75 := NB673_647.out
              have hnb76 := NB647_674.out
              have hnc76 := NB674_647.out
              have hcz77 := cf14 BK647
              go_wp2_with (first | ((with_reducible refine gS rfl ?_); refine st14 ?_) | ((with_reducible refine gD rfl ?_); refine ldR ?_))
              go_ret
              exact xo (bse HB)
             rw [if_neg c71] at H
             have c71b0 := beq_eq_false_iff_ne.mpr c71
             have c71b1 := bne_iff_ne.mpr c71
             have c71b2 : ¬ (x13_1 = []) := fun h_ => c71 (by rw [h_]; rfl)
             by_cases c78 : 0 < (x13_1.length : Int)
             ·rw [if_pos c78] at H
              have c78b0 := decide_eq_true c78
              (try (have c78h0_hl672_0 := c78b0; rw [hl672_0] at c78h0_hl672_0))
              have c78b1 : decide (0 < x13_1.length) = true := decide_eq_true (by omega)
              clear c78
              obtain ⟨⟨t676, t677, t678, t679, t680, t681, t682, t683, t684, t685, t686, t687, t690, t691, t692, t695⟩, A79, H⟩ := bio H
              try dsimp only at H
              have H' := asd H
              clear H
              obtain ⟨Ao80, co80, eo80⟩ := Kd.R_slice HO_13.out
              subst eo80
              have p675 : 0 ≤ (0 : Int) := (by omega)
              have q675 : 0 < (x13_1.length : Int) := of_decide_eq_true (by first | (with_reducible assumption) | assumption)
              obtain ⟨ad675, e675, hx675_0⟩ := Kd.at_int (Kd.R_reads' HO_13.out).2.2 0 p675 q675
              cases e675
              have qi675 : (0 < x13_1.length) = True := eq_true (by omega)
              (try rw [show ((0 : Int)).toNat = 0 from rfl] at hx675_0)
              (try rw [Addr.add_zero'] at hx675_0)
              have hn675_0 : ad675.block ≠ gb674 := Kd.own_blk (Kd.R_ne HO_13.out BK674.out (by decide))
              have hn675_1 : ad675.block ≠ gb674 := Kd.own_blk (Kd.R_ne HO_13.out BK674.out (by decide))
              have hn675_2 : ad675.block ≠ gb674 := Kd.own_blk (Kd.R_ne HO_13.out BK674.out (by decide))
              have hn675_3 : ad675.block ≠ gb674 := Kd.own_blk (Kd.R_ne HO_13.out BK674.out (by decide))
              have hn675_4 : ad675.block ≠ gb674 := Kd.own_blk (Kd.R_ne HO_13.out BK674.out (by decide))
              have hn675_5 : ad675.block ≠ gb674 := Kd.own_blk (Kd.R_ne HO_13.out BK674.out (by decide))
              have hn675_6 : ad675.block ≠ gb674 := Kd.own_blk (Kd.R_ne HO_13.out BK674.out (by decide))
              have hn675_7 : ad675.block ≠ gb674 := Kd.own_blk (Kd.R_ne HO_13.out BK674.out (by decide))
              have hn675_8 : ad675.block ≠ gb674 := Kd.own_blk (Kd.R_ne HO_13.out BK674.out (by decide))
              have hn675_9 : ad675.block ≠ gb674 := Kd.own_blk (Kd.R_ne HO_13.out BK674.out (by decide))
              have hn675_10 : ad675.block ≠ gb674 := Kd.own_blk (Kd.R_ne HO_13.out BK674.out (by decide))
              have hn675_11 : ad675.block ≠ gb674 := Kd.own_blk (Kd.R_ne HO_13.out BK674.out (by decide))
              have hn675_12 : ad675.block ≠ gb674 := Kd.own_blk (Kd.R_ne HO_13.out BK674.out (by decide))
              have hn675_13 : ad675.block ≠ gb674 := Kd.own_blk (Kd.R_ne HO_13.out BK674.out (by decide))
              have q_ := fun w_ => (((((((((((((((Wq.refl gb674 w_).set 0 (.int .i64 x648000_1)).set 1 (.int .i64 x648001_1)).set 2 (.int .u64 x648002_1)).set 3 (.int .i64 x648003_1)).set 4 (.int .i64 x648004_1)).set 5 (.int .i64 x648005_1)).set 6 (.int .i64 x648006_1)).set 7 (.int .i64 x648007_1)).set 8 (.int .u16 x648008_1)).set 9 (.int .i64 x648009_1)).set 10 (.int .i64 x648010_1)).set 11 (.slice Ao66 x648011_1.length co66)).set 12 (.bool x648012_1)).set 13 (.int .i64 x648013_1))
              replace hx675_0 := cq hx675_0 (q_ _) (by first | (rw [add_block]; exact hn675_0) | (show (Addr.add _ _).block ≠ _; rw [add_block]; exact hn675_0) | exact hn675_0)
              clear q_
              clear hn675_0
              clear hn675_1
              clear hn675_2
              clear hn675_3
              clear hn675_4
              clear hn675_5
              clear hn675_6
              clear hn675_7
              clear hn675_8
              clear hn675_9
              clear hn675_10
              clear hn675_11
              clear hn675_12
              clear hn675_13
              replace p675 := eq_true p675
              replace q675 := eq_true q675
              have hnb81 := NB627_628.out
              have hnc81 := NB628_627.out
              have hnb82 := NB627_647.out
              have hnc82 := NB647_627.out
              have hnb83 := NB627_673.out
              have hnc83 := NB673_627.out
              have hnb84 := NB627_674.out
              have hnc84 := NB674_627.out
              have hcz85 := cf5 BK627
              have hnb86 := NB647_628.out
              have hnc86 := NB628_647.out
              have hnb87 := NB647_673.out
              have hnc87 := NB673_647.out
              have hnb88 := NB647_674.out
              have hnc88 := NB674_647.out
              have hcz89 := cf14 BK647
              go_wp2_with (first | ((with_reducible refine gate_callee (f := 23) rfl ?_); refine gC (some 96) Tryz.func23 (node_Timer.calls kj36 a0_0 a0_1 a0_2 a0_3 a0_4 x648000_1 x648001_1 x648002_1 x648003_1 x648004_1 x648005_1 x648006_1 x648007_1 x648008_1 x648009_1 x648010_1 Ao66 co66 x648011_1 x648012_1 x648013_1 (rd x13_1 0) t676 t677 t678 t679 t680 t681 t682 t683 t684 t685 t686 t687 t690 t691 t692 t695 _ ?side1 ?side2 A79.out) ?_; (case side1 => refine (Kd.R_reads' (e := 2) (base := w.heap.size) (ok := fun k_ => some k_ ≠ (.slice (some ad675) x13_1.length co80 : Value).ownBlock) (n := x648011_1.length) (c := co66) ?_).2.2; exact (rf HO_648011 BK674 (by decide) (fun _ hk => hk)).out); (case side2 => exact (Kd.R_reads' HO_648011.out).2.1); rintro e w90 ⟨v688, v693, rfl, ho0, ho1, hb⟩; refine ⟨_, rfl, ?_⟩; have HO689 := asd (Kd.R_lower (Kd.R_new' (Kd.R_new' ho0 (Kd.R_lt (rf HO_13 BK674 (by decide) (fun _ hk => hk)).out)) (Kd.R_lt (rf HO_648011 BK674 (by decide) (fun _ hk => hk)).out)) (below_size (bse HB))); have HO694 := rl ho1 HB; replace HO_13 := asd (Kd.R_elder' (rf HO_13 BK674 (by decide) (fun _ hk => hk)).out (Kd.R_base ho0) hb); replace HO_648011 := asd (Kd.R_elder' (rf HO_648011 BK674 (by decide) (fun _ hk => hk)).out (Kd.R_base ho0) hb); replace BK627 := fq NB627_674 BK627 hb; replace BK628 := fq NB628_674 BK628 hb; replace BK647 := fq NB647_674 BK647 hb; replace BK673 := fq NB673_674 BK673 hb; replace BK674 := asd (blk_below (bp14 BK674).out hb); replace HB := bs HB hb; (try clear hb); (try clear hk); (try clear ho0); (try clear ho1); have hcz91 := cf14 BK647; obtain ⟨Ao92, co92, eo92⟩ := Kd.R_slice HO689.out; subst eo92) | ((with_reducible refine gS rfl ?_); refine st14 ?_) | ((with_reducible refine gD rfl ?_); refine ldR ?_))
              go_meet
              case rel => exact ⟨_, (t695), (t692), (([] : List Int)), (rd x13_1 0), (t676), (t677), (t678), (t679), (t680), (t681), (t682), (t683), (t684), (t685), (t686), (t687), (t690), (t691), (.slice Ao92 t687.length co92), au, au, H', ⟨by have := HK1.out; have := HJ36.out; first | omega | exact Nat.le_refl _⟩, rf HO694 BK647 (by decide) (fun _ hk => trivial), ⟨by first | exact Kd.R_nil _ _ _ _ _ | exact Kd.N_nil _ _ _ _ _ | exact Kd.V_nil _ _ _ _ _ | exact Kd.Q_nil _ _ _ _ _ | exact Kd.S_nil _ _ _ _ _⟩, ⟨by (with_reducible repeat (first | apply Kd.R_alloc | apply Kd.R_drewN | apply Kd.R_drew)); exact Kd.R_mono (Kd.R_far (p := ⟨gb647, 13, none⟩) (Kd.R_far (p := ⟨gb647, 12, none⟩) (Kd.R_far (p := ⟨gb647, 11, none⟩) (Kd.R_far (p := ⟨gb647, 10, none⟩) (Kd.R_far (p := ⟨gb647, 9, none⟩) (Kd.R_far (p := ⟨gb647, 8, none⟩) (Kd.R_far (p := ⟨gb647, 7, none⟩) (Kd.R_far (p := ⟨gb647, 6, none⟩) (Kd.R_far (p := ⟨gb647, 5, none⟩) (Kd.R_far (p := ⟨gb647, 4, none⟩) (Kd.R_far (p := ⟨gb647, 3, none⟩) (Kd.R_far (p := ⟨gb647, 2, none⟩) (Kd.R_far (p := ⟨gb647, 1, none⟩) (Kd.R_far (p := ⟨gb647, 0, none⟩) (Kd.R_types HO689.out BK647.out (by decide)) (fun _ hk => hk.2) (.int .i64 t676)) (fun _ hk => hk.2) (.int .i64 t677)) (fun _ hk => hk.2) (.int .u64 t678)) (fun _ hk => hk.2) (.int .i64 t679)) (fun _ hk => hk.2) (.int .i64 t680)) (fun _ hk => hk.2) (.int .i64 t681)) (fun _ hk => hk.2) (.int .i64 t682)) (fun _ hk => hk.2) (.int .i64 t683)) (fun _ hk => hk.2) (.int .u16 t684)) (fun _ hk => hk.2) (.int .i64 t685)) (fun _ hk => hk.2) (.int .i64 t686)) (fun _ hk => hk.2) (.slice Ao92 t687.length co92)) (fun _ hk => hk.2) (.bool t690)) (fun _ hk => hk.2) (.int .i64 t691)) (fun _ hk => (by simp [Value.ownBlock]))⟩, ⟨by (with_reducible repeat (first | apply Kd.R_alloc | apply Kd.R_drewN | apply Kd.R_drew)); exact Kd.R_mono (Kd.R_far (p := ⟨gb647, 13, none⟩) (Kd.R_far (p := ⟨gb647, 12, none⟩) (Kd.R_far (p := ⟨gb647, 11, none⟩) (Kd.R_far (p := ⟨gb647, 10, none⟩) (Kd.R_far (p := ⟨gb647, 9, none⟩) (Kd.R_far (p := ⟨gb647, 8, none⟩) (Kd.R_far (p := ⟨gb647, 7, none⟩) (Kd.R_far (p := ⟨gb647, 6, none⟩) (Kd.R_far (p := ⟨gb647, 5, none⟩) (Kd.R_far (p := ⟨gb647, 4, none⟩) (Kd.R_far (p := ⟨gb647, 3, none⟩) (Kd.R_far (p := ⟨gb647, 2, none⟩) (Kd.R_far (p := ⟨gb647, 1, none⟩) (Kd.R_far (p := ⟨gb647, 0, none⟩) (Kd.R_types HO_648011.out BK647.out (by decide)) (fun _ hk => hk.2) (.int .i64 t676)) (fun _ hk => hk.2) (.int .i64 t677)) (fun _ hk => hk.2) (.int .u64 t678)) (fun _ hk => hk.2) (.int .i64 t679)) (fun _ hk => hk.2) (.int .i64 t680)) (fun _ hk => hk.2) (.int .i64 t681)) (fun _ hk => hk.2) (.int .i64 t682)) (fun _ hk => hk.2) (.int .i64 t683)) (fun _ hk => hk.2) (.int .u16 t684)) (fun _ hk => hk.2) (.int .i64 t685)) (fun _ hk => hk.2) (.int .i64 t686)) (fun _ hk => hk.2) (.slice Ao92 t687.length co92)) (fun _ hk => hk.2) (.bool t690)) (fun _ hk => hk.2) (.int .i64 t691)) (fun _ hk => (by simp [Value.ownBlock]))⟩, ff NB627_647 BK627, ff NB628_647 BK628, bp14 BK647, ff NB673_647 BK673, ff NB674_647 BK674, ⟨bse HB⟩⟩
             rw [if_neg c78] at H
             exact absurd H (by simp)
            rw [if_neg c70] at H
            have c70b0 := beq_eq_false_iff_ne.mpr c70
            have c70b1 := bne_iff_ne.mpr c70
            have c70b2 : ¬ (((rd_T62 l3 x56_1).f0) = []) := fun h_ => c70 (by rw [h_]; rfl)
            (first | rw [c70b0] | (simp only [i64_w, i32_w]; rw [c70b0]) | skip)
            obtain ⟨⟨t696, t697, t698, t699, t700, t701, t702, t703, t704, t705, t706, t707, t710, t711, t712, t715⟩, A93, H⟩ := bio H
            try dsimp only at H
            have H' := asd H
            clear H
            have hnb94 := NB627_628.out
            have hnc94 := NB628_627.out
            have hnb95 := NB627_647.out
            have hnc95 := NB647_627.out
            have hnb96 := NB627_673.out
            have hnc96 := NB673_627.out
            have hnb97 := NB627_674.out
            have hnc97 := NB674_627.out
            have hcz98 := cf5 BK627
            have hnb99 := NB647_628.out
            have hnc99 := NB628_647.out
            have hnb100 := NB647_673.out
            have hnc100 := NB673_647.out
            have hnb101 := NB647_674.out
            have hnc101 := NB674_647.out
            have hcz102 := cf14 BK647
            have hnb103 := NB673_628.out
            have hnc103 := NB628_673.out
            have hnb104 := NB673_674.out
            have hnc104 := NB674_673.out
            have hcz105 := ca3 BK673
            go_wp2_with (first | ((with_reducible refine gate_callee (f := 10) rfl ?_); refine gC (some 115) Tryz.func10 (node_Hear.calls kj36 a0_0 a0_1 a0_2 a0_3 a0_4 x648000_1 x648001_1 x648002_1 x648003_1 x648004_1 x648005_1 x648006_1 x648007_1 x648008_1 x648009_1 x648010_1 Ao66 co66 x648011_1 x648012_1 x648013_1 x14_1 (wrap64 (x14_1 - (Int.tmod (wrap64 ((Int.tmod ((rd_T62 l3 x56_1).f1) 1048576) + 1048576)) 1048576))) A672_0 c672_0 ((rd_T62 l3 x56_1).f0) ((rd_T62 l3 x56_1).f2) t696 t697 t698 t699 t700 t701 t702 t703 t704 t705 t706 t707 t710 t711 t712 t715 _ ?side1 ?side2 ?side3 ?side4 A93.out) ?_; (case side1 => refine (Kd.R_reads' (e := 2) (base := w.heap.size) (ok := fun k_ => some k_ ≠ (u13 : Value).ownBlock) (n := x648011_1.length) (c := co66) ?_).2.2; exact (rf HO_648011 BK674 (by decide) (fun _ hk => hk)).out); (case side2 => exact (Kd.R_reads' HO_648011.out).2.1); (case side3 => exact cb HR672_0 HB); (case side4 => exact HC672_0.out); rintro e w106 ⟨v708, v713, rfl, ho0, ho1, hb⟩; refine ⟨_, rfl, ?_⟩; have HO709 := asd (Kd.R_lower (Kd.R_new' (Kd.R_new' ho0 (Kd.R_lt (rf HO_13 BK674 (by decide) (fun _ hk => hk)).out)) (Kd.R_lt (rf HO_648011 BK674 (by decide) (fun _ hk => hk)).out)) (below_size (bse HB))); have HO714 := rl ho1 HB; replace HO_13 := asd (Kd.R_elder' (rf HO_13 BK674 (by decide) (fun _ hk => hk)).out (Kd.R_base ho0) hb); replace HO_648011 := asd (Kd.R_elder' (rf HO_648011 BK674 (by decide) (fun _ hk => hk)).out (Kd.R_base ho0) hb); replace BK627 := fq NB627_674 BK627 hb; replace BK628 := fq NB628_674 BK628 hb; replace BK647 := fq NB647_674 BK647 hb; replace BK673 := fq NB673_674 BK673 hb; replace BK674 := asd (blk_below (bp14 BK674).out hb); replace HB := bs HB hb; (try clear hb); (try clear hk); (try clear ho0); (try clear ho1); have hcz107 := cf14 BK647; obtain ⟨Ao108, co108, eo108⟩ := Kd.R_slice HO709.out; subst eo108) | ((with_reducible refine gS rfl ?_); refine st14 ?_) | ((with_reducible refine gD rfl ?_); refine ldR ?_))
            go_meet
            case rel => exact ⟨_, (t715), (t712), (x13_1), (x14_1), (t696), (t697), (t698), (t699), (t700), (t701), (t702), (t703), (t704), (t705), (t706), (t707), (t710), (t711), (.slice Ao108 t707.length co108), au, au, H', ⟨by have := HK1.out; have := HJ36.out; first | omega | exact Nat.le_refl _⟩, rf HO714 BK647 (by decide) (fun _ hk => trivial), ⟨by (with_reducible repeat (first | apply Kd.R_alloc | apply Kd.R_drewN | apply Kd.R_drew)); exact Kd.R_mono (Kd.R_far (p := ⟨gb647, 13, none⟩) (Kd.R_far (p := ⟨gb647, 12, none⟩) (Kd.R_far (p := ⟨gb647, 11, none⟩) (Kd.R_far (p := ⟨gb647, 10, none⟩) (Kd.R_far (p := ⟨gb647, 9, none⟩) (Kd.R_far (p := ⟨gb647, 8, none⟩) (Kd.R_far (p := ⟨gb647, 7, none⟩) (Kd.R_far (p := ⟨gb647, 6, none⟩) (Kd.R_far (p := ⟨gb647, 5, none⟩) (Kd.R_far (p := ⟨gb647, 4, none⟩) (Kd.R_far (p := ⟨gb647, 3, none⟩) (Kd.R_far (p := ⟨gb647, 2, none⟩) (Kd.R_far (p := ⟨gb647, 1, none⟩) (Kd.R_far (p := ⟨gb647, 0, none⟩) (Kd.R_types HO_13.out BK647.out (by decide)) (fun _ hk => hk.2) (.int .i64 t696)) (fun _ hk => hk.2) (.int .i64 t697)) (fun _ hk => hk.2) (.int .u64 t698)) (fun _ hk => hk.2) (.int .i64 t699)) (fun _ hk => hk.2) (.int .i64 t700)) (fun _ hk => hk.2) (.int .i64 t701)) (fun _ hk => hk.2) (.int .i64 t702)) (fun _ hk => hk.2) (.int .i64 t703)) (fun _ hk => hk.2) (.int .u16 t704)) (fun _ hk => hk.2) (.int .i64 t705)) (fun _ hk => hk.2) (.int .i64 t706)) (fun _ hk => hk.2) (.slice Ao108 t707.length co108)) (fun _ hk => hk.2) (.bool t710)) (fun _ hk => hk.2) (.int .i64 t711)) (fun _ hk => ⟨hk.1.2, hk.1.1⟩)⟩, rf HO709 BK647 (by decide) (fun _ hk => hk.1.2), rf HO_648011 BK647 (by decide) (fun _ hk => hk.1), ff NB627_647 BK627, ff NB628_647 BK628, bp14 BK647, ff NB673_647 BK673, ff NB674_647 BK674, ⟨bse HB⟩⟩
           case rest =>
            clear HC55
            try clear c1
            try clear c2
            try clear p2
            try clear c3
            try clear c4
            try clear c5
            try clear c6
            try clear p6
            try clear q6
            try clear hx6
            try clear qi6
            try clear c7
            try clear c7b0
            try clear c7b1
            try clear c8
            try clear c9
            try clear c10
            try clear c12
            try clear c12b0
            try clear c12b1
            try clear c13
            try clear c14
            try clear c14b0
            try clear c14b1
            try clear c15
            try clear c18
            try clear c19
            try clear c23
            try clear c24
            try clear c25
            try clear c34
            try clear c34b0
            try clear c35
            try clear c35b0
            try clear c36
            try clear c36b0
            try clear c39
            try clear c40
            try clear c41
            try clear c43
            try clear c43b0
            try clear c43b1
            try clear c44
            try clear c45
            try clear c46
            try clear c48
            try clear c49
            try clear c50
            try clear c53
            try clear c56
            try clear c57
            try clear c58
            try clear c61
            try clear c62
            try clear c63
            try clear c64
            try clear p64
            try clear c67
            try clear p67
            try clear q67
            try clear hx67
            try clear qi67
            try clear c68
            try clear c70
            try clear c70b0
            try clear c70b1
            try clear c70b2
            try clear c71
            try clear c71b0
            try clear c71b1
            try clear c71b2
            try clear c73
            try clear c74
            try clear c75
            try clear c76
            try clear c78
            try clear c78b0
            try clear c78b1
            try clear c81
            try clear c82
            try clear c83
            try clear c84
            try clear c86
            try clear c87
            try clear c88
            try clear c94
            try clear c95
            try clear c96
            try clear c97
            try clear c99
            try clear c100
            try clear c101
            try clear c103
            try clear c104
            try clear hcz102
            try clear hcz105
            try clear hcz105
            try clear hcz105
            try clear hcz107
            try clear hcz20
            try clear hcz21
            try clear hcz21
            try clear hcz21
            try clear hcz26
            try clear hcz28
            try clear hcz30
            try clear hcz42
            try clear hcz42
            try clear hcz42
            try clear hcz47
            try clear hcz47
            try clear hcz47
            try clear hcz51
            try clear hcz51
            try clear hcz51
            try clear hcz59
            try clear hcz65
            try clear hcz69
            try clear hcz69
            try clear hcz69
            try clear hcz77
            try clear hcz85
            try clear hcz89
            try clear hcz91
            try clear hcz98
            try clear hcz102
            try clear hcz105
            try clear hcz105
            try clear hcz105
            try clear hcz107
            try clear hcz20
            try clear hcz21
            try clear hcz21
            try clear hcz21
            try clear hcz26
            try clear hcz28
            try clear hcz30
            try clear hcz42
            try clear hcz42
            try clear hcz42
            try clear hcz47
            try clear hcz47
            try clear hcz47
            try clear hcz51
            try clear hcz51
            try clear hcz51
            try clear hcz59
            try clear hcz65
            try clear hcz69
            try clear hcz69
            try clear hcz69
            try clear hcz77
            try clear hcz85
            try clear hcz89
            try clear hcz91
            try clear hcz98
            try clear hx672_0
            try clear hx672_1
            try clear hx672_2
            try clear hx675_0
            try clear p2
            try clear p6
            try clear p672
            try clear p675
            try clear q6
            try clear q672
            try clear q675
            obtain ⟨kq, x11_54, x12_54, x13_54, x14_54, x648000_54, x648001_54, x648002_54, x648003_54, x648004_54, x648005_54, x648006_54, x648007_54, x648008_54, x648009_54, x648010_54, x648011_54, x648012_54, x648013_54, u648011, rfl, rfl, HA, HJ54, HO_12, HO_13, HO_648011, HO_675011, BK627, BK628, BK647, BK673, BK674, HB⟩ := hcut
            cases kq with
            | zero => exact absurd HA.out (by simp [palletlaw13_NodeStays.j2])
            | succ kj54 =>
             have H := HA.out
             clear HA
             simp only [palletlaw13_NodeStays.j2] at H
             by_cases c109 : x11_54 = 0
             ·rw [if_pos c109] at H
              have c109b0 := beq_iff_eq.mpr c109
              have c109b1 := bne_eq_false_iff_eq.mpr c109
              clear c109
              obtain ⟨t717, A110, H⟩ := bio H
              by_cases c111 : t717 = 0
              ·rw [if_pos c111] at H
               have c111b0 := beq_iff_eq.mpr c111
               have c111b1 := bne_eq_false_iff_eq.mpr c111
               clear c111
               obtain ⟨t718, A112, H⟩ := bio H
               have H' := asd H
               clear H
               have hnb113 := NB627_628.out
               have hnc113 := NB628_627.out
               have hnb114 := NB627_647.out
               have hnc114 := NB647_627.out
               have hnb115 := NB627_673.out
               have hnc115 := NB673_627.out
               have hnb116 := NB627_674.out
               have hnc116 := NB674_627.out
               have hcz117 := cf5 BK627
               have hnb118 := NB647_628.out
               have hnc118 := NB628_647.out
               have hnb119 := NB647_673.out
               have hnc119 := NB673_647.out
               have hnb120 := NB647_674.out
               have hnc120 := NB674_647.out
               have hcz121 := cf14 BK647
               obtain ⟨Ao122, co122, eo122⟩ := Kd.R_slice HO_648011.out
               subst eo122
               go_upto_region 32 with (first | ((with_reducible refine gate_callee (f := 9) rfl ?_); refine gC (some 129) Tryz.func9 (node_Check.calls kj54 a0_0 a0_1 a0_2 a0_3 a0_4 x648000_54 x648001_54 x648002_54 x648003_54 x648004_54 x648005_54 x648006_54 x648007_54 x648008_54 x648009_54 x648010_54 Ao122 co122 x648011_54 x648012_54 x648013_54 t717 _ ?side1 ?side2 A110.out) ?_; (case side1 => exact cr (Kd.R_reads' HO_648011.out).2.2); (case side2 => exact (Kd.R_reads' HO_648011.out).2.1); rintro e w123 ⟨rfl, hb⟩; refine ⟨_, rfl, ?_⟩; replace HO_12 := rb HO_12 hb; replace HO_13 := rb HO_13 hb; replace HO_648011 := rb HO_648011 hb; replace HO_675011 := rb HO_675011 hb; replace BK627 := bb BK627 hb; replace BK628 := bb BK628 hb; replace BK647 := bb BK647 hb; replace BK673 := bb BK673 hb; replace BK674 := bb BK674 hb; replace HB := bs HB hb; (try clear hb); obtain ⟨Ao124, co124, eo124⟩ := Kd.R_slice HO_12.out; subst eo124) | ((with_reducible refine gate_callee (f := 18) rfl ?_); refine gC (some 132) Tryz.func18 (palletlaw13_timers.calls kj54 Ao124 co124 x12_54 t718 _ ?side1 ?side2 A112.out) ?_; (case side1 => exact cr (Kd.R_reads' HO_12.out).2.2); (case side2 => exact (Kd.R_reads' HO_12.out).2.1); rintro e w125 ⟨v719, rfl, ho0, hb⟩; refine ⟨_, rfl, ?_⟩; have HO720 := asd (Kd.R_lower (Kd.R_new' (Kd.R_new' (Kd.R_new' ho0 (Kd.R_lt (re HO_13).out)) (Kd.R_lt (re HO_648011).out)) (Kd.R_lt (re HO_675011).out)) (below_size (bse HB))); replace HO_12 := rb HO_12 hb; replace HO_13 := asd (Kd.R_elder' (re HO_13).out (Kd.R_base ho0) hb); replace HO_648011 := asd (Kd.R_elder' (re HO_648011).out (Kd.R_base ho0) hb); replace HO_675011 := asd (Kd.R_elder' (re HO_675011).out (Kd.R_base ho0) hb); replace BK627 := bb BK627 hb; replace BK628 := bb BK628 hb; replace BK647 := bb BK647 hb; replace BK673 := bb BK673 hb; replace BK674 := bb BK674 hb; replace HB := bs HB hb; (try clear hb); (try clear ho0); obtain ⟨Ao126, co126, eo126⟩ := Kd.R_slice HO720.out; subst eo126) | ((with_reducible refine gS rfl ?_); refine st14 ?_) | ((with_reducible refine gD rfl ?_); refine ldR ?_))
               go_loopg [13, 134] kj54 (fun kq v13 v134 w' => ∃ (x13_4 : List Int) (x134_4 : Int), v134 = .int .i64 x134_4 ∧ Aside0 (palletlaw13_NodeStays.l1 kq true x12_54 x13_4 x14_54 l3 (l3.length : Int) x56_1 t718 (t718.length : Int) x134_4 a0_0 a0_1 a0_2 a0_3 a0_4 x648000_54 x648001_54 x648002_54 x648003_54 x648004_54 x648005_54 x648006_54 x648007_54 x648008_54 x648009_54 x648010_54 x648011_54 x648012_54 x648013_54 x648000_1 x648001_1 x648002_1 x648003_1 x648004_1 x648005_1 x648006_1 x648007_1 x648008_1 x648009_1 x648010_1 x648011_1 x648012_1 x648013_1 = some r) ∧ Aside0 (kq ≤ kj54) ∧ Aside0 (Kd.R k66 66 w' w.heap.size (fun _ => True) (.slice Ao124 x12_54.length co124) x12_54) ∧ Aside0 (Kd.R (Kd.int .i64) 2 w' w.heap.size (fun k_ => some k_ ≠ ((.slice Ao126 t718.length co126) : Value).ownBlock ∧ some k_ ≠ ((.slice Ao122 x648011_54.length co122) : Value).ownBlock ∧ some k_ ≠ ((.slice Ao66 x648011_1.length co66) : Value).ownBlock) v13 x13_4) ∧ Aside0 (Kd.R (Kd.int .i64) 2 w' w.heap.size (fun k_ => some k_ ≠ (v13 : Value).ownBlock ∧ some k_ ≠ ((.slice Ao122 x648011_54.length co122) : Value).ownBlock ∧ some k_ ≠ ((.slice Ao66 x648011_1.length co66) : Value).ownBlock) (.slice Ao126 t718.length co126) t718) ∧ Aside0 (Kd.R (Kd.int .i64) 2 w' w.heap.size (fun k_ => some k_ ≠ (v13 : Value).ownBlock ∧ some k_ ≠ ((.slice Ao126 t718.length co126) : Value).ownBlock) (.slice Ao122 x648011_54.length co122) x648011_54) ∧ Aside0 (Kd.R (Kd.int .i64) 2 w' w.heap.size (fun k_ => some k_ ≠ (v13 : Value).ownBlock ∧ some k_ ≠ ((.slice Ao126 t718.length co126) : Value).ownBlock) (.slice Ao66 x648011_1.length co66) x648011_1) ∧ Aside0 (w'.heap[gb627]? = some (.cells #[.int .i64 a0_0, .int .i64 a0_1, .int .i64 a0_2, .int .i64 a0_3, .int .i64 a0_4] 23 (0, 0))) ∧ Aside0 (w'.heap[gb628]? = some (.cells #[.int .i64 a2_0, .int .i64 a2_1, .int .i64 a2_2] 26 (0, 0))) ∧ Aside0 (w'.heap[gb647]? = some (.cells #[.int .i64 x648000_54, .int .i64 x648001_54, .int .u64 x648002_54, .int .i64 x648003_54, .int .i64 x648004_54, .int .i64 x648005_54, .int .i64 x648006_54, .int .i64 x648007_54, .int .u16 x648008_54, .int .i64 x648009_54, .int .i64 x648010_54, (.slice Ao122 x648011_54.length co122), .bool x648012_54, .int .i64 x648013_54] 32 (0, 0))) ∧ Aside0 (w'.heap[gb673]? = some (.cells #[(.slice A672_0 ((rd_T62 l3 x56_1).f0).length c672_0), .int .i64 ((rd_T62 l3 x56_1).f1), .bool ((rd_T62 l3 x56_1).f2)] 62 (0, 0))) ∧ Aside0 (w'.heap[gb674]? = some (.cells #[.int .i64 x648000_1, .int .i64 x648001_1, .int .u64 x648002_1, .int .i64 x648003_1, .int .i64 x648004_1, .int .i64 x648005_1, .int .i64 x648006_1, .int .i64 x648007_1, .int .u16 x648008_1, .int .i64 x648009_1, .int .i64 x648010_1, (.slice Ao66 x648011_1.length co66), .bool x648012_1, .int .i64 x648013_1] 32 (0, 0))) ∧ Aside0 (Below w.heap.size w w'))
               case atStart => exact ⟨(x13_54), (0), au, H', ⟨Nat.le_refl _⟩, re HO_12, ⟨by (with_reducible repeat (first | apply Kd.R_alloc | apply Kd.R_drewN | apply Kd.R_drew)); exact Kd.R_mono HO_13.out (fun _ hk => ⟨hk.2, ⟨hk.1.1, hk.1.2⟩⟩)⟩, ⟨by (with_reducible repeat (first | apply Kd.R_alloc | apply Kd.R_drewN | apply Kd.R_drew)); exact Kd.R_mono HO720.out (fun _ hk => ⟨hk.1.1.2, ⟨hk.1.2, hk.2⟩⟩)⟩, re HO_648011, re HO_675011, be BK627, be BK628, be BK647, be BK673, be BK674, ⟨bse HB⟩⟩
               case round =>
                clear H'
                try clear c1
                try clear c2
                try clear p2
                try clear c3
                try clear c4
                try clear c5
                try clear c6
                try clear p6
                try clear q6
                try clear hx6
                try clear qi6
                try clear c7
                try clear c7b0
                try clear c7b1
                try clear c8
                try clear c9
                try clear c10
                try clear c11
                try clear c12
                try clear c12b0
                try clear c12b1
                try clear c13
                try clear c14
                try clear c14b0
                try clear c14b1
                try clear c15
                try clear c18
                try clear c19
                try clear c23
                try clear c24
                try clear c25
                try clear c34
                try clear c34b0
                try clear c35
                try clear c35b0
                try clear c36
                try clear c36b0
                try clear c39
                try clear c40
                try clear c41
                try clear c43
                try clear c43b0
                try clear c43b1
                try clear c44
                try clear c45
                try clear c46
                try clear c48
                try clear c49
                try clear c50
                try clear c53
                try clear c56
                try clear c57
                try clear c58
                try clear c61
                try clear c62
                try clear c63
                try clear c64
                try clear p64
                try clear c67
                try clear p67
                try clear q67
                try clear hx67
                try clear qi67
                try clear c68
                try clear c70
                try clear c70b0
                try clear c70b1
                try clear c70b2
                try clear c71
                try clear c71b0
                try clear c71b1
                try clear c71b2
                try clear c73
                try clear c74
                try clear c75
                try clear c76
                try clear c78
                try clear c78b0
                try clear c78b1
                try clear c81
                try clear c82
                try clear c83
                try clear c84
                try clear c86
                try clear c87
                try clear c88
                try clear c94
                try clear c95
                try clear c96
                try clear c97
                try clear c99
                try clear c100
                try clear c101
                try clear c103
                try clear c104
                try clear c109
                try clear c109b0
                try clear c109b1
                try clear c111
                try clear c111b0
                try clear c111b1
                try clear c113
                try clear c114
                try clear c115
                try clear c116
                try clear c118
                try clear c119
                try clear c120
                try clear hcz102
                try clear hcz105
                try clear hcz105
                try clear hcz105
                try clear hcz107
                try clear hcz117
                try clear hcz121
                try clear hcz20
                try clear hcz21
                try clear hcz21
                try clear hcz21
                try clear hcz26
                try clear hcz28
                try clear hcz30
                try clear hcz42
                try clear hcz42
                try clear hcz42
                try clear hcz47
                try clear hcz47
                try clear hcz47
                try clear hcz51
                try clear hcz51
                try clear hcz51
                try clear hcz59
                try clear hcz65
                try clear hcz69
                try clear hcz69
                try clear hcz69
                try clear hcz77
                try clear hcz85
                try clear hcz89
                try clear hcz91
                try clear hcz98
                try clear hcz102
                try clear hcz105
                try clear hcz105
                try clear hcz105
                try clear hcz107
                try clear hcz117
                try clear hcz121
                try clear hcz20
                try clear hcz21
                try clear hcz21
                try clear hcz21
                try clear hcz26
                try clear hcz28
                try clear hcz30
                try clear hcz42
                try clear hcz42
                try clear hcz42
                try clear hcz47
                try clear hcz47
                try clear hcz47
                try clear hcz51
                try clear hcz51
                try clear hcz51
                try clear hcz59
                try clear hcz65
                try clear hcz69
                try clear hcz69
                try clear hcz69
                try clear hcz77
                try clear hcz85
                try clear hcz89
                try clear hcz91
                try clear hcz98
                try clear hx672_0
                try clear hx672_1
                try clear hx672_2
                try clear hx675_0
                try clear p2
                try clear p6
                try clear p64
                try clear p67
                try clear p672
                try clear p675
                try clear q6
                try clear q67
                try clear q672
                try clear q675
                obtain ⟨x13_4, x134_4, rfl, HA, HK4, HO_12, HO_13, HO_132, HO_648011, HO_675011, BK627, BK628, BK647, BK673, BK674, HB⟩ := hrel
                cases gk with
                | zero => exact absurd HA.out (by simp [palletlaw13_NodeStays.l1])
                | succ k4 =>
                 have H := HA.out
                 clear HA
                 simp only [palletlaw13_NodeStays.l1] at H
                 by_cases c127 : x134_4 < (t718.length : Int)
                 ·rw [if_pos c127] at H
                  have c127b0 := decide_eq_true c127
                  (try (have c127h0_hl672_0 := c127b0; rw [hl672_0] at c127h0_hl672_0))
                  clear c127
                  by_cases c128 : 0 ≤ x134_4
                  ·rw [if_pos c128] at H
                   have c128b0 := decide_eq_true c128
                   clear c128
                   by_cases c129 : x134_4 < (t718.length : Int)
                   ·rw [if_pos c129] at H
                    have c129b0 := decide_eq_true c129
                    (try (have c129h0_hl672_0 := c129b0; rw [hl672_0] at c129h0_hl672_0))
                    clear c129
                    by_cases c130 : (rd t718 x134_4) < x14_54
                    ·rw [if_pos c130] at H
                     exact absurd H (by simp)
                    rw [if_neg c130] at H
                    have c130b0 := decide_eq_false c130
                    clear c130
                    obtain ⟨y722, hy722⟩ : ∃ y_ : List Int, y_ = (([rd t718 x134_4] : List Int)) := ⟨_, rfl⟩
                    replace H : (palletlaw13_NodeStays.l1 k4 true x12_54 y722 x14_54 l3 (l3.length : Int) x56_1 t718 (t718.length : Int) (wrap64 (x134_4 + 1)) a0_0 a0_1 a0_2 a0_3 a0_4 x648000_54 x648001_54 x648002_54 x648003_54 x648004_54 x648005_54 x648006_54 x648007_54 x648008_54 x648009_54 x648010_54 x648011_54 x648012_54 x648013_54 x648000_1 x648001_1 x648002_1 x648003_1 x648004_1 x648005_1 x648006_1 x648007_1 x648008_1 x648009_1 x648010_1 x648011_1 x648012_1 x648013_1) = some r := by first | (rw [hy722]; with_reducible exact H) | (have H2_ := (Option.bind_some _ _).symm.trans H; rw [hy722]; with_reducible exact H2_) | (have H2_ := (Option.bind_some _ _).symm.trans H; with_reducible exact H2_) | with_reducible exact H | (rw [hy722]; exact H) | exact H
                    have Ny722 := asd hy722
                    clear hy722
                    have H' := asd H
                    clear H
                    have p721 : 0 ≤ (x134_4 : Int) := of_decide_eq_true (by first | (with_reducible assumption) | assumption)
                    have q721 : x134_4 < (t718.length : Int) := of_decide_eq_true (by first | (with_reducible assumption) | assumption)
                    obtain ⟨ad721, e721, hx721_0⟩ := Kd.at_int (Kd.R_reads' HO_132.out).2.2 x134_4 p721 q721
                    cases e721
                    replace p721 := eq_true p721
                    replace q721 := eq_true q721
                    go_wp2_with (first | ((with_reducible refine gate_dst (N := 142) rfl ?_); (try (refine gate_guard (by rfl) ?_; dsimp only)); refine Kd.R_lit (Kd.int .i64) _ 2 ?hg (N := 142) ?hd (xs := ([rd t718 x134_4] : List Int)) (inner := [.int .i64 (rd t718 x134_4)]) (ok := fun _ => True) (okp := fun _ => True) ?hr ?hp (fun _ hk => hk) trivial (Below.refl _ _) (Nat.le_refl _) (by simp) ?_; (case hd => rfl); (case hg => rfl); (case hr => first | (go_simp; done) | (go_simp; rfl)); (case hp => exact (Reps.one (show Kd.M (Kd.int .i64) _ _ _ (rd t718 x134_4) [.int .i64 (rd t718 x134_4)] from rfl) (Reps.none _ _))); intro v723 w131 ho132 hb hg_ hnew_; clear hg_ hnew_; (first | rw [← Ny722.out] at ho132 | (simp only [Int.reduceToNat] at ho132; rw [← Ny722.out] at ho132)); have HO724 := asd (Kd.R_lower (Kd.R_new' (Kd.R_new' (Kd.R_new' (Kd.R_new' ho132 (Kd.R_lt (re HO_13).out)) (Kd.R_lt (re HO_132).out)) (Kd.R_lt (re HO_648011).out)) (Kd.R_lt (re HO_675011).out)) (below_size (bse HB))); replace HO_12 := rb HO_12 hb; replace HO_13 := asd (Kd.R_elder' (re HO_13).out (Kd.R_base ho132) hb); replace HO_132 := asd (Kd.R_elder' (re HO_132).out (Kd.R_base ho132) hb); replace HO_648011 := asd (Kd.R_elder' (re HO_648011).out (Kd.R_base ho132) hb); replace HO_675011 := asd (Kd.R_elder' (re HO_675011).out (Kd.R_base ho132) hb); replace BK627 := bb BK627 hb; replace BK628 := bb BK628 hb; replace BK647 := bb BK647 hb; replace BK673 := bb BK673 hb; replace BK674 := bb BK674 hb; replace HB := bs HB hb; clear hb ho132) | ((with_reducible refine gS rfl ?_); refine st14 ?_) | ((with_reducible refine gD rfl ?_); refine ldR ?_))
                    go_roundg k4
                    case measure => have := HK1.out; have := HJ36.out; have := HJ54.out; have := HK4.out; omega
                    case rel => exact ⟨(y722), (wrap64 (x134_4 + 1)), au, H', ⟨by have := HK1.out; have := HJ36.out; have := HJ54.out; have := HK4.out; omega⟩, re HO_12, ⟨by (with_reducible repeat (first | apply Kd.R_alloc | apply Kd.R_drewN | apply Kd.R_drew)); exact Kd.R_mono HO724.out (fun _ hk => ⟨hk.1.1.2, ⟨hk.1.2, hk.2⟩⟩)⟩, ⟨by (with_reducible repeat (first | apply Kd.R_alloc | apply Kd.R_drewN | apply Kd.R_drew)); exact Kd.R_mono HO_132.out (fun _ hk => ⟨hk.2, ⟨hk.1.2.1, hk.1.2.2⟩⟩)⟩, ⟨by (with_reducible repeat (first | apply Kd.R_alloc | apply Kd.R_drewN | apply Kd.R_drew)); exact Kd.R_mono HO_648011.out (fun _ hk => ⟨hk.2, hk.1.2⟩)⟩, ⟨by (with_reducible repeat (first | apply Kd.R_alloc | apply Kd.R_drewN | apply Kd.R_drew)); exact Kd.R_mono HO_675011.out (fun _ hk => ⟨hk.2, hk.1.2⟩)⟩, be BK627, be BK628, be BK647, be BK673, be BK674, ⟨bse HB⟩⟩
                   rw [if_neg c129] at H
                   exact absurd H (by simp)
                  rw [if_neg c128] at H
                  exact absurd H (by simp)
                 rw [if_neg c127] at H
                 have c127b0 := decide_eq_false c127
                 (try (have c127h0_hl672_0 := c127b0; rw [hl672_0] at c127h0_hl672_0))
                 clear c127
                 have HC133 := asd H
                 clear H
                 go_upto_region 38 with (first | ((with_reducible refine gS rfl ?_); refine st14 ?_) | ((with_reducible refine gD rfl ?_); refine ldR ?_))
                 go_cut [157] (fun v157 wc => ∃ (kq : Nat) (x157_132 : Bool), v157 = .bool x157_132 ∧ Aside0 (palletlaw13_NodeStays.j4 kq true x13_4 x14_54 l3 (l3.length : Int) x56_1 x157_132 a0_0 a0_1 a0_2 a0_3 a0_4 x648000_54 x648001_54 x648002_54 x648003_54 x648004_54 x648005_54 x648006_54 x648007_54 x648008_54 x648009_54 x648010_54 x648011_54 x648012_54 x648013_54 = some r) ∧ Aside0 (kq ≤ k4) ∧ Aside0 (Kd.R (Kd.int .i64) 2 wc w.heap.size (fun k_ => some k_ ≠ ((.slice Ao122 x648011_54.length co122) : Value).ownBlock ∧ some k_ ≠ ((.slice Ao66 x648011_1.length co66) : Value).ownBlock) u13 x13_4) ∧ Aside0 (Kd.R (Kd.int .i64) 2 wc w.heap.size (fun k_ => some k_ ≠ (u13 : Value).ownBlock) (.slice Ao122 x648011_54.length co122) x648011_54) ∧ Aside0 (Kd.R (Kd.int .i64) 2 wc w.heap.size (fun k_ => some k_ ≠ (u13 : Value).ownBlock) (.slice Ao66 x648011_1.length co66) x648011_1) ∧ Aside0 (wc.heap[gb627]? = some (.cells #[.int .i64 a0_0, .int .i64 a0_1, .int .i64 a0_2, .int .i64 a0_3, .int .i64 a0_4] 23 (0, 0))) ∧ Aside0 (wc.heap[gb628]? = some (.cells #[.int .i64 a2_0, .int .i64 a2_1, .int .i64 a2_2] 26 (0, 0))) ∧ Aside0 (wc.heap[gb647]? = some (.cells #[.int .i64 x648000_54, .int .i64 x648001_54, .int .u64 x648002_54, .int .i64 x648003_54, .int .i64 x648004_54, .int .i64 x648005_54, .int .i64 x648006_54, .int .i64 x648007_54, .int .u16 x648008_54, .int .i64 x648009_54, .int .i64 x648010_54, (.slice Ao122 x648011_54.length co122), .bool x648012_54, .int .i64 x648013_54] 32 (0, 0))) ∧ Aside0 (wc.heap[gb673]? = some (.cells #[(.slice A672_0 ((rd_T62 l3 x56_1).f0).length c672_0), .int .i64 ((rd_T62 l3 x56_1).f1), .bool ((rd_T62 l3 x56_1).f2)] 62 (0, 0))) ∧ Aside0 (wc.heap[gb674]? = some (.cells #[.int .i64 x648000_1, .int .i64 x648001_1, .int .u64 x648002_1, .int .i64 x648003_1, .int .i64 x648004_1, .int .i64 x648005_1, .int .i64 x648006_1, .int .i64 x648007_1, .int .u16 x648008_1, .int .i64 x648009_1, .int .i64 x648010_1, (.slice Ao66 x648011_1.length co66), .bool x648012_1, .int .i64 x648013_1] 32 (0, 0))) ∧ Aside0 (Below w.heap.size w wc))
                 case first =>
                  have H := HC133.out
                  clear HC133
                  by_cases c134 : x648001_1 = 3
                  ·rw [if_pos c134] at H
                   have c134b0 := beq_iff_eq.mpr c134
                   have c134b1 := bne_eq_false_iff_eq.mpr c134
                   clear c134
                   (first | rw [c134b0] | (simp only [i64_w, i32_w]; rw [c134b0]) | skip)
                   by_cases c135 : (x12_54.length : Int) > 0
                   ·rw [if_pos c135] at H
                    exact absurd H (by simp)
                   rw [if_neg c135] at H
                   have c135b0 := decide_eq_false c135
                   (try (have c135h0_hl672_0 := c135b0; rw [hl672_0] at c135h0_hl672_0))
                   have c135b1 : decide (0 < x12_54.length) = false := decide_eq_false (by omega)
                   clear c135
                   obtain ⟨t725, A136, H⟩ := bio H
                   have H' := asd H
                   clear H
                   have hnb137 := NB674_627.out
                   have hnc137 := NB627_674.out
                   have hnb138 := NB674_628.out
                   have hnc138 := NB628_674.out
                   have hnb139 := NB674_647.out
                   have hnc139 := NB647_674.out
                   have hnb140 := NB674_673.out
                   have hnc140 := NB673_674.out
                   have hcz141 := cf14 BK674
                   have hnb142 := NB647_627.out
                   have hnc142 := NB627_647.out
                   have hnb143 := NB647_628.out
                   have hnc143 := NB628_647.out
                   have hnb144 := NB647_673.out
                   have hnc144 := NB673_647.out
                   have hcz145 := cf14 BK647
                   go_wp2_with (first | (go_at_call 11; (with_reducible refine (node_Same.calls k4 x648000_54 x648001_54 x648002_54 x648003_54 x648004_54 x648005_54 x648006_54 x648007_54 x648008_54 x648009_54 x648010_54 _ _ x648011_54 x648012_54 x648013_54 x648000_1 x648001_1 x648002_1 x648003_1 x648004_1 x648005_1 x648006_1 x648007_1 x648008_1 x648009_1 x648010_1 _ _ x648011_1 x648012_1 x648013_1 t725 _ ?side1 ?side2 ?side3 ?side4 A136.out).mono ?_); (case side1 => exact cr (Kd.R_reads' HO_648011.out).2.2); (case side2 => exact (Kd.R_reads' HO_648011.out).2.1); (case side3 => exact cr (Kd.R_reads' HO_675011.out).2.2); (case side4 => exact (Kd.R_reads' HO_675011.out).2.1); rintro e w146 ⟨rfl, hb⟩; replace HO_12 := rb HO_12 hb; replace HO_13 := rb HO_13 hb; replace HO_132 := rb HO_132 hb; replace HO_648011 := rb HO_648011 hb; replace HO_675011 := rb HO_675011 hb; replace BK627 := bb BK627 hb; replace BK628 := bb BK628 hb; replace BK647 := bb BK647 hb; replace BK673 := bb BK673 hb; replace BK674 := bb BK674 hb; replace HB := bs HB hb; (try clear hb)) | ((with_reducible refine gS rfl ?_); refine st14 ?_) | ((with_reducible refine gD rfl ?_); refine ldR ?_))
                   go_meet
                   case rel => exact ⟨_, (!t725), au, H', ⟨by have := HK1.out; have := HJ36.out; have := HJ54.out; have := HK4.out; first | omega | exact Nat.le_refl _⟩, ⟨by (with_reducible repeat (first | apply Kd.R_alloc | apply Kd.R_drewN | apply Kd.R_drew)); exact Kd.R_mono HO_13.out (fun _ hk => ⟨hk.2.1, hk.2.2⟩)⟩, ⟨by (with_reducible repeat (first | apply Kd.R_alloc | apply Kd.R_drewN | apply Kd.R_drew)); exact Kd.R_mono HO_648011.out (fun _ hk => hk.1)⟩, ⟨by (with_reducible repeat (first | apply Kd.R_alloc | apply Kd.R_drewN | apply Kd.R_drew)); exact Kd.R_mono HO_675011.out (fun _ hk => hk.1)⟩, be BK627, be BK628, be BK647, be BK673, be BK674, ⟨bse HB⟩⟩
                  rw [if_neg c134] at H
                  have c134b0 := beq_eq_false_iff_ne.mpr c134
                  have c134b1 := bne_iff_ne.mpr c134
                  (first | rw [c134b0] | (simp only [i64_w, i32_w]; rw [c134b0]) | skip)
                  have H' := asd H
                  clear H
                  have hnb147 := NB674_627.out
                  have hnc147 := NB627_674.out
                  have hnb148 := NB674_628.out
                  have hnc148 := NB628_674.out
                  have hnb149 := NB674_647.out
                  have hnc149 := NB647_674.out
                  have hnb150 := NB674_673.out
                  have hnc150 := NB673_674.out
                  have hcz151 := cf14 BK674
                  go_wp2_with (first | ((with_reducible refine gS rfl ?_); refine st14 ?_) | ((with_reducible refine gD rfl ?_); refine ldR ?_))
                  go_meet
                  case rel => exact ⟨_, (false), au, H', ⟨by have := HK1.out; have := HJ36.out; have := HJ54.out; have := HK4.out; first | omega | exact Nat.le_refl _⟩, ⟨by (with_reducible repeat (first | apply Kd.R_alloc | apply Kd.R_drewN | apply Kd.R_drew)); exact Kd.R_mono HO_13.out (fun _ hk => ⟨hk.2.1, hk.2.2⟩)⟩, ⟨by (with_reducible repeat (first | apply Kd.R_alloc | apply Kd.R_drewN | apply Kd.R_drew)); exact Kd.R_mono HO_648011.out (fun _ hk => hk.1)⟩, ⟨by (with_reducible repeat (first | apply Kd.R_alloc | apply Kd.R_drewN | apply Kd.R_drew)); exact Kd.R_mono HO_675011.out (fun _ hk => hk.1)⟩, be BK627, be BK628, be BK647, be BK673, be BK674, ⟨bse HB⟩⟩
                 case rest =>
                  clear HC133
                  try clear c1
                  try clear p2
                  try clear c6
                  try clear p6
                  try clear q6
                  try clear hx6
                  try clear p7
                  try clear q7
                  try clear hx7
                  try clear c8
                  try clear c9
                  try clear c10
                  try clear c11
                  try clear c12
                  try clear c13
                  try clear c14
                  try clear c15
                  try clear p64
                  try clear c67
                  try clear p67
                  try clear q67
                  try clear hx67
                  try clear p72
                  try clear q72
                  try clear hx72
                  try clear c86
                  try clear c87
                  try clear c88
                  try clear c94
                  try clear c95
                  try clear c96
                  try clear c97
                  try clear c99
                  try clear c100
                  try clear c101
                  try clear c103
                  try clear c104
                  try clear c109
                  try clear c109b0
                  try clear c109b1
                  try clear c111
                  try clear c111b0
                  try clear c111b1
                  try clear c113
                  try clear c114
                  try clear c115
                  try clear c116
                  try clear c118
                  try clear c119
                  try clear c120
                  try clear c127
                  try clear c127b0
                  try clear c128
                  try clear c128b0
                  try clear c129
                  try clear c129b0
                  try clear c130
                  try clear c130b0
                  try clear c134
                  try clear c134b0
                  try clear c134b1
                  try clear c135
                  try clear c135b0
                  try clear c135b1
                  try clear c137
                  try clear c138
                  try clear c139
                  try clear c140
                  try clear c142
                  try clear c143
                  try clear c144
                  try clear c147
                  try clear c148
                  try clear c149
                  try clear c150
                  try clear hcz102
                  try clear hcz105
                  try clear hcz105
                  try clear hcz105
                  try clear hcz107
                  try clear hcz117
                  try clear hcz121
                  try clear hcz141
                  try clear hcz145
                  try clear hcz151
                  try clear hcz20
                  try clear hcz21
                  try clear hcz21
                  try clear hcz21
                  try clear hcz26
                  try clear hcz28
                  try clear hcz30
                  try clear hcz42
                  try clear hcz42
                  try clear hcz42
                  try clear hcz47
                  try clear hcz47
                  try clear hcz47
                  try clear hcz51
                  try clear hcz51
                  try clear hcz51
                  try clear hcz59
                  try clear hcz65
                  try clear hcz69
                  try clear hcz69
                  try clear hcz69
                  try clear hcz77
                  try clear hcz85
                  try clear hcz89
                  try clear hcz91
                  try clear hcz98
                  try clear hcz102
                  try clear hcz105
                  try clear hcz105
                  try clear hcz105
                  try clear hcz107
                  try clear hcz117
                  try clear hcz121
                  try clear hcz141
                  try clear hcz145
                  try clear hcz151
                  try clear hcz20
                  try clear hcz21
                  try clear hcz21
                  try clear hcz21
                  try clear hcz26
                  try clear hcz28
                  try clear hcz30
                  try clear hcz42
                  try clear hcz42
                  try clear hcz42
                  try clear hcz47
                  try clear hcz47
                  try clear hcz47
                  try clear hcz51
                  try clear hcz51
                  try clear hcz51
                  try clear hcz59
                  try clear hcz65
                  try clear hcz69
                  try clear hcz69
                  try clear hcz69
                  try clear hcz77
                  try clear hcz85
                  try clear hcz89
                  try clear hcz91
                  try clear hcz98
                  try clear hx672_0
                  try clear hx672_1
                  try clear hx672_2
                  try clear hx675_0
                  try clear hx721_0
                  try clear p2
                  try clear p6
                  try clear p64
                  try clear p67
                  try clear p672
                  try clear p675
                  try clear p721
                  try clear q6
                  try clear q67
                  try clear q672
                  try clear q675
                  try clear q721
                  obtain ⟨kq, x157_132, rfl, HA, HJ132, HO_13, HO_648011, HO_675011, BK627, BK628, BK647, BK673, BK674, HB⟩ := hcut
                  cases kq with
                  | zero => exact absurd HA.out (by simp [palletlaw13_NodeStays.j4])
                  | succ kj132 =>
                   have H := HA.out
                   clear HA
                   simp only [palletlaw13_NodeStays.j4] at H
                   by_cases c152 : x157_132 = true
                   ·subst c152
                    rw [if_pos rfl] at H
                    exact absurd H (by simp)
                   replace c152 := Bool.eq_false_iff.mpr c152
                   subst c152
                   rw [if_neg (show ¬ (false = true) by decide)] at H
                   have H' := asd H
                   clear H
                   go_wp2_with (first | ((with_reducible refine gS rfl ?_); refine st14 ?_) | ((with_reducible refine gD rfl ?_); refine ldR ?_))
                   go_roundg kj132
                   case measure => have := HK1.out; have := HJ36.out; have := HJ54.out; have := HK4.out; have := HJ132.out; omega
                   case rel => exact ⟨(x13_4), (x14_54), (wrap64 (x56_1 + 1)), (x648000_54), (x648001_54), (x648002_54), (x648003_54), (x648004_54), (x648005_54), (x648006_54), (x648007_54), (x648008_54), (x648009_54), (x648010_54), (x648011_54), (x648012_54), (x648013_54), (.slice Ao122 x648011_54.length co122), au, au, H', ⟨by have := HK1.out; have := HJ36.out; have := HJ54.out; have := HK4.out; have := HJ132.out; omega⟩, ⟨by (with_reducible repeat (first | apply Kd.R_alloc | apply Kd.R_drewN | apply Kd.R_drew)); exact Kd.R_mono HO_13.out (fun _ hk => hk.1)⟩, re HO_648011, be BK627, be BK628, be BK647, ⟨bse HB⟩⟩
              rw [if_neg c111] at H
              exact absurd H (by simp)
             rw [if_neg c109] at H
             have c109b0 := beq_eq_false_iff_ne.mpr c109
             have c109b1 := bne_iff_ne.mpr c109
             try rw [if_pos rfl] at H
             obtain ⟨t716, A153, H⟩ := bio H
             obtain rfl := Option.some.inj H
             have hnb154 := NB647_627.out
             have hnc154 := NB627_647.out
             have hnb155 := NB647_628.out
             have hnc155 := NB628_647.out
             have hnb156 := NB647_673.out
             have hnc156 := NB673_647.out
             have hnb157 := NB647_674.out
             have hnc157 := NB674_647.out
             have hcz158 := cf14 BK647
             have hnb159 := NB674_627.out
             have hnc159 := NB627_674.out
             have hnb160 := NB674_628.out
             have hnc160 := NB628_674.out
             have hnb161 := NB674_673.out
             have hnc161 := NB673_674.out
             have hcz162 := cf14 BK674
             obtain ⟨Ao163, co163, eo163⟩ := Kd.R_slice HO_648011.out
             subst eo163
             go_wp2_with (first | (go_at_call 11; (with_reducible refine (node_Same.calls kj54 x648000_54 x648001_54 x648002_54 x648003_54 x648004_54 x648005_54 x648006_54 x648007_54 x648008_54 x648009_54 x648010_54 _ _ x648011_54 x648012_54 x648013_54 x648000_1 x648001_1 x648002_1 x648003_1 x648004_1 x648005_1 x648006_1 x648007_1 x648008_1 x648009_1 x648010_1 _ _ x648011_1 x648012_1 x648013_1 t716 _ ?side1 ?side2 ?side3 ?side4 A153.out).mono ?_); (case side1 => exact cr (Kd.R_reads' HO_648011.out).2.2); (case side2 => exact (Kd.R_reads' HO_648011.out).2.1); (case side3 => exact cr (Kd.R_reads' HO_675011.out).2.2); (case side4 => exact (Kd.R_reads' HO_675011.out).2.1); rintro e w164 ⟨rfl, hb⟩; replace HO_12 := rb HO_12 hb; replace HO_13 := rb HO_13 hb; replace HO_648011 := rb HO_648011 hb; replace HO_675011 := rb HO_675011 hb; replace BK627 := bb BK627 hb; replace BK628 := bb BK628 hb; replace BK647 := bb BK647 hb; replace BK673 := bb BK673 hb; replace BK674 := bb BK674 hb; replace HB := bs HB hb; (try clear hb)) | ((with_reducible refine gS rfl ?_); refine st14 ?_) | ((with_reducible refine gD rfl ?_); refine ldR ?_))
             go_ret
             exact xo (bse HB)
        rw [if_neg c36] at H
        exact absurd H (by simp)
       rw [if_neg c35] at H
       exact absurd H (by simp)
      rw [if_neg c34] at H
      have c34b0 := decide_eq_false c34
      (try (have c34h0_hl672_0 := c34b0; rw [hl672_0] at c34h0_hl672_0))
      clear c34
      obtain rfl := Option.some.inj H
      go_wp2_with (first | ((with_reducible refine gS rfl ?_); refine st14 ?_) | ((with_reducible refine gD rfl ?_); refine ldR ?_))
      go_ret
      exact xo (bse HB)
   rw [if_neg c14] at H
   exact absurd H (by simp)
  rw [if_neg c12] at H
  have c12b0 := beq_eq_false_iff_ne.mpr c12
  have c12b1 := bne_iff_ne.mpr c12
  obtain ⟨t648, A165, H⟩ := bio H
  obtain rfl := Option.some.inj H
  go_enter Tryz.func6, Tryz.ntmps6
  go_wp2_with (first | ((with_reducible refine gate_dst (N := 4) rfl ?_); refine bG 4 #[.int .i64 a0_0, .int .i64 a0_1, .int .i64 a0_2, .int .i64 a0_3, .int .i64 a0_4] 23 ?_; intro gb627 hg w166 BK627 hb; have GW627 := bz HB hg; have GE627 := bz HB hg; replace HB := bs HB hb; clear hb hg) | ((with_reducible refine gate_dst (N := 6) rfl ?_); refine bG 6 #[.int .i64 a2_0, .int .i64 a2_1, .int .i64 a2_2] 26 ?_; intro gb628 hg w167 BK628 hb; have GW628 := bz HB hg; have GE628 := bz HB hg; have NB627_628 := nl BK627 hg; have NB628_627 := nr BK627 hg; replace BK627 := bb BK627 hb; replace HB := bs HB hb; clear hb hg) | ((with_reducible refine gate_callee (f := 7) rfl ?_); refine gC (some 20) Tryz.func7 (palletlaw13_live.calls k  true _ A5.out) ?_; rintro e w168 ⟨rfl, hb⟩; refine ⟨_, rfl, ?_⟩; replace BK627 := bb BK627 hb; replace BK628 := bb BK628 hb; replace HB := bs HB hb; (try clear hb); have hnb169 := NB627_628.out; have hnc169 := NB628_627.out; have hcz170 := cf5 BK627; have hcz171 := ca3 BK628) | ((with_reducible refine gate_callee (f := 13) rfl ?_); refine gC (some 31) Tryz.func13 (node_New.calls k a0_0 a0_1 a0_2 a0_3 a0_4 a1 a2_0 a2_1 a2_2 t630 t631 t632 t633 t634 t635 t636 t637 t638 t639 t640 t641 t644 t645 t646 _ A11.out) ?_; rintro e w172 ⟨v642, rfl, ho0, hb⟩; refine ⟨_, rfl, ?_⟩; have HO643 := rl ho0 HB; replace BK627 := bb BK627 hb; replace BK628 := bb BK628 hb; replace HB := bs HB hb; (try clear hb); (try clear ho0)) | ((with_reducible refine gate_dst (N := 10) rfl ?_); refine bG 10 #[.int .i64 0, .int .i64 0, .int .u64 0, .int .i64 0, .int .i64 0, .int .i64 0, .int .i64 0, .int .i64 0, .int .u16 0, .int .i64 0, .int .i64 0, .slice none 0 0, .bool false, .int .i64 0] 32 ?_; intro gb647 hg w173 BK647 hb; have GW647 := bz HB hg; have GE647 := bz HB hg; have NB627_647 := nl BK627 hg; have NB647_627 := nr BK627 hg; have NB628_647 := nl BK628 hg; have NB647_628 := nr BK628 hg; replace HO643 := rb HO643 hb; replace BK627 := bb BK627 hb; replace BK628 := bb BK628 hb; replace HB := bs HB hb; clear hb hg; have hnb174 := NB647_627.out; have hnc174 := NB627_647.out; have hnb175 := NB647_628.out; have hnc175 := NB628_647.out; have hcz176 := cf14 BK647; obtain ⟨Ao177, co177, eo177⟩ := Kd.R_slice HO643.out; subst eo177) | (go_at_call 11; (refine (node_Same.calls k t630 t631 t632 t633 t634 t635 t636 t637 t638 t639 t640 _ _ t641 t644 t645 0 0 0 0 0 0 0 0 0 0 0 _ _ ([] : List Int) false 0 t648 _ ?side1 ?side2 ?side3 ?side4 A165.out).mono ?_); (case side1 => refine (Kd.R_reads' (e := 2) (base := w.heap.size) (ok := fun k_ => True) (n := t641.length) (c := co177) ?_).2.2; exact (rf HO643 BK647 (by decide) (fun _ hk => hk)).out); (case side2 => exact (Kd.R_reads' HO643.out).2.1); (case side3 => exact Kd.C_nil _ _); (case side4 => exact Nat.le_refl _); rintro e w178 ⟨rfl, hb⟩; replace HO643 := rfb HO643 BK647 (by decide) (fun _ hk => hk) hb; replace BK627 := fq NB627_647 BK627 hb; replace BK628 := fq NB628_647 BK628 hb; replace BK647 := asd (blk_below (bp14 BK647).out hb); replace HB := bs HB hb; (try clear hb); (try clear hk)) | ((with_reducible refine gS rfl ?_); refine st14 ?_) | ((with_reducible refine gD rfl ?_); refine ldR ?_))
  go_ret
  exact xo (bse HB)
 replace c6 := Bool.eq_false_iff.mpr c6
 subst c6
 rw [if_neg (show ¬ (false = true) by decide)] at H
 exact absurd H (by simp)

end Go.Proofs.YtcofclkgfandfaaGreat.Print
