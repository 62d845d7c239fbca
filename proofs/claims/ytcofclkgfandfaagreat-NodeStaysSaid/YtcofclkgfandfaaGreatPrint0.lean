-- PRINTED by print.py (a twelfth state) out of the translation. Not trusted: Lean checks it.
import Derived.Test.YtcofclkgfandfaaGreatSq
import Derived.Test.YtcofclkgfandfaaGreatProg
import Derived.Below
import Derived.Deep.Draws
import Derived.Deep.AppendLies
import Derived.Maps.AppendAt
import Derived.OwnWalk
import Derived.Laws.BytesArg
import Derived.Laws.MakeOwn
import Derived.Laws.OwnMore
import Derived.Deep.OwnRows
import Derived.Tactics
import Derived.Lib.ConvBytes
import Derived.Laws.Slices
import Derived.WalkKit
import Derived.KernelRfl
import Derived.RowKit3
import Derived.Deep.LoopGhost
import Derived.Deep.QuietTactic
import Derived.BigQuiet
import Derived.WideLaws
import Derived.Deep.DeepCutAuto
import Derived.Deep.CutBlock
import Derived.Deep.RegionHeld3
import Derived.Laws.Rows
import Derived.Lib.AppendStr
import Derived.ArgAppend
import Derived.Laws.IdiomCopy
import Derived.OrdersHeld
import Derived.Laws.BitsLemmas
import Derived.RowKit
import Derived.LoopN
import Derived.Test.YtcofclkgfandfaaGreatXtra
import Derived.Test.YtcofclkgfandfaaGreatWWords
import Derived.Test.YtcofclkgfandfaaGreatWLast
import Derived.Test.YtcofclkgfandfaaGreatWTab
import Derived.Test.YtcofclkgfandfaaGreatWQPut
import Derived.Test.YtcofclkgfandfaaGreatWApart
import Derived.Test.YtcofclkgfandfaaGreatWArr
import Derived.Test.YtcofclkgfandfaaGreatWZeros
import Derived.Test.YtcofclkgfandfaaGreatWFoot
import Derived.Test.YtcofclkgfandfaaGreatWKept
import Derived.Test.YtcofclkgfandfaaGreatWShare
import Derived.Test.YtcofclkgfandfaaGreatWN
import Derived.Test.YtcofclkgfandfaaGreatWEqStruct
import Derived.Test.YtcofclkgfandfaaGreatWRepsOne
import Derived.Test.YtcofclkgfandfaaGreatWGuard
import Derived.Test.YtcofclkgfandfaaGreatWNEv
import Derived.Test.YtcofclkgfandfaaGreatWMore
namespace Go.Proofs.YtcofclkgfandfaaGreat.Print
open Go.RowKit Go.Proofs.YtcofclkgfandfaaGreatW.PrintWords Go.Proofs.YtcofclkgfandfaaGreatW.PrintLast Go.Proofs.YtcofclkgfandfaaGreatW.PrintMore Go.Proofs.YtcofclkgfandfaaGreatX
attribute [local go_sem] str_lss str_geq max2_int min2_int max_two min_two max_three min_three max_four min_four   -- for this text's walks alone
set_option linter.unusedVariables false
set_option linter.unusedSimpArgs false



def errW : Option Int → Value
 | none => .nilIface
 | some c => .iface 0 (.int .i64 c)
theorem errW_none : errW none = .nilIface := rfl
theorem errW_some (c : Int) : errW (some c) = .iface 0 (.int .i64 c) := rfl

theorem info2 : (Tryz.prog.info? 2).map (fun i => (i.zero, i.size, i.bytes)) = some (some (.int .i64 0), 1, 8) := by kernel_rfl
theorem info5 : (Tryz.prog.info? 5).map (fun i => (i.zero, i.size, i.bytes)) = some (some (.int .u8 0), 1, 1) := by kernel_rfl
theorem info66 : (Tryz.prog.info? 66).map (fun i => (i.zero, i.size, i.bytes)) = some (some (.agg #[(.int .i64 0), (.int .i64 0), (.int .i64 0), (.int .i64 0), (.int .u64 0), (.int .u16 0), (.int .i64 0), (.int .i64 0)]), 8, 64) := by kernel_rfl
-- the values' own types
/-! #### struct type 23 -/
structure S23 where
 f0 : Int
 f1 : Int
 f2 : Int
 f3 : Int
 f4 : Int
def z23 : S23 := ⟨(0 : Int), (0 : Int), (0 : Int), (0 : Int), (0 : Int)⟩
def k23 : Kd S23 := Kd.iso (Kd.pair (Kd.int .i64) (Kd.pair (Kd.int .i64) (Kd.pair (Kd.int .i64) (Kd.pair (Kd.int .i64) (Kd.int .i64))))) (fun x : S23 => (x.f0, x.f1, x.f2, x.f3, x.f4))
theorem k23_open {w : World} {x : S23} {cs : List Value} (h : k23.K w x cs) : cs = [.int .i64 x.f0, .int .i64 x.f1, .int .i64 x.f2, .int .i64 x.f3, .int .i64 x.f4] := by
 obtain ⟨_, _, rfl, rfl, ⟨_, _, rfl, rfl, ⟨_, _, rfl, rfl, ⟨_, _, rfl, rfl, rfl⟩⟩⟩⟩ := h
 exact rfl
/-! #### struct type 26 -/
structure S26 where
 f0 : Int
 f1 : Int
 f2 : Int
def k26 : Kd S26 := Kd.iso (Kd.pair (Kd.int .i64) (Kd.pair (Kd.int .i64) (Kd.int .i64))) (fun x : S26 => (x.f0, x.f1, x.f2))
theorem k26_open {w : World} {x : S26} {cs : List Value} (h : k26.K w x cs) : cs = [.int .i64 x.f0, .int .i64 x.f1, .int .i64 x.f2] := by
 obtain ⟨_, _, rfl, rfl, ⟨_, _, rfl, rfl, rfl⟩⟩ := h
 exact rfl
/-! #### struct type 43 -/
structure S43 where
 f0 : Int
 f1 : Int
 f2 : Int
 f3 : Int
def z43 : S43 := ⟨(0 : Int), (0 : Int), (0 : Int), (0 : Int)⟩
def k43 : Kd S43 := Kd.iso (Kd.pair (Kd.int .i64) (Kd.pair (Kd.int .i64) (Kd.pair (Kd.int .u64) (Kd.int .u16)))) (fun x : S43 => (x.f0, x.f1, x.f2, x.f3))
theorem k43_open {w : World} {x : S43} {cs : List Value} (h : k43.K w x cs) : cs = [.int .i64 x.f0, .int .i64 x.f1, .int .u64 x.f2, .int .u16 x.f3] := by
 obtain ⟨_, _, rfl, rfl, ⟨_, _, rfl, rfl, ⟨_, _, rfl, rfl, rfl⟩⟩⟩ := h
 exact rfl
theorem k43_openM {w : World} {base : Nat} {ok : Nat → Prop} {x : S43} {cs : List Value} (h : k43.M w base ok x cs) : cs = [.int .i64 x.f0, .int .i64 x.f1, .int .u64 x.f2, .int .u16 x.f3] := by
 obtain ⟨_, _, rfl, rfl, ⟨_, _, rfl, rfl, ⟨_, _, rfl, rfl, rfl⟩⟩⟩ := h
 exact rfl
theorem k43_mkM (w : World) (base : Nat) (ok : Nat → Prop) (x : S43)  : k43.M w base ok x [.int .i64 x.f0, .int .i64 x.f1, .int .u64 x.f2, .int .u16 x.f3] := ⟨[.int .i64 x.f0], [.int .i64 x.f1, .int .u64 x.f2, .int .u16 x.f3], rfl, rfl, ⟨[.int .i64 x.f1], [.int .u64 x.f2, .int .u16 x.f3], rfl, rfl, ⟨[.int .u64 x.f2], [.int .u16 x.f3], rfl, rfl, rfl⟩⟩⟩
/-! #### struct type 66 -/
structure S66 where
 f0 : Int
 f1 : Int
 f2 : S43
 f3 : Int
 f4 : Int
def z66 : S66 := ⟨(0 : Int), (0 : Int), z43, (0 : Int), (0 : Int)⟩
def k66 : Kd S66 := Kd.iso (Kd.pair (Kd.int .i64) (Kd.pair (Kd.int .i64) (Kd.pair k43 (Kd.pair (Kd.int .i64) (Kd.int .i64))))) (fun x : S66 => (x.f0, x.f1, x.f2, x.f3, x.f4))
theorem k66_open {w : World} {x : S66} {cs : List Value} (h : k66.K w x cs) : cs = [.int .i64 x.f0, .int .i64 x.f1, .int .i64 x.f2.f0, .int .i64 x.f2.f1, .int .u64 x.f2.f2, .int .u16 x.f2.f3, .int .i64 x.f3, .int .i64 x.f4] := by
 obtain ⟨_, _, rfl, rfl, ⟨_, _, rfl, rfl, ⟨_, _, rfl, s2, ⟨_, _, rfl, rfl, rfl⟩⟩⟩⟩ := h
 obtain rfl := k43_open s2
 exact rfl
theorem k66_openM {w : World} {base : Nat} {ok : Nat → Prop} {x : S66} {cs : List Value} (h : k66.M w base ok x cs) : cs = [.int .i64 x.f0, .int .i64 x.f1, .int .i64 x.f2.f0, .int .i64 x.f2.f1, .int .u64 x.f2.f2, .int .u16 x.f2.f3, .int .i64 x.f3, .int .i64 x.f4] := by
 obtain ⟨_, _, rfl, rfl, ⟨_, _, rfl, rfl, ⟨_, _, rfl, s2, ⟨_, _, rfl, rfl, rfl⟩⟩⟩⟩ := h
 obtain rfl := k43_openM s2
 exact rfl
theorem k66_mkM (w : World) (base : Nat) (ok : Nat → Prop) (x : S66)  : k66.M w base ok x [.int .i64 x.f0, .int .i64 x.f1, .int .i64 x.f2.f0, .int .i64 x.f2.f1, .int .u64 x.f2.f2, .int .u16 x.f2.f3, .int .i64 x.f3, .int .i64 x.f4] := ⟨[.int .i64 x.f0], [.int .i64 x.f1, .int .i64 x.f2.f0, .int .i64 x.f2.f1, .int .u64 x.f2.f2, .int .u16 x.f2.f3, .int .i64 x.f3, .int .i64 x.f4], rfl, rfl, ⟨[.int .i64 x.f1], [.int .i64 x.f2.f0, .int .i64 x.f2.f1, .int .u64 x.f2.f2, .int .u16 x.f2.f3, .int .i64 x.f3, .int .i64 x.f4], rfl, rfl, ⟨[.int .i64 x.f2.f0, .int .i64 x.f2.f1, .int .u64 x.f2.f2, .int .u16 x.f2.f3], [.int .i64 x.f3, .int .i64 x.f4], rfl, (k43_mkM w base ok x.f2 ), ⟨[.int .i64 x.f3], [.int .i64 x.f4], rfl, rfl, rfl⟩⟩⟩⟩
def rd_T66 (xs : List S66) (i : Int) : S66 := xs.getD i.toNat z66
theorem at_T66 {w : World} {A : Option Addr} {n : Nat} {xs : List S66} (h : Kd.C k66 w A n xs) (i : Int) (h0 : 0 ≤ i) (h1 : i < n) : ∃ ad , A = some ad ∧ w.cell? (ad.add (i.toNat * 8)) = some (.int .i64 (rd_T66 xs i).f0) ∧ w.cell? ⟨(ad.add (i.toNat * 8)).block, (ad.add (i.toNat * 8)).off + 1, none⟩ = some (.int .i64 (rd_T66 xs i).f1) ∧ w.cell? ⟨(ad.add (i.toNat * 8)).block, (ad.add (i.toNat * 8)).off + 2, none⟩ = some (.int .i64 (rd_T66 xs i).f2.f0) ∧ w.cell? ⟨(ad.add (i.toNat * 8)).block, (ad.add (i.toNat * 8)).off + 3, none⟩ = some (.int .i64 (rd_T66 xs i).f2.f1) ∧ w.cell? ⟨(ad.add (i.toNat * 8)).block, (ad.add (i.toNat * 8)).off + 4, none⟩ = some (.int .u64 (rd_T66 xs i).f2.f2) ∧ w.cell? ⟨(ad.add (i.toNat * 8)).block, (ad.add (i.toNat * 8)).off + 5, none⟩ = some (.int .u16 (rd_T66 xs i).f2.f3) ∧ w.cell? ⟨(ad.add (i.toNat * 8)).block, (ad.add (i.toNat * 8)).off + 6, none⟩ = some (.int .i64 (rd_T66 xs i).f3) ∧ w.cell? ⟨(ad.add (i.toNat * 8)).block, (ad.add (i.toNat * 8)).off + 7, none⟩ = some (.int .i64 (rd_T66 xs i).f4) := by
 obtain ⟨ad, c, e, _, hK, hc0⟩ := Kd.C_get h z66 i h0 h1
 have hc : ∀ j u, c[j]? = some u → w.cell? (ad.add (i.toNat * 8 + j)) = some u := hc0
 obtain rfl := k66_open hK
 exact ⟨ad, e, hc 0 _ rfl, by rw [← add_field _ _ 1 (by omega)]; exact hc 1 _ rfl, by rw [← add_field _ _ 2 (by omega)]; exact hc 2 _ rfl, by rw [← add_field _ _ 3 (by omega)]; exact hc 3 _ rfl, by rw [← add_field _ _ 4 (by omega)]; exact hc 4 _ rfl, by rw [← add_field _ _ 5 (by omega)]; exact hc 5 _ rfl, by rw [← add_field _ _ 6 (by omega)]; exact hc 6 _ rfl, by rw [← add_field _ _ 7 (by omega)]; exact hc 7 _ rfl⟩

/-! #### struct type 62 -/
structure S62 where
 f0 : (List Int)
 f1 : Int
 f2 : Bool
def z62 : S62 := ⟨([] : List Int), (0 : Int), false⟩
def k62 : Kd S62 := Kd.iso (Kd.pair (Kd.slice 5 (Kd.int .u8)) (Kd.pair (Kd.int .i64) Kd.bool)) (fun x : S62 => (x.f0, x.f1, x.f2))
theorem k62_open {w : World} {x : S62} {cs : List Value} (h : k62.K w x cs) : ∃ A0 c0, cs = [.slice A0 x.f0.length c0, .int .i64 x.f1, .bool x.f2] ∧ x.f0.length ≤ c0 ∧ (Kd.int .u8).C w A0 x.f0.length x.f0 := by
 obtain ⟨_, _, rfl, ⟨A0, c0, rfl, l0, g0⟩, ⟨_, _, rfl, rfl, rfl⟩⟩ := h
 exact ⟨A0, c0, rfl, l0, g0⟩
def rd_T62 (xs : List S62) (i : Int) : S62 := xs.getD i.toNat z62
theorem at_T62 {w : World} {A : Option Addr} {n : Nat} {xs : List S62} (h : Kd.C k62 w A n xs) (i : Int) (h0 : 0 ≤ i) (h1 : i < n) : ∃ ad A0 c0, A = some ad ∧ w.cell? (ad.add (i.toNat * 3)) = some (.slice A0 (rd_T62 xs i).f0.length c0) ∧ w.cell? ⟨(ad.add (i.toNat * 3)).block, (ad.add (i.toNat * 3)).off + 1, none⟩ = some (.int .i64 (rd_T62 xs i).f1) ∧ w.cell? ⟨(ad.add (i.toNat * 3)).block, (ad.add (i.toNat * 3)).off + 2, none⟩ = some (.bool (rd_T62 xs i).f2) ∧ (rd_T62 xs i).f0.length ≤ c0 ∧ (Kd.int .u8).C w A0 (rd_T62 xs i).f0.length (rd_T62 xs i).f0 := by
 obtain ⟨ad, c, e, _, hK, hc0⟩ := Kd.C_get h z62 i h0 h1
 have hc : ∀ j u, c[j]? = some u → w.cell? (ad.add (i.toNat * 3 + j)) = some u := hc0
 obtain ⟨A0, c0, rfl, l0, g0⟩ := k62_open hK
 exact ⟨ad, A0, c0, e, hc 0 _ rfl, by rw [← add_field _ _ 1 (by omega)]; exact hc 1 _ rfl, by rw [← add_field _ _ 2 (by omega)]; exact hc 2 _ rfl, l0, g0⟩


theorem eqA26 (d : Nat) (w : World) (x0 y0 x1 y1 x2 y2 : Int) :
  (Op.equalIn (d + 2) 26 (.agg #[.int .i64 x0, .int .i64 x1, .int .i64 x2]) (.agg #[.int .i64 y0, .int .i64 y1, .int .i64 y2])).run Tryz.prog w = .ok (x0 == y0 && (x1 == y1 && (x2 == y2))) w := by
 refine eqA_of Tryz.underlying26 (by kernel_rfl) ?_
 refine eqf_cons (by rfl) (by go_simp; rfl) (by go_simp; rfl) (by go_simp) ?_
 refine eqf_cons (by rfl) (by go_simp; rfl) (by go_simp; rfl) (by go_simp) ?_
 exact eqf_last (by rfl) (by go_simp; rfl) (by go_simp; rfl) (by go_simp)
theorem eqA29 (d : Nat) (w : World) (x0 y0 x1 y1 : Int) :
  (Op.equalIn (d + 2) 29 (.agg #[.int .i64 x0, .int .i64 x1]) (.agg #[.int .i64 y0, .int .i64 y1])).run Tryz.prog w = .ok (x0 == y0 && (x1 == y1)) w := by
 refine eqA_of Tryz.underlying29 (by kernel_rfl) ?_
 refine eqf_cons (by rfl) (by go_simp; rfl) (by go_simp; rfl) (by go_simp) ?_
 exact eqf_last (by rfl) (by go_simp; rfl) (by go_simp; rfl) (by go_simp)
theorem eqA84 (d : Nat) (w : World) (x0 y0 x1 y1 x2 y2 x3 y3 x4 y4 x5 y5 x6 y6 x7 y7 x8 y8 x9 y9 x10 y10 : Int) (x11 y11 : Bool) (x12 y12 : Int) :
  (Op.equalIn (d + 3) 84 (.agg #[.int .i64 x0, .int .i64 x1, .int .u64 x2, .int .i64 x3, .int .i64 x4, .int .i64 x5, .int .i64 x6, .int .i64 x7, .int .u16 x8, .int .i64 x9, .int .i64 x10, .bool x11, .int .i64 x12]) (.agg #[.int .i64 y0, .int .i64 y1, .int .u64 y2, .int .i64 y3, .int .i64 y4, .int .i64 y5, .int .i64 y6, .int .i64 y7, .int .u16 y8, .int .i64 y9, .int .i64 y10, .bool y11, .int .i64 y12])).run Tryz.prog w = .ok (x0 == y0 && (x1 == y1 && (x2 == y2 && (x3 == y3 && ((x4 == y4 && (x5 == y5 && (x6 == y6))) && (x7 == y7 && (x8 == y8 && ((x9 == y9 && (x10 == y10)) && (x11 == y11 && (x12 == y12)))))))))) w := by
 refine eqA_of Tryz.underlying84 (by kernel_rfl) ?_
 refine eqf_cons (by rfl) (by go_simp; rfl) (by go_simp; rfl) (by go_simp) ?_
 refine eqf_cons (by rfl) (by go_simp; rfl) (by go_simp; rfl) (by go_simp) ?_
 refine eqf_cons (by rfl) (by go_simp; rfl) (by go_simp; rfl) (by go_simp) ?_
 refine eqf_cons (by rfl) (by go_simp; rfl) (by go_simp; rfl) (by go_simp) ?_
 refine eqf_cons (by rfl) (by go_simp) (by go_simp) (eqA26 (d + 0) w _ _ _ _ _ _) ?_
 refine eqf_cons (by rfl) (by go_simp; rfl) (by go_simp; rfl) (by go_simp) ?_
 refine eqf_cons (by rfl) (by go_simp; rfl) (by go_simp; rfl) (by go_simp) ?_
 refine eqf_cons (by rfl) (by go_simp) (by go_simp) (eqA29 (d + 0) w _ _ _ _) ?_
 refine eqf_cons (by rfl) (by go_simp; rfl) (by go_simp; rfl) (by go_simp) ?_
 exact eqf_last (by rfl) (by go_simp; rfl) (by go_simp; rfl) (by go_simp)

set_option maxHeartbeats 8000000
set_option maxRecDepth 100000
open Go.RowKit Go.Proofs.YtcofclkgfandfaaGreatW.PrintWords Go.Proofs.YtcofclkgfandfaaGreatW.PrintLast Go.Proofs.YtcofclkgfandfaaGreatW.PrintMore Go.Proofs.YtcofclkgfandfaaGreatX
attribute [local go_sem] str_lss str_geq max2_int min2_int max_two min_two max_three min_three max_four min_four   -- for this text's walks alone
set_option linter.unusedVariables false
set_option linter.unusedSimpArgs false

attribute [local go_sem high] eqA84
/-! ### slices_Equal_int64_int64: function 42 -/
def slices_Equal_int64_int64.l0 : Nat → List Int → List Int → Int → Int → Option (Bool)
 | 0, _, _, _, _ => none
 | k + 1, x0, x1, x12, x13 => if x13 < x12 then (if 0 ≤ x13 then (if x13 < (x0.length : Int) then (if x13 < (x1.length : Int) then (if (rd x0 x13) = (rd x1 x13) then (slices_Equal_int64_int64.l0 k x0 x1 x12 (wrap64 (x13 + 1))) else (some false)) else (none)) else (none)) else (none)) else (some true)
def slices_Equal_int64_int64.f (k : Nat) (l0 l1 : List Int) : Option (Bool) := if (l0.length : Int) = (l1.length : Int) then (slices_Equal_int64_int64.l0 k l0 l1 (l0.length : Int) 0) else (some false)
theorem slices_Equal_int64_int64.calls (k : Nat) (A0 : Option Addr) (c0 : Nat) (l0 : List Int) (A1 : Option Addr) (c1 : Nat) (l1 : List Int) (r : Bool) (w : World) (hr0 : Kd.C (Kd.int .i64) w A0 l0.length l0) (hc0 : l0.length ≤ c0) (hr1 : Kd.C (Kd.int .i64) w A1 l1.length l1) (hc1 : l1.length ≤ c1) (h : slices_Equal_int64_int64.f k l0 l1 = some r) :
  Calls Tryz.prog 42 #[.slice A0 l0.length c0, .slice A1 l1.length c1] w fun e w' => e = .returned (.bool r) ∧ Drawn0 w w' := by
 have HR0 := asd hr0
 have HC0 := asd hc0
 clear hr0 hc0
 have HR1 := asd hr1
 have HC1 := asd hc1
 clear hr1 hc1
 unfold slices_Equal_int64_int64.f at h
 have H := h
 clear h
 by_cases c3 : (l0.length : Int) = (l1.length : Int)
 ·rw [if_pos c3] at H
  have c3b0 := beq_iff_eq.mpr c3
  have c3b1 := bne_eq_false_iff_eq.mpr c3
  have c3b2 : (l0.length == l1.length) = true := by first | simpa using c3 | (simp at c3 ⊢; omega)
  clear c3
  have H' := asd H
  clear H
  go_enter Tryz.func42, Tryz.ntmps42
  go_wp2
  repeat (go_quiet (fail); try go_wp2)
  go_loopg [13] k (fun kq v13 w' => ∃ (x13_1 : Int), v13 = .int .i64 x13_1 ∧ Aside0 (slices_Equal_int64_int64.l0 kq l0 l1 (l0.length : Int) x13_1 = some r) ∧ Aside0 (kq ≤ k) ∧ Drawn0 w w')
  case atStart => exact ⟨(0), au, H', ⟨Nat.le_refl _⟩, by repeat (first | exact Drawn0.refl _ | apply Drawn0.step)⟩
  case round =>
   clear H'
   try clear c1
   try clear p2
   try clear c3
   try clear c3b0
   try clear c3b1
   try clear c3b2
   obtain ⟨x13_1, rfl, HA, HK1, ⟨m1, rfl⟩⟩ := hrel
   cases gk with
   | zero => exact absurd HA.out (by simp [slices_Equal_int64_int64.l0])
   | succ k1 =>
    have H := HA.out
    clear HA
    simp only [slices_Equal_int64_int64.l0] at H
    by_cases c4 : x13_1 < (l0.length : Int)
    ·rw [if_pos c4] at H
     have c4b0 := decide_eq_true c4
     clear c4
     by_cases c5 : 0 ≤ x13_1
     ·rw [if_pos c5] at H
      have c5b0 := decide_eq_true c5
      clear c5
      by_cases c6 : x13_1 < (l0.length : Int)
      ·rw [if_pos c6] at H
       have c6b0 := decide_eq_true c6
       clear c6
       by_cases c7 : x13_1 < (l1.length : Int)
       ·rw [if_pos c7] at H
        have c7b0 := decide_eq_true c7
        clear c7
        by_cases c8 : (rd l0 x13_1) = (rd l1 x13_1)
        ·rw [if_pos c8] at H
         have c8b0 := beq_iff_eq.mpr c8
         have c8b1 := bne_eq_false_iff_eq.mpr c8
         clear c8
         have H' := asd H
         clear H
         have p101 : 0 ≤ (x13_1 : Int) := of_decide_eq_true (by first | (with_reducible assumption) | assumption)
         have q101 : x13_1 < (l0.length : Int) := of_decide_eq_true (by first | (with_reducible assumption) | assumption)
         obtain ⟨ad101, e101, hx101_0⟩ := Kd.at_int HR0.out x13_1 p101 q101
         cases e101
         replace p101 := eq_true p101
         replace q101 := eq_true q101
         have p102 : 0 ≤ (x13_1 : Int) := of_decide_eq_true (by first | (with_reducible assumption) | assumption)
         have q102 : x13_1 < (l1.length : Int) := of_decide_eq_true (by first | (with_reducible assumption) | assumption)
         obtain ⟨ad102, e102, hx102_0⟩ := Kd.at_int HR1.out x13_1 p102 q102
         cases e102
         replace p102 := eq_true p102
         replace q102 := eq_true q102
         go_wp2
         repeat (go_quiet (fail); try go_wp2)
         go_roundg k1
         case measure => have := HK1.out; omega
         case rel => exact ⟨(wrap64 (x13_1 + 1)), au, H', ⟨by have := HK1.out; omega⟩, by repeat (first | exact Drawn0.refl _ | apply Drawn0.step)⟩
        rw [if_neg c8] at H
        have c8b0 := beq_eq_false_iff_ne.mpr c8
        have c8b1 := bne_iff_ne.mpr c8
        obtain rfl := Option.some.inj H
        have p101 : 0 ≤ (x13_1 : Int) := of_decide_eq_true (by first | (with_reducible assumption) | assumption)
        have q101 : x13_1 < (l0.length : Int) := of_decide_eq_true (by first | (with_reducible assumption) | assumption)
        obtain ⟨ad101, e101, hx101_0⟩ := Kd.at_int HR0.out x13_1 p101 q101
        cases e101
        replace p101 := eq_true p101
        replace q101 := eq_true q101
        have p102 : 0 ≤ (x13_1 : Int) := of_decide_eq_true (by first | (with_reducible assumption) | assumption)
        have q102 : x13_1 < (l1.length : Int) := of_decide_eq_true (by first | (with_reducible assumption) | assumption)
        obtain ⟨ad102, e102, hx102_0⟩ := Kd.at_int HR1.out x13_1 p102 q102
        cases e102
        replace p102 := eq_true p102
        replace q102 := eq_true q102
        go_wp2
        repeat (go_quiet (fail); try go_wp2)
        go_ret
        exact xd
       rw [if_neg c7] at H
       exact absurd H (by simp)
      rw [if_neg c6] at H
      exact absurd H (by simp)
     rw [if_neg c5] at H
     exact absurd H (by simp)
    rw [if_neg c4] at H
    have c4b0 := decide_eq_false c4
    clear c4
    obtain rfl := Option.some.inj H
    go_wp2
    repeat (go_quiet (fail); try go_wp2)
    go_ret
    exact xd
 rw [if_neg c3] at H
 have c3b0 := beq_eq_false_iff_ne.mpr c3
 have c3b1 := bne_iff_ne.mpr c3
 have c3b2 : (l0.length == l1.length) = false := by first | simpa using c3 | (simp at c3 ⊢; omega)
 obtain rfl := Option.some.inj H
 go_enter Tryz.func42, Tryz.ntmps42
 go_wp2
 repeat (go_quiet (fail); try go_wp2)
 go_ret
 exact xd

/-! ### node_Same_1: function 43 -/
def node_Same_1.f (a0_0 a0_1 a0_2 a0_3 a0_4 a0_5 a0_6 a0_7 a0_8 a0_9 a0_10 : Int) (l0_11 : List Int) (a0_12 : Bool) (a0_13 : Int) : Option (Int × Int × Int × Int × Int × Int × Int × Int × Int × Int × Int × Bool × Int) := some (a0_0, a0_1, a0_2, a0_3, a0_4, a0_5, a0_6, a0_7, a0_8, a0_9, a0_10, a0_12, a0_13)
theorem node_Same_1.calls (a0_0 a0_1 a0_2 a0_3 a0_4 a0_5 a0_6 a0_7 a0_8 a0_9 a0_10 : Int) (A0_11 : Option Addr) (c0_11 : Nat) (l0_11 : List Int) (a0_12 : Bool) (a0_13 r1 r2 r3 r4 r5 r6 r7 r8 r9 r10 r11 : Int) (r12 : Bool) (r13 : Int) (w : World) (hr0_11 : Kd.C (Kd.int .i64) w A0_11 l0_11.length l0_11) (hc0_11 : l0_11.length ≤ c0_11) (h : node_Same_1.f a0_0 a0_1 a0_2 a0_3 a0_4 a0_5 a0_6 a0_7 a0_8 a0_9 a0_10 l0_11 a0_12 a0_13 = some (r1, r2, r3, r4, r5, r6, r7, r8, r9, r10, r11, r12, r13)) :
  Calls Tryz.prog 43 #[.agg #[.int .i64 a0_0, .int .i64 a0_1, .int .u64 a0_2, .int .i64 a0_3, .int .i64 a0_4, .int .i64 a0_5, .int .i64 a0_6, .int .i64 a0_7, .int .u16 a0_8, .int .i64 a0_9, .int .i64 a0_10, .slice A0_11 l0_11.length c0_11, .bool a0_12, .int .i64 a0_13]] w fun e w' => e = .returned (.agg #[.int .i64 r1, .int .i64 r2, .int .u64 r3, .int .i64 r4, .int .i64 r5, .int .i64 r6, .int .i64 r7, .int .i64 r8, .int .u16 r9, .int .i64 r10, .int .i64 r11, .bool r12, .int .i64 r13]) ∧ Below w.heap.size w w' := by
 have hu32 := Tryz.underlying32
 have hu84 := Tryz.underlying84
 have hu26 := Tryz.underlying26
 have hu29 := Tryz.underlying29
 have HR0_11 := asd hr0_11
 have HC0_11 := asd hc0_11
 clear hr0_11 hc0_11
 have HB := asd (Below.refl w.heap.size w)
 have H : (some (a0_0, a0_1, a0_2, a0_3, a0_4, a0_5, a0_6, a0_7, a0_8, a0_9, a0_10, a0_12, a0_13)) = some (r1, r2, r3, r4, r5, r6, r7, r8, r9, r10, r11, r12, r13) := h
 clear h
 simp only [Option.some.injEq, Prod.mk.injEq] at H
 obtain ⟨rfl, rfl, rfl, rfl, rfl, rfl, rfl, rfl, rfl, rfl, rfl, rfl, rfl⟩ := H
 go_enter Tryz.func43, Tryz.ntmps43
 go_wp2_with (first | (refine bG 1 #[.int .i64 a0_0, .int .i64 a0_1, .int .u64 a0_2, .int .i64 a0_3, .int .i64 a0_4, .int .i64 a0_5, .int .i64 a0_6, .int .i64 a0_7, .int .u16 a0_8, .int .i64 a0_9, .int .i64 a0_10, .slice A0_11 l0_11.length c0_11, .bool a0_12, .int .i64 a0_13] 32 ?_; intro gb103 hg w2 BK103 hb; have GW103 := bz HB hg; have GE103 := bz HB hg; replace HB := bs HB hb; clear hb hg) | (refine bG 2 #[.int .i64 0, .int .i64 0, .int .u64 0, .int .i64 0, .int .i64 0, .int .i64 0, .int .i64 0, .int .i64 0, .int .u16 0, .int .i64 0, .int .i64 0, .bool false, .int .i64 0] 84 ?_; intro gb104 hg w3 BK104 hb; have GW104 := bz HB hg; have GE104 := bz HB hg; have NB103_104 := nl BK103 hg; have NB104_103 := nr BK103 hg; replace BK103 := bb BK103 hb; replace HB := bs HB hb; clear hb hg; have hnb4 := NB103_104.out; have hnc4 := NB104_103.out; have hcz5 := cf14 BK103; have hcz6 := ca13 BK104))
 refine bodyPost_ret (results_cell_row rfl _ _ gb104 84 #[.int .i64 a0_0, .int .i64 a0_1, .int .u64 a0_2, .int .i64 a0_3, .int .i64 a0_4, .int .i64 a0_5, .int .i64 a0_6, .int .i64 a0_7, .int .u16 a0_8, .int .i64 a0_9, .int .i64 a0_10, .bool a0_12, .int .i64 a0_13] (0, 0) _ rfl (by (with_reducible repeat (first | refine blk_drewN ?_ _ | refine blk_drew ?_ | refine blk_alloc ?_ _)); refine blk_put (cs := #[.int .i64 a0_0, .int .i64 a0_1, .int .u64 a0_2, .int .i64 a0_3, .int .i64 a0_4, .int .i64 a0_5, .int .i64 a0_6, .int .i64 a0_7, .int .u16 a0_8, .int .i64 a0_9, .int .i64 a0_10, .bool a0_12, .int .i64 0]) ?_ 12 _ rfl; (with_reducible repeat (first | refine blk_drewN ?_ _ | refine blk_drew ?_ | refine blk_alloc ?_ _)); refine blk_put (cs := #[.int .i64 a0_0, .int .i64 a0_1, .int .u64 a0_2, .int .i64 a0_3, .int .i64 a0_4, .int .i64 a0_5, .int .i64 a0_6, .int .i64 a0_7, .int .u16 a0_8, .int .i64 a0_9, .int .i64 a0_10, .bool false, .int .i64 0]) ?_ 11 _ rfl; (with_reducible repeat (first | refine blk_drewN ?_ _ | refine blk_drew ?_ | refine blk_alloc ?_ _)); refine blk_put (cs := #[.int .i64 a0_0, .int .i64 a0_1, .int .u64 a0_2, .int .i64 a0_3, .int .i64 a0_4, .int .i64 a0_5, .int .i64 a0_6, .int .i64 a0_7, .int .u16 a0_8, .int .i64 a0_9, .int .i64 0, .bool false, .int .i64 0]) ?_ 10 _ rfl; (with_reducible repeat (first | refine blk_drewN ?_ _ | refine blk_drew ?_ | refine blk_alloc ?_ _)); refine blk_put (cs := #[.int .i64 a0_0, .int .i64 a0_1, .int .u64 a0_2, .int .i64 a0_3, .int .i64 a0_4, .int .i64 a0_5, .int .i64 a0_6, .int .i64 a0_7, .int .u16 a0_8, .int .i64 0, .int .i64 0, .bool false, .int .i64 0]) ?_ 9 _ rfl; (with_reducible repeat (first | refine blk_drewN ?_ _ | refine blk_drew ?_ | refine blk_alloc ?_ _)); refine blk_put (cs := #[.int .i64 a0_0, .int .i64 a0_1, .int .u64 a0_2, .int .i64 a0_3, .int .i64 a0_4, .int .i64 a0_5, .int .i64 a0_6, .int .i64 a0_7, .int .u16 0, .int .i64 0, .int .i64 0, .bool false, .int .i64 0]) ?_ 8 _ rfl; (with_reducible repeat (first | refine blk_drewN ?_ _ | refine blk_drew ?_ | refine blk_alloc ?_ _)); refine blk_put (cs := #[.int .i64 a0_0, .int .i64 a0_1, .int .u64 a0_2, .int .i64 a0_3, .int .i64 a0_4, .int .i64 a0_5, .int .i64 a0_6, .int .i64 0, .int .u16 0, .int .i64 0, .int .i64 0, .bool false, .int .i64 0]) ?_ 7 _ rfl; (with_reducible repeat (first | refine blk_drewN ?_ _ | refine blk_drew ?_ | refine blk_alloc ?_ _)); refine blk_put (cs := #[.int .i64 a0_0, .int .i64 a0_1, .int .u64 a0_2, .int .i64 a0_3, .int .i64 a0_4, .int .i64 a0_5, .int .i64 0, .int .i64 0, .int .u16 0, .int .i64 0, .int .i64 0, .bool false, .int .i64 0]) ?_ 6 _ rfl; (with_reducible repeat (first | refine blk_drewN ?_ _ | refine blk_drew ?_ | refine blk_alloc ?_ _)); refine blk_put (cs := #[.int .i64 a0_0, .int .i64 a0_1, .int .u64 a0_2, .int .i64 a0_3, .int .i64 a0_4, .int .i64 0, .int .i64 0, .int .i64 0, .int .u16 0, .int .i64 0, .int .i64 0, .bool false, .int .i64 0]) ?_ 5 _ rfl; (with_reducible repeat (first | refine blk_drewN ?_ _ | refine blk_drew ?_ | refine blk_alloc ?_ _)); refine blk_put (cs := #[.int .i64 a0_0, .int .i64 a0_1, .int .u64 a0_2, .int .i64 a0_3, .int .i64 0, .int .i64 0, .int .i64 0, .int .i64 0, .int .u16 0, .int .i64 0, .int .i64 0, .bool false, .int .i64 0]) ?_ 4 _ rfl; (with_reducible repeat (first | refine blk_drewN ?_ _ | refine blk_drew ?_ | refine blk_alloc ?_ _)); refine blk_put (cs := #[.int .i64 a0_0, .int .i64 a0_1, .int .u64 a0_2, .int .i64 0, .int .i64 0, .int .i64 0, .int .i64 0, .int .i64 0, .int .u16 0, .int .i64 0, .int .i64 0, .bool false, .int .i64 0]) ?_ 3 _ rfl; (with_reducible repeat (first | refine blk_drewN ?_ _ | refine blk_drew ?_ | refine blk_alloc ?_ _)); refine blk_put (cs := #[.int .i64 a0_0, .int .i64 a0_1, .int .u64 0, .int .i64 0, .int .i64 0, .int .i64 0, .int .i64 0, .int .i64 0, .int .u16 0, .int .i64 0, .int .i64 0, .bool false, .int .i64 0]) ?_ 2 _ rfl; (with_reducible repeat (first | refine blk_drewN ?_ _ | refine blk_drew ?_ | refine blk_alloc ?_ _)); refine blk_put (cs := #[.int .i64 a0_0, .int .i64 0, .int .u64 0, .int .i64 0, .int .i64 0, .int .i64 0, .int .i64 0, .int .i64 0, .int .u16 0, .int .i64 0, .int .i64 0, .bool false, .int .i64 0]) ?_ 1 _ rfl; (with_reducible repeat (first | refine blk_drewN ?_ _ | refine blk_drew ?_ | refine blk_alloc ?_ _)); refine blk_put (cs := #[.int .i64 0, .int .i64 0, .int .u64 0, .int .i64 0, .int .i64 0, .int .i64 0, .int .i64 0, .int .i64 0, .int .u16 0, .int .i64 0, .int .i64 0, .bool false, .int .i64 0]) ?_ 0 _ rfl; (with_reducible repeat (first | refine blk_drewN ?_ _ | refine blk_drew ?_ | refine blk_alloc ?_ _)); exact BK104.out) Tryz.underlying84 rfl (by kernel_rfl)) rfl ?_
 exact xo (bse HB)

/-! ### node_Same: function 11 -/
def node_Same.f (k : Nat) (a0_0 a0_1 a0_2 a0_3 a0_4 a0_5 a0_6 a0_7 a0_8 a0_9 a0_10 : Int) (l0_11 : List Int) (a0_12 : Bool) (a0_13 a1_0 a1_1 a1_2 a1_3 a1_4 a1_5 a1_6 a1_7 a1_8 a1_9 a1_10 : Int) (l1_11 : List Int) (a1_12 : Bool) (a1_13 : Int) : Option (Bool) := (slices_Equal_int64_int64.f k l0_11 l1_11).bind fun t107 => (if t107 = true then ((node_Same_1.f a0_0 a0_1 a0_2 a0_3 a0_4 a0_5 a0_6 a0_7 a0_8 a0_9 a0_10 l0_11 a0_12 a0_13).bind fun bt108 => ((node_Same_1.f a1_0 a1_1 a1_2 a1_3 a1_4 a1_5 a1_6 a1_7 a1_8 a1_9 a1_10 l1_11 a1_12 a1_13).bind fun bt121 => (some (bt108.1 == bt121.1 && (bt108.2.1 == bt121.2.1 && (bt108.2.2.1 == bt121.2.2.1 && (bt108.2.2.2.1 == bt121.2.2.2.1 && ((bt108.2.2.2.2.1 == bt121.2.2.2.2.1 && (bt108.2.2.2.2.2.1 == bt121.2.2.2.2.2.1 && (bt108.2.2.2.2.2.2.1 == bt121.2.2.2.2.2.2.1))) && (bt108.2.2.2.2.2.2.2.1 == bt121.2.2.2.2.2.2.2.1 && (bt108.2.2.2.2.2.2.2.2.1 == bt121.2.2.2.2.2.2.2.2.1 && ((bt108.2.2.2.2.2.2.2.2.2.1 == bt121.2.2.2.2.2.2.2.2.2.1 && (bt108.2.2.2.2.2.2.2.2.2.2.1 == bt121.2.2.2.2.2.2.2.2.2.2.1)) && (bt108.2.2.2.2.2.2.2.2.2.2.2.1 == bt121.2.2.2.2.2.2.2.2.2.2.2.1 && (bt108.2.2.2.2.2.2.2.2.2.2.2.2 == bt121.2.2.2.2.2.2.2.2.2.2.2.2))))))))))))) else (some false))
def node_Same.T4 : Bool × List (List Nat × List Nat) := (true, [([], []), ([], []), ([0, 1], [0, 1]), ([], []), ([], []), ([3, 4, 2], [3, 4]), ([2, 5], [2, 5]), ([6, 5, 0, 1, 2, 3, 4, 5, 6], [6])])
def node_Same.B4 : List Nat := [0, 0, 3, 0, 0, 31, 63, 127]
theorem node_Same.tab4 : rtab .any (opsOf Tryz.f11 4) = node_Same.T4 := by kernel_rfl
theorem node_Same.bits4 : waitsOk node_Same.T4.2 node_Same.B4 = true := by kernel_rfl
theorem node_Same.calls (k : Nat) (a0_0 a0_1 a0_2 a0_3 a0_4 a0_5 a0_6 a0_7 a0_8 a0_9 a0_10 : Int) (A0_11 : Option Addr) (c0_11 : Nat) (l0_11 : List Int) (a0_12 : Bool) (a0_13 a1_0 a1_1 a1_2 a1_3 a1_4 a1_5 a1_6 a1_7 a1_8 a1_9 a1_10 : Int) (A1_11 : Option Addr) (c1_11 : Nat) (l1_11 : List Int) (a1_12 : Bool) (a1_13 : Int) (r : Bool) (w : World) (hr0_11 : Kd.C (Kd.int .i64) w A0_11 l0_11.length l0_11) (hc0_11 : l0_11.length ≤ c0_11) (hr1_11 : Kd.C (Kd.int .i64) w A1_11 l1_11.length l1_11) (hc1_11 : l1_11.length ≤ c1_11) (h : node_Same.f k a0_0 a0_1 a0_2 a0_3 a0_4 a0_5 a0_6 a0_7 a0_8 a0_9 a0_10 l0_11 a0_12 a0_13 a1_0 a1_1 a1_2 a1_3 a1_4 a1_5 a1_6 a1_7 a1_8 a1_9 a1_10 l1_11 a1_12 a1_13 = some r) :
  Calls Tryz.prog 11 #[.agg #[.int .i64 a0_0, .int .i64 a0_1, .int .u64 a0_2, .int .i64 a0_3, .int .i64 a0_4, .int .i64 a0_5, .int .i64 a0_6, .int .i64 a0_7, .int .u16 a0_8, .int .i64 a0_9, .int .i64 a0_10, .slice A0_11 l0_11.length c0_11, .bool a0_12, .int .i64 a0_13], .agg #[.int .i64 a1_0, .int .i64 a1_1, .int .u64 a1_2, .int .i64 a1_3, .int .i64 a1_4, .int .i64 a1_5, .int .i64 a1_6, .int .i64 a1_7, .int .u16 a1_8, .int .i64 a1_9, .int .i64 a1_10, .slice A1_11 l1_11.length c1_11, .bool a1_12, .int .i64 a1_13]] w fun e w' => e = .returned (.bool r) ∧ Below w.heap.size w w' := by
 have hu32 := Tryz.underlying32
 have HR0_11 := asd hr0_11
 have HC0_11 := asd hc0_11
 clear hr0_11 hc0_11
 have HR1_11 := asd hr1_11
 have HC1_11 := asd hc1_11
 clear hr1_11 hc1_11
 have HB := asd (Below.refl w.heap.size w)
 unfold node_Same.f at h
 have H := h
 clear h
 obtain ⟨t107, A3, H⟩ := bio H
 by_cases c4 : t107 = true
 ·subst c4
  rw [if_pos rfl] at H
  obtain ⟨⟨t108, t109, t110, t111, t112, t113, t114, t115, t116, t117, t118, t119, t120⟩, A5, H⟩ := bio H
  try dsimp only at H
  obtain ⟨⟨t121, t122, t123, t124, t125, t126, t127, t128, t129, t130, t131, t132, t133⟩, A6, H⟩ := bio H
  try dsimp only at H
  obtain rfl := Option.some.inj H
  go_enter Tryz.func11, Tryz.ntmps11
  try go_wp2_with (first | (refine bG 2 #[.int .i64 a0_0, .int .i64 a0_1, .int .u64 a0_2, .int .i64 a0_3, .int .i64 a0_4, .int .i64 a0_5, .int .i64 a0_6, .int .i64 a0_7, .int .u16 a0_8, .int .i64 a0_9, .int .i64 a0_10, .slice A0_11 l0_11.length c0_11, .bool a0_12, .int .i64 a0_13] 32 ?_; intro gb105 hg w7 BK105 hb; have GW105 := bz HB hg; have GE105 := bz HB hg; replace HB := bs HB hb; clear hb hg) | (refine bG 3 #[.int .i64 a1_0, .int .i64 a1_1, .int .u64 a1_2, .int .i64 a1_3, .int .i64 a1_4, .int .i64 a1_5, .int .i64 a1_6, .int .i64 a1_7, .int .u16 a1_8, .int .i64 a1_9, .int .i64 a1_10, .slice A1_11 l1_11.length c1_11, .bool a1_12, .int .i64 a1_13] 32 ?_; intro gb106 hg w8 BK106 hb; have GW106 := bz HB hg; have GE106 := bz HB hg; have NB105_106 := nl BK105 hg; have NB106_105 := nr BK105 hg; replace BK105 := bb BK105 hb; replace HB := bs HB hb; clear hb hg; have hnb9 := NB105_106.out; have hnc9 := NB106_105.out; have hcz10 := cf14 BK105; have hcz11 := cf14 BK106) | ((with_reducible refine gate_callee (f := 42) rfl ?_); refine gC (some 10) Tryz.func42 (slices_Equal_int64_int64.calls k A0_11 c0_11 l0_11 A1_11 c1_11 l1_11 true _ ?side1 ?side2 ?side3 ?side4 A3.out) ?_; (case side1 => exact cb HR0_11 HB); (case side2 => exact HC0_11.out); (case side3 => exact cb HR1_11 HB); (case side4 => exact HC1_11.out); rintro e w' ⟨rfl, ⟨nd, rfl⟩⟩; refine ⟨_, rfl, ?_⟩))
  (try (rw [drewN_self w8]; generalize hq_ : World.drewN w8 _ = w8; have n0_ : Aside0 (w8.heap[gb105]? = some (.cells #[.int .i64 a0_0, .int .i64 a0_1, .int .u64 a0_2, .int .i64 a0_3, .int .i64 a0_4, .int .i64 a0_5, .int .i64 a0_6, .int .i64 a0_7, .int .u16 a0_8, .int .i64 a0_9, .int .i64 a0_10, .slice A0_11 l0_11.length c0_11, .bool a0_12, .int .i64 a0_13] 32 (0, 0))) := ⟨by rw [← hq_]; exact (be BK105).out⟩; have n1_ : Aside0 (w8.heap[gb106]? = some (.cells #[.int .i64 a1_0, .int .i64 a1_1, .int .u64 a1_2, .int .i64 a1_3, .int .i64 a1_4, .int .i64 a1_5, .int .i64 a1_6, .int .i64 a1_7, .int .u16 a1_8, .int .i64 a1_9, .int .i64 a1_10, .slice A1_11 l1_11.length c1_11, .bool a1_12, .int .i64 a1_13] 32 (0, 0))) := ⟨by rw [← hq_]; exact (be BK106).out⟩; have n2_ : Aside0 (Below w.heap.size w w8) := ⟨by rw [← hq_]; exact (bse HB)⟩; clear BK105 BK106 HB hq_; have BK105 := n0_; have BK106 := n1_; have HB := n2_; clear n0_ n1_ n2_))
  replace BK105 := asd (blk_drew BK105.out)
  replace BK106 := asd (blk_drew BK106.out)
  replace HB := asd (below_drew1 HB.out)
  refine start_ (n := 8) (S := fun w' => w'.cell? ⟨gb105, 0, none⟩ = some (.int .i64 a0_0) ∧ w'.cell? ⟨gb105, 1, none⟩ = some (.int .i64 a0_1) ∧ w'.cell? ⟨gb105, 2, none⟩ = some (.int .u64 a0_2) ∧ w'.cell? ⟨gb105, 3, none⟩ = some (.int .i64 a0_3) ∧ w'.cell? ⟨gb105, 4, none⟩ = some (.int .i64 a0_4) ∧ w'.cell? ⟨gb105, 5, none⟩ = some (.int .i64 a0_5) ∧ w'.cell? ⟨gb105, 6, none⟩ = some (.int .i64 a0_6) ∧ w'.cell? ⟨gb105, 7, none⟩ = some (.int .i64 a0_7) ∧ w'.cell? ⟨gb105, 8, none⟩ = some (.int .u16 a0_8) ∧ w'.cell? ⟨gb105, 9, none⟩ = some (.int .i64 a0_9) ∧ w'.cell? ⟨gb105, 10, none⟩ = some (.int .i64 a0_10) ∧ w'.cell? ⟨gb105, 11, none⟩ = some (.slice A0_11 l0_11.length c0_11) ∧ w'.cell? ⟨gb105, 12, none⟩ = some (.bool a0_12) ∧ w'.cell? ⟨gb105, 13, none⟩ = some (.int .i64 a0_13) ∧ w'.cell? ⟨gb106, 0, none⟩ = some (.int .i64 a1_0) ∧ w'.cell? ⟨gb106, 1, none⟩ = some (.int .i64 a1_1) ∧ w'.cell? ⟨gb106, 2, none⟩ = some (.int .u64 a1_2) ∧ w'.cell? ⟨gb106, 3, none⟩ = some (.int .i64 a1_3) ∧ w'.cell? ⟨gb106, 4, none⟩ = some (.int .i64 a1_4) ∧ w'.cell? ⟨gb106, 5, none⟩ = some (.int .i64 a1_5) ∧ w'.cell? ⟨gb106, 6, none⟩ = some (.int .i64 a1_6) ∧ w'.cell? ⟨gb106, 7, none⟩ = some (.int .i64 a1_7) ∧ w'.cell? ⟨gb106, 8, none⟩ = some (.int .u16 a1_8) ∧ w'.cell? ⟨gb106, 9, none⟩ = some (.int .i64 a1_9) ∧ w'.cell? ⟨gb106, 10, none⟩ = some (.int .i64 a1_10) ∧ w'.cell? ⟨gb106, 11, none⟩ = some (.slice A1_11 l1_11.length c1_11) ∧ w'.cell? ⟨gb106, 12, none⟩ = some (.bool a1_12) ∧ w'.cell? ⟨gb106, 13, none⟩ = some (.int .i64 a1_13)) (ds := []) (fb 8 0) (by kernel_rfl) rfl rfl ⟨(blk_cell BK105.out 0).trans rfl, (blk_cell BK105.out 1).trans rfl, (blk_cell BK105.out 2).trans rfl, (blk_cell BK105.out 3).trans rfl, (blk_cell BK105.out 4).trans rfl, (blk_cell BK105.out 5).trans rfl, (blk_cell BK105.out 6).trans rfl, (blk_cell BK105.out 7).trans rfl, (blk_cell BK105.out 8).trans rfl, (blk_cell BK105.out 9).trans rfl, (blk_cell BK105.out 10).trans rfl, (blk_cell BK105.out 11).trans rfl, (blk_cell BK105.out 12).trans rfl, (blk_cell BK105.out 13).trans rfl, (blk_cell BK106.out 0).trans rfl, (blk_cell BK106.out 1).trans rfl, (blk_cell BK106.out 2).trans rfl, (blk_cell BK106.out 3).trans rfl, (blk_cell BK106.out 4).trans rfl, (blk_cell BK106.out 5).trans rfl, (blk_cell BK106.out 6).trans rfl, (blk_cell BK106.out 7).trans rfl, (blk_cell BK106.out 8).trans rfl, (blk_cell BK106.out 9).trans rfl, (blk_cell BK106.out 10).trans rfl, (blk_cell BK106.out 11).trans rfl, (blk_cell BK106.out 12).trans rfl, (blk_cell BK106.out 13).trans rfl⟩ (fun hHeld => ?_); refine with_tabW node_Same.tab4 node_Same.bits4 (fun HT_ HW_ => ?_)
  generalize w8.drew = w12 at BK105 BK106 HB hHeld ⊢
  refine pi 0 12 8 1 ?_ (hc := any_of HT_.out (by kernel_rfl))
  refine pi 3 15 8 9 ?_ (hc := any_of HT_.out (by kernel_rfl))
  refine ti 1 13 8 11 hHeld ?_ (hc := take_ofW HT_.out HW_.out (by kernel_rfl))
  refine ti 4 16 8 27 hHeld ?_ (hc := take_ofW HT_.out HW_.out (by kernel_rfl))
  refine one_ (i := 2) (N := some 14) (fb 8 31) rfl rfl (one_of HT_.out (by kernel_rfl)) (by decide) (fun K hK => ?_)
  refine goesV_ Tryz.func43 (by kernel_rfl) rfl #[.agg #[.int .i64 a0_0, .int .i64 a0_1, .int .u64 a0_2, .int .i64 a0_3, .int .i64 a0_4, .int .i64 a0_5, .int .i64 a0_6, .int .i64 a0_7, .int .u16 a0_8, .int .i64 a0_9, .int .i64 a0_10, .slice A0_11 l0_11.length c0_11, .bool a0_12, .int .i64 a0_13]] (by rfl) rfl rfl (by first | rfl | (simp; done) | (go_simp; done)) (by (try simp only [List.map_toArray, List.map_cons, List.map_nil]); first | done | rfl | (simp only [List.length_drop, List.length_take]; first | rfl | (rw [Nat.min_eq_left (Int.toNat_le.2 (of_decide_eq_true (by assumption)))]; rfl))) ?_
  with_reducible refine (node_Same_1.calls a0_0 a0_1 a0_2 a0_3 a0_4 a0_5 a0_6 a0_7 a0_8 a0_9 a0_10 _ _ l0_11 a0_12 a0_13 t108 t109 t110 t111 t112 t113 t114 t115 t116 t117 t118 t119 t120 _ ?side1 ?side2 A5.out).mono ?_
  (case side1 => exact cb HR0_11 HB)
  (case side2 => exact HC0_11.out)
  rintro e w13 ⟨rfl, hb⟩
  refine ⟨_, rfl, ?_⟩
  replace BK105 := bb BK105 hb
  replace BK106 := bb BK106 hb
  replace HB := bs HB hb
  (try clear hb)
  (try clear hb2)
  (try clear hk)
  (try clear hi)
  refine hK.out _ _ ⟨(blk_cell BK105.out 0).trans rfl, (blk_cell BK105.out 1).trans rfl, (blk_cell BK105.out 2).trans rfl, (blk_cell BK105.out 3).trans rfl, (blk_cell BK105.out 4).trans rfl, (blk_cell BK105.out 5).trans rfl, (blk_cell BK105.out 6).trans rfl, (blk_cell BK105.out 7).trans rfl, (blk_cell BK105.out 8).trans rfl, (blk_cell BK105.out 9).trans rfl, (blk_cell BK105.out 10).trans rfl, (blk_cell BK105.out 11).trans rfl, (blk_cell BK105.out 12).trans rfl, (blk_cell BK105.out 13).trans rfl, (blk_cell BK106.out 0).trans rfl, (blk_cell BK106.out 1).trans rfl, (blk_cell BK106.out 2).trans rfl, (blk_cell BK106.out 3).trans rfl, (blk_cell BK106.out 4).trans rfl, (blk_cell BK106.out 5).trans rfl, (blk_cell BK106.out 6).trans rfl, (blk_cell BK106.out 7).trans rfl, (blk_cell BK106.out 8).trans rfl, (blk_cell BK106.out 9).trans rfl, (blk_cell BK106.out 10).trans rfl, (blk_cell BK106.out 11).trans rfl, (blk_cell BK106.out 12).trans rfl, (blk_cell BK106.out 13).trans rfl⟩ (fun hHeld => ?_)
  clear hK K
  refine norm_ (a' := ?_) ?_ ?_
  rotate_left
  ·show Act.put _ (some 14) _ = _
   simp only [Act.put, List.setIfInBounds_toArray, List.set_cons_zero, List.set_cons_succ, i64_w, i32_w]
   rfl
  refine one_ (i := 5) (N := some 17) (fb 8 63) rfl rfl (one_of HT_.out (by kernel_rfl)) (by decide) (fun K hK => ?_)
  refine goesV_ Tryz.func43 (by kernel_rfl) rfl #[.agg #[.int .i64 a1_0, .int .i64 a1_1, .int .u64 a1_2, .int .i64 a1_3, .int .i64 a1_4, .int .i64 a1_5, .int .i64 a1_6, .int .i64 a1_7, .int .u16 a1_8, .int .i64 a1_9, .int .i64 a1_10, .slice A1_11 l1_11.length c1_11, .bool a1_12, .int .i64 a1_13]] (by rfl) rfl rfl (by first | rfl | (simp; done) | (go_simp; done)) (by (try simp only [List.map_toArray, List.map_cons, List.map_nil]); first | done | rfl | (simp only [List.length_drop, List.length_take]; first | rfl | (rw [Nat.min_eq_left (Int.toNat_le.2 (of_decide_eq_true (by assumption)))]; rfl))) ?_
  with_reducible refine (node_Same_1.calls a1_0 a1_1 a1_2 a1_3 a1_4 a1_5 a1_6 a1_7 a1_8 a1_9 a1_10 _ _ l1_11 a1_12 a1_13 t121 t122 t123 t124 t125 t126 t127 t128 t129 t130 t131 t132 t133 _ ?side1 ?side2 A6.out).mono ?_
  (case side1 => exact cb HR1_11 HB)
  (case side2 => exact HC1_11.out)
  rintro e w14 ⟨rfl, hb⟩
  refine ⟨_, rfl, ?_⟩
  replace BK105 := bb BK105 hb
  replace BK106 := bb BK106 hb
  replace HB := bs HB hb
  (try clear hb)
  (try clear hb2)
  (try clear hk)
  (try clear hi)
  refine hK.out _ _ ⟨(blk_cell BK105.out 0).trans rfl, (blk_cell BK105.out 1).trans rfl, (blk_cell BK105.out 2).trans rfl, (blk_cell BK105.out 3).trans rfl, (blk_cell BK105.out 4).trans rfl, (blk_cell BK105.out 5).trans rfl, (blk_cell BK105.out 6).trans rfl, (blk_cell BK105.out 7).trans rfl, (blk_cell BK105.out 8).trans rfl, (blk_cell BK105.out 9).trans rfl, (blk_cell BK105.out 10).trans rfl, (blk_cell BK105.out 11).trans rfl, (blk_cell BK105.out 12).trans rfl, (blk_cell BK105.out 13).trans rfl, (blk_cell BK106.out 0).trans rfl, (blk_cell BK106.out 1).trans rfl, (blk_cell BK106.out 2).trans rfl, (blk_cell BK106.out 3).trans rfl, (blk_cell BK106.out 4).trans rfl, (blk_cell BK106.out 5).trans rfl, (blk_cell BK106.out 6).trans rfl, (blk_cell BK106.out 7).trans rfl, (blk_cell BK106.out 8).trans rfl, (blk_cell BK106.out 9).trans rfl, (blk_cell BK106.out 10).trans rfl, (blk_cell BK106.out 11).trans rfl, (blk_cell BK106.out 12).trans rfl, (blk_cell BK106.out 13).trans rfl⟩ (fun hHeld => ?_)
  clear hK K
  refine norm_ (a' := ?_) ?_ ?_
  rotate_left
  ·show Act.put _ (some 17) _ = _
   simp only [Act.put, List.setIfInBounds_toArray, List.set_cons_zero, List.set_cons_succ, i64_w, i32_w]
   rfl
  refine pi 6 18 8 127 ?_ (hc := any_of HT_.out (by kernel_rfl))
  refine pi 7 4 8 255 ?_ (hc := any_of HT_.out (by kernel_rfl))
  refine done_ (done_of HT_.out (by kernel_rfl)) ?_
  try go_wp2
  go_ret
  exact xo (bse HB)
 replace c4 := Bool.eq_false_iff.mpr c4
 subst c4
 rw [if_neg (show ¬ (false = true) by decide)] at H
 obtain rfl := Option.some.inj H
 go_enter Tryz.func11, Tryz.ntmps11
 go_wp2_with (first | (refine bG 2 #[.int .i64 a0_0, .int .i64 a0_1, .int .u64 a0_2, .int .i64 a0_3, .int .i64 a0_4, .int .i64 a0_5, .int .i64 a0_6, .int .i64 a0_7, .int .u16 a0_8, .int .i64 a0_9, .int .i64 a0_10, .slice A0_11 l0_11.length c0_11, .bool a0_12, .int .i64 a0_13] 32 ?_; intro gb105 hg w15 BK105 hb; have GW105 := bz HB hg; have GE105 := bz HB hg; replace HB := bs HB hb; clear hb hg) | (refine bG 3 #[.int .i64 a1_0, .int .i64 a1_1, .int .u64 a1_2, .int .i64 a1_3, .int .i64 a1_4, .int .i64 a1_5, .int .i64 a1_6, .int .i64 a1_7, .int .u16 a1_8, .int .i64 a1_9, .int .i64 a1_10, .slice A1_11 l1_11.length c1_11, .bool a1_12, .int .i64 a1_13] 32 ?_; intro gb106 hg w16 BK106 hb; have GW106 := bz HB hg; have GE106 := bz HB hg; have NB105_106 := nl BK105 hg; have NB106_105 := nr BK105 hg; replace BK105 := bb BK105 hb; replace HB := bs HB hb; clear hb hg; have hnb17 := NB105_106.out; have hnc17 := NB106_105.out; have hcz18 := cf14 BK105; have hcz19 := cf14 BK106) | ((with_reducible refine gate_callee (f := 42) rfl ?_); refine gC (some 10) Tryz.func42 (slices_Equal_int64_int64.calls k A0_11 c0_11 l0_11 A1_11 c1_11 l1_11 false _ ?side1 ?side2 ?side3 ?side4 A3.out) ?_; (case side1 => exact cb HR0_11 HB); (case side2 => exact HC0_11.out); (case side3 => exact cb HR1_11 HB); (case side4 => exact HC1_11.out); rintro e w' ⟨rfl, ⟨nd, rfl⟩⟩; refine ⟨_, rfl, ?_⟩))
 go_ret
 exact xo (bse HB)

/-! ### node_within_int64: function 30 -/
def node_within_int64.f (a0 a1 a2 : Int) : Option (Bool) := if a0 ≥ a1 then (some (decide (a0 ≤ a2))) else (some false)
theorem node_within_int64.calls (a0 a1 a2 : Int) (r : Bool) (w : World) (h : node_within_int64.f a0 a1 a2 = some r) :
  Calls Tryz.prog 30 #[.int .i64 a0, .int .i64 a1, .int .i64 a2] w fun e w' => e = .returned (.bool r) ∧ Drawn0 w w' := by
 unfold node_within_int64.f at h
 have H := h
 clear h
 by_cases c4 : a0 ≥ a1
 ·rw [if_pos c4] at H
  have c4b0 := decide_eq_true c4
  clear c4
  obtain rfl := Option.some.inj H
  go_enter Tryz.func30, Tryz.ntmps30
  go_wp2
  go_ret
  exact xd
 rw [if_neg c4] at H
 have c4b0 := decide_eq_false c4
 clear c4
 obtain rfl := Option.some.inj H
 go_enter Tryz.func30, Tryz.ntmps30
 go_wp2
 go_ret
 exact xd

-- NOT PRINTED: function 29 (node_Check_1)


set_option maxHeartbeats 8000000
set_option maxRecDepth 100000
open Go.RowKit Go.Proofs.YtcofclkgfandfaaGreatW.PrintWords Go.Proofs.YtcofclkgfandfaaGreatW.PrintLast Go.Proofs.YtcofclkgfandfaaGreatW.PrintMore Go.Proofs.YtcofclkgfandfaaGreatX
attribute [local go_sem] str_lss str_geq max2_int min2_int max_two min_two max_three min_three max_four min_four   -- for this text's walks alone
set_option linter.unusedVariables false
set_option linter.unusedSimpArgs false

/-! ### medl_within: function 75 -/
def medl_within.f (a0 a1 a2 : Int) : Option (Bool) := if a0 ≥ a1 then (some (decide (a0 ≤ a2))) else (some false)
theorem medl_within.calls (a0 a1 a2 : Int) (r : Bool) (w : World) (h : medl_within.f a0 a1 a2 = some r) :
  Calls Tryz.prog 75 #[.int .i64 a0, .int .i64 a1, .int .i64 a2] w fun e w' => e = .returned (.bool r) ∧ Drawn0 w w' := by
 unfold medl_within.f at h
 have H := h
 clear h
 by_cases c4 : a0 ≥ a1
 ·rw [if_pos c4] at H
  have c4b0 := decide_eq_true c4
  clear c4
  obtain rfl := Option.some.inj H
  go_enter Tryz.func75, Tryz.ntmps75
  go_wp2
  go_ret
  exact xd
 rw [if_neg c4] at H
 have c4b0 := decide_eq_false c4
 clear c4
 obtain rfl := Option.some.inj H
 go_enter Tryz.func75, Tryz.ntmps75
 go_wp2
 go_ret
 exact xd

/-! ### medl_Check: function 31 -/
/-- May a schedule be? -/
def medl_Check.f (a0_0 a0_1 a0_2 a0_3 a0_4 : Int) : Option Int := some (if 2 ≤ a0_0 ∧ a0_0 ≤ 16 ∧ 16 ≤ a0_1 ∧ a0_1 ≤ 1048576 ∧ 1 ≤ a0_2 ∧ a0_2 ≤ a0_1 ∧ 1 ≤ a0_3 ∧ a0_3 ≤ a0_1 ∧ 1 ≤ a0_4 ∧ a0_4 ≤ a0_1 ∧ a0_4 ≤ a0_2 ∧ a0_2 + a0_3 + a0_4 < a0_1 then 0 else 1)
theorem medl_Check.w0 (a0_0 a0_1 a0_2 a0_3 a0_4 : Int) (w : World)  (c0 : decide (2 ≤ a0_0) = false) :
  Calls Tryz.prog 31 #[.agg #[.int .i64 a0_0, .int .i64 a0_1, .int .i64 a0_2, .int .i64 a0_3, .int .i64 a0_4]] w fun e w' => e = .returned (.int .i64 1) ∧ Below w.heap.size w w' := by
 have hu := Tryz.underlying23
 have i0 : ∀ w : World, (Instr.index 107 (.agg #[.int .i64 a0_2, .int .i64 a0_3, .int .i64 a0_4]) (.int .i64 0)).run Tryz.prog w = .ok (.int .i64 a0_2) w := fun _ => by kernel_rfl
 have i1 : ∀ w : World, (Instr.index 107 (.agg #[.int .i64 a0_2, .int .i64 a0_3, .int .i64 a0_4]) (.int .i64 1)).run Tryz.prog w = .ok (.int .i64 a0_3) w := fun _ => by kernel_rfl
 have i2 : ∀ w : World, (Instr.index 107 (.agg #[.int .i64 a0_2, .int .i64 a0_3, .int .i64 a0_4]) (.int .i64 2)).run Tryz.prog w = .ok (.int .i64 a0_4) w := fun _ => by kernel_rfl
 go_enter Tryz.func31, Tryz.ntmps31
 go_wp2
 refine wp_loop_rounds 4 ?_
 rw [rounds_succ]
 go_wp2
 rw [rounds_succ]
 go_wp2
 rw [rounds_succ]
 go_wp2
 rw [rounds_succ]
 go_wp2
 go_ret
 exact ⟨rfl, below_alloc (Below.refl _ _) _⟩
theorem medl_Check.w1 (a0_0 a0_1 a0_2 a0_3 a0_4 : Int) (w : World) (c0 : decide (2 ≤ a0_0) = true) (c1 : decide (a0_0 ≤ 16) = false) :
  Calls Tryz.prog 31 #[.agg #[.int .i64 a0_0, .int .i64 a0_1, .int .i64 a0_2, .int .i64 a0_3, .int .i64 a0_4]] w fun e w' => e = .returned (.int .i64 1) ∧ Below w.heap.size w w' := by
 have hu := Tryz.underlying23
 have i0 : ∀ w : World, (Instr.index 107 (.agg #[.int .i64 a0_2, .int .i64 a0_3, .int .i64 a0_4]) (.int .i64 0)).run Tryz.prog w = .ok (.int .i64 a0_2) w := fun _ => by kernel_rfl
 have i1 : ∀ w : World, (Instr.index 107 (.agg #[.int .i64 a0_2, .int .i64 a0_3, .int .i64 a0_4]) (.int .i64 1)).run Tryz.prog w = .ok (.int .i64 a0_3) w := fun _ => by kernel_rfl
 have i2 : ∀ w : World, (Instr.index 107 (.agg #[.int .i64 a0_2, .int .i64 a0_3, .int .i64 a0_4]) (.int .i64 2)).run Tryz.prog w = .ok (.int .i64 a0_4) w := fun _ => by kernel_rfl
 go_enter Tryz.func31, Tryz.ntmps31
 go_wp2
 refine wp_loop_rounds 4 ?_
 rw [rounds_succ]
 go_wp2
 rw [rounds_succ]
 go_wp2
 rw [rounds_succ]
 go_wp2
 rw [rounds_succ]
 go_wp2
 go_ret
 exact ⟨rfl, below_alloc (Below.refl _ _) _⟩
theorem medl_Check.w2 (a0_0 a0_1 a0_2 a0_3 a0_4 : Int) (w : World) (c0 : decide (2 ≤ a0_0) = true) (c1 : decide (a0_0 ≤ 16) = true) (c2 : decide (16 ≤ a0_1) = false) :
  Calls Tryz.prog 31 #[.agg #[.int .i64 a0_0, .int .i64 a0_1, .int .i64 a0_2, .int .i64 a0_3, .int .i64 a0_4]] w fun e w' => e = .returned (.int .i64 1) ∧ Below w.heap.size w w' := by
 have hu := Tryz.underlying23
 have i0 : ∀ w : World, (Instr.index 107 (.agg #[.int .i64 a0_2, .int .i64 a0_3, .int .i64 a0_4]) (.int .i64 0)).run Tryz.prog w = .ok (.int .i64 a0_2) w := fun _ => by kernel_rfl
 have i1 : ∀ w : World, (Instr.index 107 (.agg #[.int .i64 a0_2, .int .i64 a0_3, .int .i64 a0_4]) (.int .i64 1)).run Tryz.prog w = .ok (.int .i64 a0_3) w := fun _ => by kernel_rfl
 have i2 : ∀ w : World, (Instr.index 107 (.agg #[.int .i64 a0_2, .int .i64 a0_3, .int .i64 a0_4]) (.int .i64 2)).run Tryz.prog w = .ok (.int .i64 a0_4) w := fun _ => by kernel_rfl
 go_enter Tryz.func31, Tryz.ntmps31
 go_wp2
 refine wp_loop_rounds 4 ?_
 rw [rounds_succ]
 go_wp2
 rw [rounds_succ]
 go_wp2
 rw [rounds_succ]
 go_wp2
 rw [rounds_succ]
 go_wp2
 go_ret
 exact ⟨rfl, below_alloc (Below.refl _ _) _⟩
theorem medl_Check.w3 (a0_0 a0_1 a0_2 a0_3 a0_4 : Int) (w : World) (c0 : decide (2 ≤ a0_0) = true) (c1 : decide (a0_0 ≤ 16) = true) (c2 : decide (16 ≤ a0_1) = true) (c3 : decide (a0_1 ≤ 1048576) = false) :
  Calls Tryz.prog 31 #[.agg #[.int .i64 a0_0, .int .i64 a0_1, .int .i64 a0_2, .int .i64 a0_3, .int .i64 a0_4]] w fun e w' => e = .returned (.int .i64 1) ∧ Below w.heap.size w w' := by
 have hu := Tryz.underlying23
 have i0 : ∀ w : World, (Instr.index 107 (.agg #[.int .i64 a0_2, .int .i64 a0_3, .int .i64 a0_4]) (.int .i64 0)).run Tryz.prog w = .ok (.int .i64 a0_2) w := fun _ => by kernel_rfl
 have i1 : ∀ w : World, (Instr.index 107 (.agg #[.int .i64 a0_2, .int .i64 a0_3, .int .i64 a0_4]) (.int .i64 1)).run Tryz.prog w = .ok (.int .i64 a0_3) w := fun _ => by kernel_rfl
 have i2 : ∀ w : World, (Instr.index 107 (.agg #[.int .i64 a0_2, .int .i64 a0_3, .int .i64 a0_4]) (.int .i64 2)).run Tryz.prog w = .ok (.int .i64 a0_4) w := fun _ => by kernel_rfl
 go_enter Tryz.func31, Tryz.ntmps31
 go_wp2
 refine wp_loop_rounds 4 ?_
 rw [rounds_succ]
 go_wp2
 rw [rounds_succ]
 go_wp2
 rw [rounds_succ]
 go_wp2
 rw [rounds_succ]
 go_wp2
 go_ret
 exact ⟨rfl, below_alloc (Below.refl _ _) _⟩
theorem medl_Check.w4 (a0_0 a0_1 a0_2 a0_3 a0_4 : Int) (w : World) (c0 : decide (2 ≤ a0_0) = true) (c1 : decide (a0_0 ≤ 16) = true) (c2 : decide (16 ≤ a0_1) = true) (c3 : decide (a0_1 ≤ 1048576) = true) (c4 : decide (1 ≤ a0_2) = false) :
  Calls Tryz.prog 31 #[.agg #[.int .i64 a0_0, .int .i64 a0_1, .int .i64 a0_2, .int .i64 a0_3, .int .i64 a0_4]] w fun e w' => e = .returned (.int .i64 1) ∧ Below w.heap.size w w' := by
 have hu := Tryz.underlying23
 have i0 : ∀ w : World, (Instr.index 107 (.agg #[.int .i64 a0_2, .int .i64 a0_3, .int .i64 a0_4]) (.int .i64 0)).run Tryz.prog w = .ok (.int .i64 a0_2) w := fun _ => by kernel_rfl
 have i1 : ∀ w : World, (Instr.index 107 (.agg #[.int .i64 a0_2, .int .i64 a0_3, .int .i64 a0_4]) (.int .i64 1)).run Tryz.prog w = .ok (.int .i64 a0_3) w := fun _ => by kernel_rfl
 have i2 : ∀ w : World, (Instr.index 107 (.agg #[.int .i64 a0_2, .int .i64 a0_3, .int .i64 a0_4]) (.int .i64 2)).run Tryz.prog w = .ok (.int .i64 a0_4) w := fun _ => by kernel_rfl
 go_enter Tryz.func31, Tryz.ntmps31
 go_wp2
 refine wp_loop_rounds 4 ?_
 rw [rounds_succ]
 go_wp2
 rw [rounds_succ]
 go_wp2
 rw [rounds_succ]
 go_wp2
 rw [rounds_succ]
 go_wp2
 go_ret
 exact ⟨rfl, below_alloc (Below.refl _ _) _⟩
theorem medl_Check.w5 (a0_0 a0_1 a0_2 a0_3 a0_4 : Int) (w : World) (c0 : decide (2 ≤ a0_0) = true) (c1 : decide (a0_0 ≤ 16) = true) (c2 : decide (16 ≤ a0_1) = true) (c3 : decide (a0_1 ≤ 1048576) = true) (c4 : decide (1 ≤ a0_2) = true) (c5 : decide (a0_2 ≤ a0_1) = false) :
  Calls Tryz.prog 31 #[.agg #[.int .i64 a0_0, .int .i64 a0_1, .int .i64 a0_2, .int .i64 a0_3, .int .i64 a0_4]] w fun e w' => e = .returned (.int .i64 1) ∧ Below w.heap.size w w' := by
 have hu := Tryz.underlying23
 have i0 : ∀ w : World, (Instr.index 107 (.agg #[.int .i64 a0_2, .int .i64 a0_3, .int .i64 a0_4]) (.int .i64 0)).run Tryz.prog w = .ok (.int .i64 a0_2) w := fun _ => by kernel_rfl
 have i1 : ∀ w : World, (Instr.index 107 (.agg #[.int .i64 a0_2, .int .i64 a0_3, .int .i64 a0_4]) (.int .i64 1)).run Tryz.prog w = .ok (.int .i64 a0_3) w := fun _ => by kernel_rfl
 have i2 : ∀ w : World, (Instr.index 107 (.agg #[.int .i64 a0_2, .int .i64 a0_3, .int .i64 a0_4]) (.int .i64 2)).run Tryz.prog w = .ok (.int .i64 a0_4) w := fun _ => by kernel_rfl
 go_enter Tryz.func31, Tryz.ntmps31
 go_wp2
 refine wp_loop_rounds 4 ?_
 rw [rounds_succ]
 go_wp2
 rw [rounds_succ]
 go_wp2
 rw [rounds_succ]
 go_wp2
 rw [rounds_succ]
 go_wp2
 go_ret
 exact ⟨rfl, below_alloc (Below.refl _ _) _⟩
theorem medl_Check.w6 (a0_0 a0_1 a0_2 a0_3 a0_4 : Int) (w : World) (c0 : decide (2 ≤ a0_0) = true) (c1 : decide (a0_0 ≤ 16) = true) (c2 : decide (16 ≤ a0_1) = true) (c3 : decide (a0_1 ≤ 1048576) = true) (c4 : decide (1 ≤ a0_2) = true) (c5 : decide (a0_2 ≤ a0_1) = true) (c6 : decide (1 ≤ a0_3) = false) :
  Calls Tryz.prog 31 #[.agg #[.int .i64 a0_0, .int .i64 a0_1, .int .i64 a0_2, .int .i64 a0_3, .int .i64 a0_4]] w fun e w' => e = .returned (.int .i64 1) ∧ Below w.heap.size w w' := by
 have hu := Tryz.underlying23
 have i0 : ∀ w : World, (Instr.index 107 (.agg #[.int .i64 a0_2, .int .i64 a0_3, .int .i64 a0_4]) (.int .i64 0)).run Tryz.prog w = .ok (.int .i64 a0_2) w := fun _ => by kernel_rfl
 have i1 : ∀ w : World, (Instr.index 107 (.agg #[.int .i64 a0_2, .int .i64 a0_3, .int .i64 a0_4]) (.int .i64 1)).run Tryz.prog w = .ok (.int .i64 a0_3) w := fun _ => by kernel_rfl
 have i2 : ∀ w : World, (Instr.index 107 (.agg #[.int .i64 a0_2, .int .i64 a0_3, .int .i64 a0_4]) (.int .i64 2)).run Tryz.prog w = .ok (.int .i64 a0_4) w := fun _ => by kernel_rfl
 go_enter Tryz.func31, Tryz.ntmps31
 go_wp2
 refine wp_loop_rounds 4 ?_
 rw [rounds_succ]
 go_wp2
 rw [rounds_succ]
 go_wp2
 rw [rounds_succ]
 go_wp2
 rw [rounds_succ]
 go_wp2
 go_ret
 exact ⟨rfl, below_alloc (Below.refl _ _) _⟩
theorem medl_Check.w7 (a0_0 a0_1 a0_2 a0_3 a0_4 : Int) (w : World) (c0 : decide (2 ≤ a0_0) = true) (c1 : decide (a0_0 ≤ 16) = true) (c2 : decide (16 ≤ a0_1) = true) (c3 : decide (a0_1 ≤ 1048576) = true) (c4 : decide (1 ≤ a0_2) = true) (c5 : decide (a0_2 ≤ a0_1) = true) (c6 : decide (1 ≤ a0_3) = true) (c7 : decide (a0_3 ≤ a0_1) = false) :
  Calls Tryz.prog 31 #[.agg #[.int .i64 a0_0, .int .i64 a0_1, .int .i64 a0_2, .int .i64 a0_3, .int .i64 a0_4]] w fun e w' => e = .returned (.int .i64 1) ∧ Below w.heap.size w w' := by
 have hu := Tryz.underlying23
 have i0 : ∀ w : World, (Instr.index 107 (.agg #[.int .i64 a0_2, .int .i64 a0_3, .int .i64 a0_4]) (.int .i64 0)).run Tryz.prog w = .ok (.int .i64 a0_2) w := fun _ => by kernel_rfl
 have i1 : ∀ w : World, (Instr.index 107 (.agg #[.int .i64 a0_2, .int .i64 a0_3, .int .i64 a0_4]) (.int .i64 1)).run Tryz.prog w = .ok (.int .i64 a0_3) w := fun _ => by kernel_rfl
 have i2 : ∀ w : World, (Instr.index 107 (.agg #[.int .i64 a0_2, .int .i64 a0_3, .int .i64 a0_4]) (.int .i64 2)).run Tryz.prog w = .ok (.int .i64 a0_4) w := fun _ => by kernel_rfl
 go_enter Tryz.func31, Tryz.ntmps31
 go_wp2
 refine wp_loop_rounds 4 ?_
 rw [rounds_succ]
 go_wp2
 rw [rounds_succ]
 go_wp2
 rw [rounds_succ]
 go_wp2
 rw [rounds_succ]
 go_wp2
 go_ret
 exact ⟨rfl, below_alloc (Below.refl _ _) _⟩
theorem medl_Check.w8 (a0_0 a0_1 a0_2 a0_3 a0_4 : Int) (w : World) (c0 : decide (2 ≤ a0_0) = true) (c1 : decide (a0_0 ≤ 16) = true) (c2 : decide (16 ≤ a0_1) = true) (c3 : decide (a0_1 ≤ 1048576) = true) (c4 : decide (1 ≤ a0_2) = true) (c5 : decide (a0_2 ≤ a0_1) = true) (c6 : decide (1 ≤ a0_3) = true) (c7 : decide (a0_3 ≤ a0_1) = true) (c8 : decide (1 ≤ a0_4) = false) :
  Calls Tryz.prog 31 #[.agg #[.int .i64 a0_0, .int .i64 a0_1, .int .i64 a0_2, .int .i64 a0_3, .int .i64 a0_4]] w fun e w' => e = .returned (.int .i64 1) ∧ Below w.heap.size w w' := by
 have hu := Tryz.underlying23
 have i0 : ∀ w : World, (Instr.index 107 (.agg #[.int .i64 a0_2, .int .i64 a0_3, .int .i64 a0_4]) (.int .i64 0)).run Tryz.prog w = .ok (.int .i64 a0_2) w := fun _ => by kernel_rfl
 have i1 : ∀ w : World, (Instr.index 107 (.agg #[.int .i64 a0_2, .int .i64 a0_3, .int .i64 a0_4]) (.int .i64 1)).run Tryz.prog w = .ok (.int .i64 a0_3) w := fun _ => by kernel_rfl
 have i2 : ∀ w : World, (Instr.index 107 (.agg #[.int .i64 a0_2, .int .i64 a0_3, .int .i64 a0_4]) (.int .i64 2)).run Tryz.prog w = .ok (.int .i64 a0_4) w := fun _ => by kernel_rfl
 go_enter Tryz.func31, Tryz.ntmps31
 go_wp2
 refine wp_loop_rounds 4 ?_
 rw [rounds_succ]
 go_wp2
 rw [rounds_succ]
 go_wp2
 rw [rounds_succ]
 go_wp2
 rw [rounds_succ]
 go_wp2
 go_ret
 exact ⟨rfl, below_alloc (Below.refl _ _) _⟩
theorem medl_Check.w9 (a0_0 a0_1 a0_2 a0_3 a0_4 : Int) (w : World) (c0 : decide (2 ≤ a0_0) = true) (c1 : decide (a0_0 ≤ 16) = true) (c2 : decide (16 ≤ a0_1) = true) (c3 : decide (a0_1 ≤ 1048576) = true) (c4 : decide (1 ≤ a0_2) = true) (c5 : decide (a0_2 ≤ a0_1) = true) (c6 : decide (1 ≤ a0_3) = true) (c7 : decide (a0_3 ≤ a0_1) = true) (c8 : decide (1 ≤ a0_4) = true) (c9 : decide (a0_4 ≤ a0_1) = false) :
  Calls Tryz.prog 31 #[.agg #[.int .i64 a0_0, .int .i64 a0_1, .int .i64 a0_2, .int .i64 a0_3, .int .i64 a0_4]] w fun e w' => e = .returned (.int .i64 1) ∧ Below w.heap.size w w' := by
 have hu := Tryz.underlying23
 have i0 : ∀ w : World, (Instr.index 107 (.agg #[.int .i64 a0_2, .int .i64 a0_3, .int .i64 a0_4]) (.int .i64 0)).run Tryz.prog w = .ok (.int .i64 a0_2) w := fun _ => by kernel_rfl
 have i1 : ∀ w : World, (Instr.index 107 (.agg #[.int .i64 a0_2, .int .i64 a0_3, .int .i64 a0_4]) (.int .i64 1)).run Tryz.prog w = .ok (.int .i64 a0_3) w := fun _ => by kernel_rfl
 have i2 : ∀ w : World, (Instr.index 107 (.agg #[.int .i64 a0_2, .int .i64 a0_3, .int .i64 a0_4]) (.int .i64 2)).run Tryz.prog w = .ok (.int .i64 a0_4) w := fun _ => by kernel_rfl
 go_enter Tryz.func31, Tryz.ntmps31
 go_wp2
 refine wp_loop_rounds 4 ?_
 rw [rounds_succ]
 go_wp2
 rw [rounds_succ]
 go_wp2
 rw [rounds_succ]
 go_wp2
 rw [rounds_succ]
 go_wp2
 go_ret
 exact ⟨rfl, below_alloc (Below.refl _ _) _⟩
theorem medl_Check.w10 (a0_0 a0_1 a0_2 a0_3 a0_4 : Int) (w : World) (c0 : decide (2 ≤ a0_0) = true) (c1 : decide (a0_0 ≤ 16) = true) (c2 : decide (16 ≤ a0_1) = true) (c3 : decide (a0_1 ≤ 1048576) = true) (c4 : decide (1 ≤ a0_2) = true) (c5 : decide (a0_2 ≤ a0_1) = true) (c6 : decide (1 ≤ a0_3) = true) (c7 : decide (a0_3 ≤ a0_1) = true) (c8 : decide (1 ≤ a0_4) = true) (c9 : decide (a0_4 ≤ a0_1) = true) (c10 : decide (a0_4 ≤ a0_2) = false) :
  Calls Tryz.prog 31 #[.agg #[.int .i64 a0_0, .int .i64 a0_1, .int .i64 a0_2, .int .i64 a0_3, .int .i64 a0_4]] w fun e w' => e = .returned (.int .i64 1) ∧ Below w.heap.size w w' := by
 have hu := Tryz.underlying23
 have i0 : ∀ w : World, (Instr.index 107 (.agg #[.int .i64 a0_2, .int .i64 a0_3, .int .i64 a0_4]) (.int .i64 0)).run Tryz.prog w = .ok (.int .i64 a0_2) w := fun _ => by kernel_rfl
 have i1 : ∀ w : World, (Instr.index 107 (.agg #[.int .i64 a0_2, .int .i64 a0_3, .int .i64 a0_4]) (.int .i64 1)).run Tryz.prog w = .ok (.int .i64 a0_3) w := fun _ => by kernel_rfl
 have i2 : ∀ w : World, (Instr.index 107 (.agg #[.int .i64 a0_2, .int .i64 a0_3, .int .i64 a0_4]) (.int .i64 2)).run Tryz.prog w = .ok (.int .i64 a0_4) w := fun _ => by kernel_rfl
 go_enter Tryz.func31, Tryz.ntmps31
 go_wp2
 refine wp_loop_rounds 4 ?_
 rw [rounds_succ]
 go_wp2
 rw [rounds_succ]
 go_wp2
 rw [rounds_succ]
 go_wp2
 rw [rounds_succ]
 go_wp2
 go_ret
 exact ⟨rfl, below_alloc (Below.refl _ _) _⟩
theorem medl_Check.w11 (a0_0 a0_1 a0_2 a0_3 a0_4 : Int) (w : World) (c0 : decide (2 ≤ a0_0) = true) (c1 : decide (a0_0 ≤ 16) = true) (c2 : decide (16 ≤ a0_1) = true) (c3 : decide (a0_1 ≤ 1048576) = true) (c4 : decide (1 ≤ a0_2) = true) (c5 : decide (a0_2 ≤ a0_1) = true) (c6 : decide (1 ≤ a0_3) = true) (c7 : decide (a0_3 ≤ a0_1) = true) (c8 : decide (1 ≤ a0_4) = true) (c9 : decide (a0_4 ≤ a0_1) = true) (c10 : decide (a0_4 ≤ a0_2) = true) (d : decide (a0_1 ≤ a0_2 + a0_3 + a0_4) = true) :
  Calls Tryz.prog 31 #[.agg #[.int .i64 a0_0, .int .i64 a0_1, .int .i64 a0_2, .int .i64 a0_3, .int .i64 a0_4]] w fun e w' => e = .returned (.int .i64 1) ∧ Below w.heap.size w w' := by
 have b0 := of_decide_eq_true c0
 have b1 := of_decide_eq_true c1
 have b2 := of_decide_eq_true c2
 have b3 := of_decide_eq_true c3
 have b4 := of_decide_eq_true c4
 have b5 := of_decide_eq_true c5
 have b6 := of_decide_eq_true c6
 have b7 := of_decide_eq_true c7
 have b8 := of_decide_eq_true c8
 have b9 := of_decide_eq_true c9
 have b10 := of_decide_eq_true c10
 have hu := Tryz.underlying23
 have i0 : ∀ w : World, (Instr.index 107 (.agg #[.int .i64 a0_2, .int .i64 a0_3, .int .i64 a0_4]) (.int .i64 0)).run Tryz.prog w = .ok (.int .i64 a0_2) w := fun _ => by kernel_rfl
 have i1 : ∀ w : World, (Instr.index 107 (.agg #[.int .i64 a0_2, .int .i64 a0_3, .int .i64 a0_4]) (.int .i64 1)).run Tryz.prog w = .ok (.int .i64 a0_3) w := fun _ => by kernel_rfl
 have i2 : ∀ w : World, (Instr.index 107 (.agg #[.int .i64 a0_2, .int .i64 a0_3, .int .i64 a0_4]) (.int .i64 2)).run Tryz.prog w = .ok (.int .i64 a0_4) w := fun _ => by kernel_rfl
 go_enter Tryz.func31, Tryz.ntmps31
 go_wp2
 refine wp_loop_rounds 4 ?_
 rw [rounds_succ]
 go_wp2
 rw [rounds_succ]
 go_wp2
 rw [rounds_succ]
 go_wp2
 rw [rounds_succ]
 go_wp2
 go_ret
 exact ⟨rfl, below_alloc (Below.refl _ _) _⟩
theorem medl_Check.w12 (a0_0 a0_1 a0_2 a0_3 a0_4 : Int) (w : World) (c0 : decide (2 ≤ a0_0) = true) (c1 : decide (a0_0 ≤ 16) = true) (c2 : decide (16 ≤ a0_1) = true) (c3 : decide (a0_1 ≤ 1048576) = true) (c4 : decide (1 ≤ a0_2) = true) (c5 : decide (a0_2 ≤ a0_1) = true) (c6 : decide (1 ≤ a0_3) = true) (c7 : decide (a0_3 ≤ a0_1) = true) (c8 : decide (1 ≤ a0_4) = true) (c9 : decide (a0_4 ≤ a0_1) = true) (c10 : decide (a0_4 ≤ a0_2) = true) (d : decide (a0_1 ≤ a0_2 + a0_3 + a0_4) = false) :
  Calls Tryz.prog 31 #[.agg #[.int .i64 a0_0, .int .i64 a0_1, .int .i64 a0_2, .int .i64 a0_3, .int .i64 a0_4]] w fun e w' => e = .returned (.int .i64 0) ∧ Below w.heap.size w w' := by
 have b0 := of_decide_eq_true c0
 have b1 := of_decide_eq_true c1
 have b2 := of_decide_eq_true c2
 have b3 := of_decide_eq_true c3
 have b4 := of_decide_eq_true c4
 have b5 := of_decide_eq_true c5
 have b6 := of_decide_eq_true c6
 have b7 := of_decide_eq_true c7
 have b8 := of_decide_eq_true c8
 have b9 := of_decide_eq_true c9
 have b10 := of_decide_eq_true c10
 have hu := Tryz.underlying23
 have i0 : ∀ w : World, (Instr.index 107 (.agg #[.int .i64 a0_2, .int .i64 a0_3, .int .i64 a0_4]) (.int .i64 0)).run Tryz.prog w = .ok (.int .i64 a0_2) w := fun _ => by kernel_rfl
 have i1 : ∀ w : World, (Instr.index 107 (.agg #[.int .i64 a0_2, .int .i64 a0_3, .int .i64 a0_4]) (.int .i64 1)).run Tryz.prog w = .ok (.int .i64 a0_3) w := fun _ => by kernel_rfl
 have i2 : ∀ w : World, (Instr.index 107 (.agg #[.int .i64 a0_2, .int .i64 a0_3, .int .i64 a0_4]) (.int .i64 2)).run Tryz.prog w = .ok (.int .i64 a0_4) w := fun _ => by kernel_rfl
 go_enter Tryz.func31, Tryz.ntmps31
 go_wp2
 refine wp_loop_rounds 4 ?_
 rw [rounds_succ]
 go_wp2
 rw [rounds_succ]
 go_wp2
 rw [rounds_succ]
 go_wp2
 rw [rounds_succ]
 go_wp2
 go_ret
 exact ⟨rfl, below_alloc (Below.refl _ _) _⟩
theorem medl_Check.calls (a0_0 a0_1 a0_2 a0_3 a0_4 r : Int) (w : World) (h : medl_Check.f a0_0 a0_1 a0_2 a0_3 a0_4 = some r) :
  Calls Tryz.prog 31 #[.agg #[.int .i64 a0_0, .int .i64 a0_1, .int .i64 a0_2, .int .i64 a0_3, .int .i64 a0_4]] w fun e w' => e = .returned (.int .i64 r) ∧ Below w.heap.size w w' := by
 unfold medl_Check.f at h
 obtain rfl := Option.some.inj h
 clear h
 by_cases c0 : 2 ≤ a0_0
 case neg => rw [if_neg (fun h => c0 h.1)]; exact medl_Check.w0 a0_0 a0_1 a0_2 a0_3 a0_4 w (decide_eq_false c0)
 by_cases c1 : a0_0 ≤ 16
 case neg => rw [if_neg (fun h => c1 h.2.1)]; exact medl_Check.w1 a0_0 a0_1 a0_2 a0_3 a0_4 w (decide_eq_true c0) (decide_eq_false c1)
 by_cases c2 : 16 ≤ a0_1
 case neg => rw [if_neg (fun h => c2 h.2.2.1)]; exact medl_Check.w2 a0_0 a0_1 a0_2 a0_3 a0_4 w (decide_eq_true c0) (decide_eq_true c1) (decide_eq_false c2)
 by_cases c3 : a0_1 ≤ 1048576
 case neg => rw [if_neg (fun h => c3 h.2.2.2.1)]; exact medl_Check.w3 a0_0 a0_1 a0_2 a0_3 a0_4 w (decide_eq_true c0) (decide_eq_true c1) (decide_eq_true c2) (decide_eq_false c3)
 by_cases c4 : 1 ≤ a0_2
 case neg => rw [if_neg (fun h => c4 h.2.2.2.2.1)]; exact medl_Check.w4 a0_0 a0_1 a0_2 a0_3 a0_4 w (decide_eq_true c0) (decide_eq_true c1) (decide_eq_true c2) (decide_eq_true c3) (decide_eq_false c4)
 by_cases c5 : a0_2 ≤ a0_1
 case neg => rw [if_neg (fun h => c5 h.2.2.2.2.2.1)]; exact medl_Check.w5 a0_0 a0_1 a0_2 a0_3 a0_4 w (decide_eq_true c0) (decide_eq_true c1) (decide_eq_true c2) (decide_eq_true c3) (decide_eq_true c4) (decide_eq_false c5)
 by_cases c6 : 1 ≤ a0_3
 case neg => rw [if_neg (fun h => c6 h.2.2.2.2.2.2.1)]; exact medl_Check.w6 a0_0 a0_1 a0_2 a0_3 a0_4 w (decide_eq_true c0) (decide_eq_true c1) (decide_eq_true c2) (decide_eq_true c3) (decide_eq_true c4) (decide_eq_true c5) (decide_eq_false c6)
 by_cases c7 : a0_3 ≤ a0_1
 case neg => rw [if_neg (fun h => c7 h.2.2.2.2.2.2.2.1)]; exact medl_Check.w7 a0_0 a0_1 a0_2 a0_3 a0_4 w (decide_eq_true c0) (decide_eq_true c1) (decide_eq_true c2) (decide_eq_true c3) (decide_eq_true c4) (decide_eq_true c5) (decide_eq_true c6) (decide_eq_false c7)
 by_cases c8 : 1 ≤ a0_4
 case neg => rw [if_neg (fun h => c8 h.2.2.2.2.2.2.2.2.1)]; exact medl_Check.w8 a0_0 a0_1 a0_2 a0_3 a0_4 w (decide_eq_true c0) (decide_eq_true c1) (decide_eq_true c2) (decide_eq_true c3) (decide_eq_true c4) (decide_eq_true c5) (decide_eq_true c6) (decide_eq_true c7) (decide_eq_false c8)
 by_cases c9 : a0_4 ≤ a0_1
 case neg => rw [if_neg (fun h => c9 h.2.2.2.2.2.2.2.2.2.1)]; exact medl_Check.w9 a0_0 a0_1 a0_2 a0_3 a0_4 w (decide_eq_true c0) (decide_eq_true c1) (decide_eq_true c2) (decide_eq_true c3) (decide_eq_true c4) (decide_eq_true c5) (decide_eq_true c6) (decide_eq_true c7) (decide_eq_true c8) (decide_eq_false c9)
 by_cases c10 : a0_4 ≤ a0_2
 case neg => rw [if_neg (fun h => c10 h.2.2.2.2.2.2.2.2.2.2.1)]; exact medl_Check.w10 a0_0 a0_1 a0_2 a0_3 a0_4 w (decide_eq_true c0) (decide_eq_true c1) (decide_eq_true c2) (decide_eq_true c3) (decide_eq_true c4) (decide_eq_true c5) (decide_eq_true c6) (decide_eq_true c7) (decide_eq_true c8) (decide_eq_true c9) (decide_eq_false c10)
 by_cases d : a0_2 + a0_3 + a0_4 < a0_1
 case neg => rw [if_neg (fun h => d h.2.2.2.2.2.2.2.2.2.2.2)]; exact medl_Check.w11 a0_0 a0_1 a0_2 a0_3 a0_4 w (decide_eq_true c0) (decide_eq_true c1) (decide_eq_true c2) (decide_eq_true c3) (decide_eq_true c4) (decide_eq_true c5) (decide_eq_true c6) (decide_eq_true c7) (decide_eq_true c8) (decide_eq_true c9) (decide_eq_true c10) (decide_eq_true (Int.not_lt.1 d))
 rw [if_pos ⟨c0, c1, c2, c3, c4, c5, c6, c7, c8, c9, c10, d⟩]; exact medl_Check.w12 a0_0 a0_1 a0_2 a0_3 a0_4 w (decide_eq_true c0) (decide_eq_true c1) (decide_eq_true c2) (decide_eq_true c3) (decide_eq_true c4) (decide_eq_true c5) (decide_eq_true c6) (decide_eq_true c7) (decide_eq_true c8) (decide_eq_true c9) (decide_eq_true c10) (decide_eq_false (Int.not_le.2 d))


set_option maxHeartbeats 8000000
set_option maxRecDepth 100000
open Go.RowKit Go.Proofs.YtcofclkgfandfaaGreatW.PrintWords Go.Proofs.YtcofclkgfandfaaGreatW.PrintLast Go.Proofs.YtcofclkgfandfaaGreatW.PrintMore Go.Proofs.YtcofclkgfandfaaGreatX
attribute [local go_sem] str_lss str_geq max2_int min2_int max_two min_two max_three min_three max_four min_four   -- for this text's walks alone
set_option linter.unusedVariables false
set_option linter.unusedSimpArgs false

/-! ### osc_Check: function 32 -/
def osc_Check.f (a0_0 a0_1 a0_2 : Int) : Option (Int) := if a0_0 < 1 then (some 1) else (if a0_0 > 1000000000 then (some 1) else (if (mx a0_1 (wrap64 (-a0_1))) > 1000000 then (some 1) else (if a0_1 < (-1000000) then (some 1) else (if a0_2 < 0 then (some 1) else (if a0_2 ≥ 1000000000 then (some 1) else (some 0))))))
theorem osc_Check.calls (a0_0 a0_1 a0_2 r : Int) (w : World) (h : osc_Check.f a0_0 a0_1 a0_2 = some r) :
  Calls Tryz.prog 32 #[.agg #[.int .i64 a0_0, .int .i64 a0_1, .int .i64 a0_2]] w fun e w' => e = .returned (.int .i64 r) ∧ Below w.heap.size w w' := by
 have hu26 := Tryz.underlying26
 have HB := asd (Below.refl w.heap.size w)
 unfold osc_Check.f at h
 have H := h
 clear h
 by_cases c2 : a0_0 < 1
 ·rw [if_pos c2] at H
  have c2b0 := decide_eq_true c2
  clear c2
  obtain rfl := Option.some.inj H
  go_enter Tryz.func32, Tryz.ntmps32
  go_wp2_with (first | (refine bG 1 #[.int .i64 a0_0, .int .i64 a0_1, .int .i64 a0_2] 26 ?_; intro gb134 hg w3 BK134 hb; have GW134 := bz HB hg; have GE134 := bz HB hg; replace HB := bs HB hb; clear hb hg; have hcz4 := ca3 BK134))
  go_ret
  exact xo (bse HB)
 rw [if_neg c2] at H
 have c2b0 := decide_eq_false c2
 clear c2
 by_cases c5 : a0_0 > 1000000000
 ·rw [if_pos c5] at H
  have c5b0 := decide_eq_true c5
  clear c5
  obtain rfl := Option.some.inj H
  go_enter Tryz.func32, Tryz.ntmps32
  go_wp2_with (first | (refine bG 1 #[.int .i64 a0_0, .int .i64 a0_1, .int .i64 a0_2] 26 ?_; intro gb134 hg w6 BK134 hb; have GW134 := bz HB hg; have GE134 := bz HB hg; replace HB := bs HB hb; clear hb hg; have hcz7 := ca3 BK134))
  go_ret
  exact xo (bse HB)
 rw [if_neg c5] at H
 have c5b0 := decide_eq_false c5
 clear c5
 obtain ⟨ji8, hji8⟩ : ∃ j_ : Int, (mx a0_1 (wrap64 (-a0_1))) = j_ := ⟨_, rfl⟩
 replace H : (if (ji8) > 1000000 then (some 1) else (if a0_1 < (-1000000) then (some 1) else (if a0_2 < 0 then (some 1) else (if a0_2 ≥ 1000000000 then (some 1) else (some 0))))) = some r := by first | (rw [hji8] at H; exact H) | (simp only [hji8] at H ⊢; exact H)
 have hji8_ : (if a0_1 < (wrap64 (-a0_1)) then (wrap64 (-a0_1)) else a0_1) = ji8 := hji8
 by_cases c9 : (ji8) > 1000000
 ·rw [if_pos c9] at H
  have c9b0 := decide_eq_true c9
  clear c9
  obtain rfl := Option.some.inj H
  go_enter Tryz.func32, Tryz.ntmps32
  go_wp2_with (first | (refine bG 1 #[.int .i64 a0_0, .int .i64 a0_1, .int .i64 a0_2] 26 ?_; intro gb134 hg w10 BK134 hb; have GW134 := bz HB hg; have GE134 := bz HB hg; replace HB := bs HB hb; clear hb hg; have hcz11 := ca3 BK134))
  go_ret
  exact ⟨by first | rfl | (simp [errW_none, errW_some] <;> rfl) | (simp only [← hji8]; first | rfl | (simp [errW_none, errW_some] <;> rfl)) | (simp [*, errW_none, errW_some] <;> rfl), bse HB⟩
 rw [if_neg c9] at H
 have c9b0 := decide_eq_false c9
 clear c9
 by_cases c12 : a0_1 < (-1000000)
 ·rw [if_pos c12] at H
  have c12b0 := decide_eq_true c12
  clear c12
  obtain rfl := Option.some.inj H
  go_enter Tryz.func32, Tryz.ntmps32
  go_wp2_with (first | (refine bG 1 #[.int .i64 a0_0, .int .i64 a0_1, .int .i64 a0_2] 26 ?_; intro gb134 hg w13 BK134 hb; have GW134 := bz HB hg; have GE134 := bz HB hg; replace HB := bs HB hb; clear hb hg; have hcz14 := ca3 BK134))
  go_ret
  exact ⟨by first | rfl | (simp [errW_none, errW_some] <;> rfl) | (simp only [← hji8]; first | rfl | (simp [errW_none, errW_some] <;> rfl)) | (simp [*, errW_none, errW_some] <;> rfl), bse HB⟩
 rw [if_neg c12] at H
 have c12b0 := decide_eq_false c12
 clear c12
 by_cases c15 : a0_2 < 0
 ·rw [if_pos c15] at H
  have c15b0 := decide_eq_true c15
  clear c15
  obtain rfl := Option.some.inj H
  go_enter Tryz.func32, Tryz.ntmps32
  go_wp2_with (first | (refine bG 1 #[.int .i64 a0_0, .int .i64 a0_1, .int .i64 a0_2] 26 ?_; intro gb134 hg w16 BK134 hb; have GW134 := bz HB hg; have GE134 := bz HB hg; replace HB := bs HB hb; clear hb hg; have hcz17 := ca3 BK134))
  go_ret
  exact ⟨by first | rfl | (simp [errW_none, errW_some] <;> rfl) | (simp only [← hji8]; first | rfl | (simp [errW_none, errW_some] <;> rfl)) | (simp [*, errW_none, errW_some] <;> rfl), bse HB⟩
 rw [if_neg c15] at H
 have c15b0 := decide_eq_false c15
 clear c15
 by_cases c18 : a0_2 ≥ 1000000000
 ·rw [if_pos c18] at H
  have c18b0 := decide_eq_true c18
  clear c18
  obtain rfl := Option.some.inj H
  go_enter Tryz.func32, Tryz.ntmps32
  go_wp2_with (first | (refine bG 1 #[.int .i64 a0_0, .int .i64 a0_1, .int .i64 a0_2] 26 ?_; intro gb134 hg w19 BK134 hb; have GW134 := bz HB hg; have GE134 := bz HB hg; replace HB := bs HB hb; clear hb hg; have hcz20 := ca3 BK134))
  go_ret
  exact ⟨by first | rfl | (simp [errW_none, errW_some] <;> rfl) | (simp only [← hji8]; first | rfl | (simp [errW_none, errW_some] <;> rfl)) | (simp [*, errW_none, errW_some] <;> rfl), bse HB⟩
 rw [if_neg c18] at H
 have c18b0 := decide_eq_false c18
 clear c18
 obtain rfl := Option.some.inj H
 go_enter Tryz.func32, Tryz.ntmps32
 go_wp2_with (first | (refine bG 1 #[.int .i64 a0_0, .int .i64 a0_1, .int .i64 a0_2] 26 ?_; intro gb134 hg w21 BK134 hb; have GW134 := bz HB hg; have GE134 := bz HB hg; replace HB := bs HB hb; clear hb hg; have hcz22 := ca3 BK134))
 go_ret
 exact ⟨by first | rfl | (simp [errW_none, errW_some] <;> rfl) | (simp only [← hji8]; first | rfl | (simp [errW_none, errW_some] <;> rfl)) | (simp [*, errW_none, errW_some] <;> rfl), bse HB⟩

/-! ### node_within_int: function 33 -/
def node_within_int.f (a0 a1 a2 : Int) : Option (Bool) := if a0 ≥ a1 then (some (decide (a0 ≤ a2))) else (some false)
theorem node_within_int.calls (a0 a1 a2 : Int) (r : Bool) (w : World) (h : node_within_int.f a0 a1 a2 = some r) :
  Calls Tryz.prog 33 #[.int .i64 a0, .int .i64 a1, .int .i64 a2] w fun e w' => e = .returned (.bool r) ∧ Drawn0 w w' := by
 unfold node_within_int.f at h
 have H := h
 clear h
 by_cases c4 : a0 ≥ a1
 ·rw [if_pos c4] at H
  have c4b0 := decide_eq_true c4
  clear c4
  obtain rfl := Option.some.inj H
  go_enter Tryz.func33, Tryz.ntmps33
  go_wp2
  go_ret
  exact xd
 rw [if_neg c4] at H
 have c4b0 := decide_eq_false c4
 clear c4
 obtain rfl := Option.some.inj H
 go_enter Tryz.func33, Tryz.ntmps33
 go_wp2
 go_ret
 exact xd

-- NOT PRINTED: function 77 (slices_IndexFunc_int64_int64)

-- NOT PRINTED: function 35 (slices_ContainsFunc_int64_int64)

/-! ### pico_May_1: function 76 -/
def pico_May_1.f (a0 : Int) : Option (Bool) := if a0 > 1152921504606846976 then (some true) else (some (decide (a0 < (-1152921504606846976))))
theorem pico_May_1.calls (a0 : Int) (r : Bool) (w : World) (h : pico_May_1.f a0 = some r) :
  Calls Tryz.prog 76 #[.int .i64 a0] w fun e w' => e = .returned (.bool r) ∧ Drawn0 w w' := by
 unfold pico_May_1.f at h
 have H := h
 clear h
 by_cases c2 : a0 > 1152921504606846976
 ·rw [if_pos c2] at H
  have c2b0 := decide_eq_true c2
  clear c2
  obtain rfl := Option.some.inj H
  go_enter Tryz.func76, Tryz.ntmps76
  go_wp2
  go_ret
  exact xd
 rw [if_neg c2] at H
 have c2b0 := decide_eq_false c2
 clear c2
 obtain rfl := Option.some.inj H
 go_enter Tryz.func76, Tryz.ntmps76
 go_wp2
 go_ret
 exact xd

/-! ### slices_IndexFunc_int64_int64_at_pico_May_1: function 77 -/
def slices_IndexFunc_int64_int64_at_pico_May_1.l0 : Nat → List Int → Int → Int → Option (Int)
 | 0, _, _, _ => none
 | k + 1, x0, x7, x8 => if x8 < x7 then (if 0 ≤ x8 then (if x8 < (x0.length : Int) then ((pico_May_1.f (rd x0 x8)).bind fun t136 => (if t136 = true then (some x8) else (slices_IndexFunc_int64_int64_at_pico_May_1.l0 k x0 x7 (wrap64 (x8 + 1))))) else (none)) else (none)) else (some (-1))
def slices_IndexFunc_int64_int64_at_pico_May_1.f (k : Nat) (l0 : List Int)  : Option (Int) := slices_IndexFunc_int64_int64_at_pico_May_1.l0 k l0 (l0.length : Int) 0
theorem slices_IndexFunc_int64_int64_at_pico_May_1.calls (k : Nat) (A0 : Option Addr) (c0 : Nat) (l0 : List Int)  (r : Int) (w : World) (hr0 : Kd.C (Kd.int .i64) w A0 l0.length l0) (hc0 : l0.length ≤ c0) (h : slices_IndexFunc_int64_int64_at_pico_May_1.f k l0 = some r) :
  Calls Tryz.prog 77 #[.slice A0 l0.length c0, .func (.func 76) #[] #[]] w fun e w' => e = .returned (.int .i64 r) ∧ Below w.heap.size w w' := by
 have HR0 := asd hr0
 have HC0 := asd hc0
 clear hr0 hc0
 have HB := asd (Below.refl w.heap.size w)
 unfold slices_IndexFunc_int64_int64_at_pico_May_1.f at h
 have H := h
 clear h
 have H' := asd H
 clear H
 go_enter Tryz.func77, Tryz.ntmps77
 go_wp2
 go_loopg [8] k (fun kq v8 w' => ∃ (x8_1 : Int), v8 = .int .i64 x8_1 ∧ Aside0 (slices_IndexFunc_int64_int64_at_pico_May_1.l0 kq l0 (l0.length : Int) x8_1 = some r) ∧ Aside0 (kq ≤ k) ∧ Aside0 (Below w.heap.size w w'))
 case atStart => exact ⟨(0), au, H', ⟨Nat.le_refl _⟩, ⟨bse HB⟩⟩
 case round =>
  clear H'
  try clear p2
  obtain ⟨x8_1, rfl, HA, HK1, HB⟩ := hrel
  cases gk with
  | zero => exact absurd HA.out (by simp [slices_IndexFunc_int64_int64_at_pico_May_1.l0])
  | succ k1 =>
   have H := HA.out
   clear HA
   simp only [slices_IndexFunc_int64_int64_at_pico_May_1.l0] at H
   by_cases c3 : x8_1 < (l0.length : Int)
   ·rw [if_pos c3] at H
    have c3b0 := decide_eq_true c3
    clear c3
    by_cases c4 : 0 ≤ x8_1
    ·rw [if_pos c4] at H
     have c4b0 := decide_eq_true c4
     clear c4
     by_cases c5 : x8_1 < (l0.length : Int)
     ·rw [if_pos c5] at H
      have c5b0 := decide_eq_true c5
      clear c5
      obtain ⟨t136, A6, H⟩ := bio H
      by_cases c7 : t136 = true
      ·subst c7
       rw [if_pos rfl] at H
       obtain rfl := Option.some.inj H
       have p135 : 0 ≤ (x8_1 : Int) := of_decide_eq_true (by first | (with_reducible assumption) | assumption)
       have q135 : x8_1 < (l0.length : Int) := of_decide_eq_true (by first | (with_reducible assumption) | assumption)
       obtain ⟨ad135, e135, hx135_0⟩ := Kd.at_int HR0.out x8_1 p135 q135
       cases e135
       replace hx135_0 := (HB.out.cell (World.block_lt_of_cell? w _ hx135_0)).trans hx135_0
       replace p135 := eq_true p135
       replace q135 := eq_true q135
       go_wp2_with (first | ((with_reducible refine gate_via (t := 11) rfl ?_); refine goesT_ (some 16) rfl rfl Tryz.func76 (by kernel_rfl) rfl #[.int .i64 (rd l0 x8_1)] rfl (by first | rfl | (simp; done) | (go_simp; done)) (by (try simp only [List.map_toArray, List.map_cons, List.map_nil]); first | done | rfl | (simp only [List.length_drop, List.length_take]; first | rfl | (rw [Nat.min_eq_left (Int.toNat_le.2 (of_decide_eq_true (by assumption)))]; rfl))) ?_; (with_reducible refine (pico_May_1.calls (rd l0 x8_1) true _ A6.out).mono ?_); rintro e w' ⟨rfl, ⟨nd, rfl⟩⟩; refine ⟨_, rfl, ?_⟩))
       go_ret
       exact xo (bse HB)
      replace c7 := Bool.eq_false_iff.mpr c7
      subst c7
      rw [if_neg (show ¬ (false = true) by decide)] at H
      have H' := asd H
      clear H
      have p135 : 0 ≤ (x8_1 : Int) := of_decide_eq_true (by first | (with_reducible assumption) | assumption)
      have q135 : x8_1 < (l0.length : Int) := of_decide_eq_true (by first | (with_reducible assumption) | assumption)
      obtain ⟨ad135, e135, hx135_0⟩ := Kd.at_int HR0.out x8_1 p135 q135
      cases e135
      replace hx135_0 := (HB.out.cell (World.block_lt_of_cell? w _ hx135_0)).trans hx135_0
      replace p135 := eq_true p135
      replace q135 := eq_true q135
      go_wp2_with (first | ((with_reducible refine gate_via (t := 11) rfl ?_); refine goesT_ (some 16) rfl rfl Tryz.func76 (by kernel_rfl) rfl #[.int .i64 (rd l0 x8_1)] rfl (by first | rfl | (simp; done) | (go_simp; done)) (by (try simp only [List.map_toArray, List.map_cons, List.map_nil]); first | done | rfl | (simp only [List.length_drop, List.length_take]; first | rfl | (rw [Nat.min_eq_left (Int.toNat_le.2 (of_decide_eq_true (by assumption)))]; rfl))) ?_; (with_reducible refine (pico_May_1.calls (rd l0 x8_1) false _ A6.out).mono ?_); rintro e w' ⟨rfl, ⟨nd, rfl⟩⟩; refine ⟨_, rfl, ?_⟩))
      go_roundg k1
      case measure => have := HK1.out; omega
      case rel => exact ⟨(wrap64 (x8_1 + 1)), au, H', ⟨by have := HK1.out; omega⟩, ⟨bse HB⟩⟩
     rw [if_neg c5] at H
     exact absurd H (by simp)
    rw [if_neg c4] at H
    exact absurd H (by simp)
   rw [if_neg c3] at H
   have c3b0 := decide_eq_false c3
   clear c3
   obtain rfl := Option.some.inj H
   go_wp2
   go_ret
   exact xo (bse HB)

/-! ### slices_ContainsFunc_int64_int64_at_pico_May_1: function 35 -/
def slices_ContainsFunc_int64_int64_at_pico_May_1.f (k : Nat) (l0 : List Int)  : Option (Bool) := (slices_IndexFunc_int64_int64_at_pico_May_1.f k l0).bind fun t137 => (some (decide (t137 ≥ 0)))
theorem slices_ContainsFunc_int64_int64_at_pico_May_1.calls (k : Nat) (A0 : Option Addr) (c0 : Nat) (l0 : List Int)  (r : Bool) (w : World) (hr0 : Kd.C (Kd.int .i64) w A0 l0.length l0) (hc0 : l0.length ≤ c0) (h : slices_ContainsFunc_int64_int64_at_pico_May_1.f k l0 = some r) :
  Calls Tryz.prog 35 #[.slice A0 l0.length c0, .func (.func 76) #[] #[]] w fun e w' => e = .returned (.bool r) ∧ Below w.heap.size w w' := by
 have HR0 := asd hr0
 have HC0 := asd hc0
 clear hr0 hc0
 have HB := asd (Below.refl w.heap.size w)
 unfold slices_ContainsFunc_int64_int64_at_pico_May_1.f at h
 have H := h
 clear h
 obtain ⟨t137, A3, H⟩ := bio H
 obtain rfl := Option.some.inj H
 go_enter Tryz.func35, Tryz.ntmps35
 go_wp2_with (first | ((with_reducible refine gate_callee (f := 77) rfl ?_); refine gC (some 7) Tryz.func77 (slices_IndexFunc_int64_int64_at_pico_May_1.calls k A0 c0 l0  t137 _ ?side1 ?side2 A3.out) ?_; (case side1 => repeat (first | exact HR0.out | (with_reducible refine Kd.C_alloc ?_ _) | (with_reducible refine Kd.C_drewN ?_ _) | (with_reducible refine Kd.C_drew ?_))); (case side2 => exact HC0.out); rintro e w4 ⟨rfl, hb⟩; refine ⟨_, rfl, ?_⟩; replace HB := bs HB hb; (try clear hb)))
 go_ret
 exact xo (bse HB)

/-! ### pico_May: function 34 -/
def pico_May.f (k : Nat) (l0 : List Int) : Option (Bool) := (slices_ContainsFunc_int64_int64_at_pico_May_1.f k l0).bind fun t138 => (some (!t138))
theorem pico_May.calls (k : Nat) (A0 : Option Addr) (c0 : Nat) (l0 : List Int) (r : Bool) (w : World) (hr0 : Kd.C (Kd.int .i64) w A0 l0.length l0) (hc0 : l0.length ≤ c0) (h : pico_May.f k l0 = some r) :
  Calls Tryz.prog 34 #[.slice A0 l0.length c0] w fun e w' => e = .returned (.bool r) ∧ Below w.heap.size w w' := by
 have HR0 := asd hr0
 have HC0 := asd hc0
 clear hr0 hc0
 have HB := asd (Below.refl w.heap.size w)
 unfold pico_May.f at h
 have H := h
 clear h
 obtain ⟨t138, A2, H⟩ := bio H
 obtain rfl := Option.some.inj H
 go_enter Tryz.func34, Tryz.ntmps34
 go_wp2_with (first | ((with_reducible refine gate_callee (f := 35) rfl ?_); refine gC (some 4) Tryz.func35 (slices_ContainsFunc_int64_int64_at_pico_May_1.calls k A0 c0 l0  t138 _ ?side1 ?side2 A2.out) ?_; (case side1 => repeat (first | exact HR0.out | (with_reducible refine Kd.C_alloc ?_ _) | (with_reducible refine Kd.C_drewN ?_ _) | (with_reducible refine Kd.C_drew ?_))); (case side2 => exact HC0.out); rintro e w3 ⟨rfl, hb⟩; refine ⟨_, rfl, ?_⟩; replace HB := bs HB hb; (try clear hb)))
 go_ret
 exact xo (bse HB)


set_option maxHeartbeats 8000000
set_option maxRecDepth 100000
open Go.RowKit Go.Proofs.YtcofclkgfandfaaGreatW.PrintWords Go.Proofs.YtcofclkgfandfaaGreatW.PrintLast Go.Proofs.YtcofclkgfandfaaGreatW.PrintMore Go.Proofs.YtcofclkgfandfaaGreatX
attribute [local go_sem] str_lss str_geq max2_int min2_int max_two min_two max_three min_three max_four min_four   -- for this text's walks alone
set_option linter.unusedVariables false
set_option linter.unusedSimpArgs false

/-! ### node_Check: function 9 -/
/-- A copy. -/
def node_Clone.f (l0 : List Int) : Option (List Int) := if l0.length < 17592186044416 then some l0 else none
theorem node_Clone.calls (A0 : Option Addr) (c0 : Nat) (l0 r : List Int) (w : World) (hr0 : Kd.C (Kd.int .i64) w A0 l0.length l0) (hc0 : l0.length ≤ c0) (h : node_Clone.f l0 = some r) :
  Calls Tryz.prog 78 #[.slice A0 l0.length c0] w fun e w' => ∃ v0_ : Value, e = .returned (v0_) ∧ Kd.R (Kd.int .i64) 2 w' w.heap.size (fun _ => True) v0_ r ∧ Below w.heap.size w w' := by
 have HB := asd (Below.refl w.heap.size w)
 unfold node_Clone.f at h
 by_cases hl : l0.length < 17592186044416
 case neg =>
  rw [if_neg hl] at h
  exact absurd h (by simp)
 rw [if_pos hl] at h
 obtain rfl := Option.some.inj h
 cases A0 with
 | none =>
  have he : ∀ w : World, (Go.binOp .eql 30 (.slice none l0.length c0) (.slice none 0 0)).run Tryz.prog w = .ok (.bool true) w := fun _ => by kernel_rfl
  go_enter Tryz.func78, Tryz.ntmps78
  go_wp2
  go_ret
  have e0 : l0 = [] := by
   by_cases hz : 0 < l0.length
   ·obtain ⟨ad, c, e, _⟩ := Kd.C_get hr0 (0 : Int) 0 (by decide) (by omega)
    cases e
   exact List.eq_nil_of_length_eq_zero (by omega)
  subst e0
  exact ⟨_, rfl, Kd.R_nil _ _ _ _ _, HB.out⟩
 | some ad =>
  have he : ∀ w : World, (Go.binOp .eql 30 (.slice (some ad) l0.length c0) (.slice none 0 0)).run Tryz.prog w = .ok (.bool false) w := fun _ => by kernel_rfl
  go_enter Tryz.func78, Tryz.ntmps78
  go_wp2_with (first | ((with_reducible refine gate_dst (N := 5) rfl ?_); refine Kd.R_lit (Kd.int .i64) _ 2 ?hg (N := 5) ?hd (xs := ([] : List Int)) (inner := []) (ok := fun _ => True) (okp := fun _ => True) ?hr ?hp (fun _ hk => hk) trivial (Below.refl _ _) (Nat.le_refl _) (by simp) ?_; (case hd => rfl); (case hg => rfl); (case hr => first | (go_simp; done) | (go_simp; rfl)); (case hp => exact Reps.none _ _); intro v1 w1 ho hb hg_ hnew_; clear hg_ hnew_; have HO := asd (Kd.R_lower ho (below_size HB.out)); replace HB := asd (below_step HB.out hb); clear hb ho) | ((with_reducible refine gate_builtin (b := .append) (xs := #[.tmp 5, .tmp 6]) rfl ?_); at_builtin; refine Kd.R_append_rows (Kd.int .i64) (w0 := w) w.heap.size rfl (.tmp 5) (.tmp 6) 30 2 (.int .i64 0) 8 rfl Tryz.underlying30 info2 rfl (by decide) (by omega) v1 ([] : List Int) l0 _ _ _ (fun _ => True) (fun _ => False) rfl rfl ?aO ?aR (fun _ _ h => h) (fun _ h => h.elim) ?aF ?aB ?aS ?aL ?_; (case aR => exact Kd.C_below hr0 HB.out); (case aB => exact HB.out); (case aF => exact (fun _ _ => trivial)); (case aO => exact HO.out); (case aS => exact below_size HB.out); (case aL => simp; omega); intro v2 w2 ho hb hg hat; have HO2 := asd ho; replace HB := asd hb; clear ho hb hg hat))
  go_ret
  exact ⟨_, rfl, HO2.out, HB.out⟩

def node_far.f (a1 a2 d : Int) : Option Bool := (node_within_int64.f d a1 a2).bind fun t => some (!t)
theorem node_far.calls (gm : Nat) (m0 m1 m2 m3 m4 d : Int) (t : Bool) (w : World) (hm : w.heap[gm]? = some (.cells #[.int .i64 m0, .int .i64 m1, .int .i64 m2, .int .i64 m3, .int .i64 m4] 23 (0, 0))) (h : node_far.f (wrap64 (-m4)) m4 d = some t) :
  Calls Tryz.prog 29 #[.int .i64 d, .pointer (some ⟨gm, 0, none⟩)] w fun e w' => e = .returned (.bool t) ∧ Drawn0 w w' := by
 unfold node_far.f at h
 obtain ⟨t1, A1, h⟩ := Option.bind_eq_some_iff.mp h
 obtain rfl := Option.some.inj h
 have HA := asd A1
 have hc : w.cell? ⟨gm, 4, none⟩ = some (.int .i64 m4) := (blk_cell hm 4).trans rfl
 clear A1 h
 go_enter Tryz.func29, Tryz.ntmps29
 go_wp2_with (first | (go_at_call 30; (refine (node_within_int64.calls d (wrap64 (-m4)) m4 t1 _ HA.out).mono ?_); rintro e w' ⟨rfl, ⟨nd, rfl⟩⟩))
 go_ret
 exact xd

/-! ### node_idxFar: function 77 -/
def node_idxFar.l0 (a1 a2 : Int) : Nat → List Int → Int → Int → Option (Int)
 | 0, _, _, _ => none
 | k + 1, x0, x7, x8 => if x8 < x7 then (if 0 ≤ x8 then (if x8 < (x0.length : Int) then ((node_far.f a1 a2 (rd x0 x8)).bind fun t136 => (if t136 = true then (some x8) else (node_idxFar.l0 a1 a2 k x0 x7 (wrap64 (x8 + 1))))) else (none)) else (none)) else (some (-1))
def node_idxFar.f (a1 a2 : Int) (k : Nat) (l0 : List Int)  : Option (Int) := node_idxFar.l0 a1 a2 k l0 (l0.length : Int) 0
theorem node_idxFar.calls (gm : Nat) (m0 m1 m2 m3 m4 : Int) (k : Nat) (A0 : Option Addr) (c0 : Nat) (l0 : List Int)  (r : Int) (w : World) (hm : w.heap[gm]? = some (.cells #[.int .i64 m0, .int .i64 m1, .int .i64 m2, .int .i64 m3, .int .i64 m4] 23 (0, 0))) (hr0 : Kd.C (Kd.int .i64) w A0 l0.length l0) (hc0 : l0.length ≤ c0) (h : node_idxFar.f (wrap64 (-m4)) m4 k l0 = some r) :
  Calls Tryz.prog 77 #[.slice A0 l0.length c0, .func (.func 29) #[] #[.pointer (some ⟨gm, 0, none⟩)]] w fun e w' => e = .returned (.int .i64 r) ∧ Below w.heap.size w w' := by
 have HM := asd hm
 have HR0 := asd hr0
 have HC0 := asd hc0
 clear hr0 hc0 hm
 have HB := asd (Below.refl w.heap.size w)
 unfold node_idxFar.f at h
 have H := h
 clear h
 have H' := asd H
 clear H
 go_enter Tryz.func77, Tryz.ntmps77
 go_wp2
 go_loopg [8] k (fun kq v8 w' => ∃ (x8_1 : Int), v8 = .int .i64 x8_1 ∧ Aside0 (node_idxFar.l0 (wrap64 (-m4)) m4 kq l0 (l0.length : Int) x8_1 = some r) ∧ Aside0 (kq ≤ k) ∧ Aside0 (Below w.heap.size w w'))
 case atStart => exact ⟨(0), au, H', ⟨Nat.le_refl _⟩, ⟨bse HB⟩⟩
 case round =>
  clear H'
  try clear p2
  obtain ⟨x8_1, rfl, HA, HK1, HB⟩ := hrel
  cases gk with
  | zero => exact absurd HA.out (by simp [node_idxFar.l0])
  | succ k1 =>
   have H := HA.out
   clear HA
   simp only [node_idxFar.l0] at H
   by_cases c3 : x8_1 < (l0.length : Int)
   ·rw [if_pos c3] at H
    have c3b0 := decide_eq_true c3
    clear c3
    by_cases c4 : 0 ≤ x8_1
    ·rw [if_pos c4] at H
     have c4b0 := decide_eq_true c4
     clear c4
     by_cases c5 : x8_1 < (l0.length : Int)
     ·rw [if_pos c5] at H
      have c5b0 := decide_eq_true c5
      clear c5
      obtain ⟨t136, A6, H⟩ := bio H
      by_cases c7 : t136 = true
      ·subst c7
       rw [if_pos rfl] at H
       obtain rfl := Option.some.inj H
       have p135 : 0 ≤ (x8_1 : Int) := of_decide_eq_true (by first | (with_reducible assumption) | assumption)
       have q135 : x8_1 < (l0.length : Int) := of_decide_eq_true (by first | (with_reducible assumption) | assumption)
       obtain ⟨ad135, e135, hx135_0⟩ := Kd.at_int HR0.out x8_1 p135 q135
       cases e135
       replace hx135_0 := (HB.out.cell (World.block_lt_of_cell? w _ hx135_0)).trans hx135_0
       replace p135 := eq_true p135
       replace q135 := eq_true q135
       go_wp2_with (first | (go_at_call 29; (refine (node_far.calls gm m0 m1 m2 m3 m4 (rd l0 x8_1) true _ (by (with_reducible repeat (first | refine blk_drewN ?_ _ | refine blk_drew ?_ | refine blk_alloc ?_ _)); exact blk_below HM.out HB.out) A6.out).mono ?_); rintro e w' ⟨rfl, ⟨nd, rfl⟩⟩))
       go_ret
       exact xo (bse HB)
      replace c7 := Bool.eq_false_iff.mpr c7
      subst c7
      rw [if_neg (show ¬ (false = true) by decide)] at H
      have H' := asd H
      clear H
      have p135 : 0 ≤ (x8_1 : Int) := of_decide_eq_true (by first | (with_reducible assumption) | assumption)
      have q135 : x8_1 < (l0.length : Int) := of_decide_eq_true (by first | (with_reducible assumption) | assumption)
      obtain ⟨ad135, e135, hx135_0⟩ := Kd.at_int HR0.out x8_1 p135 q135
      cases e135
      replace hx135_0 := (HB.out.cell (World.block_lt_of_cell? w _ hx135_0)).trans hx135_0
      replace p135 := eq_true p135
      replace q135 := eq_true q135
      go_wp2_with (first | (go_at_call 29; (refine (node_far.calls gm m0 m1 m2 m3 m4 (rd l0 x8_1) false _ (by (with_reducible repeat (first | refine blk_drewN ?_ _ | refine blk_drew ?_ | refine blk_alloc ?_ _)); exact blk_below HM.out HB.out) A6.out).mono ?_); rintro e w' ⟨rfl, ⟨nd, rfl⟩⟩))
      go_roundg k1
      case measure => have := HK1.out; omega
      case rel => exact ⟨(wrap64 (x8_1 + 1)), au, H', ⟨by have := HK1.out; omega⟩, ⟨bse HB⟩⟩
     rw [if_neg c5] at H
     exact absurd H (by simp)
    rw [if_neg c4] at H
    exact absurd H (by simp)
   rw [if_neg c3] at H
   have c3b0 := decide_eq_false c3
   clear c3
   obtain rfl := Option.some.inj H
   go_wp2
   go_ret
   exact xo (bse HB)


/-! ### node_anyFar: function 35 -/
def node_anyFar.f (a1 a2 : Int) (k : Nat) (l0 : List Int)  : Option (Bool) := (node_idxFar.f a1 a2 k l0).bind fun t137 => (some (decide (t137 ≥ 0)))
theorem node_anyFar.calls (gm : Nat) (m0 m1 m2 m3 m4 : Int) (k : Nat) (A0 : Option Addr) (c0 : Nat) (l0 : List Int)  (r : Bool) (w : World) (hm : w.heap[gm]? = some (.cells #[.int .i64 m0, .int .i64 m1, .int .i64 m2, .int .i64 m3, .int .i64 m4] 23 (0, 0))) (hr0 : Kd.C (Kd.int .i64) w A0 l0.length l0) (hc0 : l0.length ≤ c0) (h : node_anyFar.f (wrap64 (-m4)) m4 k l0 = some r) :
  Calls Tryz.prog 35 #[.slice A0 l0.length c0, .func (.func 29) #[] #[.pointer (some ⟨gm, 0, none⟩)]] w fun e w' => e = .returned (.bool r) ∧ Below w.heap.size w w' := by
 have HM := asd hm
 have HR0 := asd hr0
 have HC0 := asd hc0
 clear hr0 hc0 hm
 have HB := asd (Below.refl w.heap.size w)
 unfold node_anyFar.f at h
 have H := h
 clear h
 obtain ⟨t137, A3, H⟩ := bio H
 obtain rfl := Option.some.inj H
 go_enter Tryz.func35, Tryz.ntmps35
 go_wp2_with (first | ((with_reducible refine gate_callee (f := 77) rfl ?_); refine gC (some 7) Tryz.func77 (node_idxFar.calls gm m0 m1 m2 m3 m4 k A0 c0 l0  t137 _ ?sideM ?side1 ?side2 A3.out) ?_; (case sideM => exact (by (with_reducible repeat (first | refine blk_drewN ?_ _ | refine blk_drew ?_ | refine blk_alloc ?_ _)); exact blk_below HM.out HB.out)); (case side1 => repeat (first | exact HR0.out | (with_reducible refine Kd.C_alloc ?_ _) | (with_reducible refine Kd.C_drewN ?_ _) | (with_reducible refine Kd.C_drew ?_))); (case side2 => exact HC0.out); rintro e w4 ⟨rfl, hb⟩; refine ⟨_, rfl, ?_⟩; replace HB := bs HB hb; (try clear hb)))
 go_ret
 exact xo (bse HB)


/-! ### node_Check: function 9 -/
def node_Check.j0 : Nat → Bool → Int → Int → Int → Int → Int → Int → Int → Int → Int → Int → Int → Int → Int → Int → Int → Int → Int → Int → List Int → Bool → Int → Option (Int)
 | 0, _, _, _, _, _, _, _, _, _, _, _, _, _, _, _, _, _, _, _, _, _, _ => none
 | k + 1, x6, x103, x104, x151000, x151001, x151002, x151003, x151004, x152000, x152001, x152002, x152003, x152004, x152005, x152006, x152007, x152008, x152009, x152010, x152011, x152012, x152013 => if x6 = true then ((node_within_int64.f x152007 x104 x103).bind fun t160 => (if t160 = true then ((node_anyFar.f x104 x103 k x152011).bind fun t161 => (if t161 = true then (some 1) else (if (x152011.length : Int) ≤ x151000 then ((node_within_int.f x152009 0 1073741824).bind fun t162 => (if t162 = true then ((node_within_int.f x152010 0 1073741824).bind fun t163 => (if t163 = true then ((node_within_int.f x152013 0 3).bind fun t164 => (if t164 = true then (if x152001 = 0 then ((node_Same.f k x152000 x152001 x152002 x152003 x152004 x152005 x152006 x152007 x152008 x152009 x152010 x152011 x152012 x152013 x152000 0 0 0 x152004 x152005 x152006 0 0 0 0 ([] : List Int) false 0).bind fun t165 => (if t165 = true then (some 0) else (some 1))) else (some 0)) else (some 1))) else (some 1))) else (some 1))) else (some 1)))) else (some 1))) else (some 1)
def node_Check.f (k : Nat) (a0_0 a0_1 a0_2 a0_3 a0_4 a1_0 a1_1 a1_2 a1_3 a1_4 a1_5 a1_6 a1_7 a1_8 a1_9 a1_10 : Int) (l1_11 : List Int) (a1_12 : Bool) (a1_13 : Int) : Option (Int) := (medl_Check.f a0_0 a0_1 a0_2 a0_3 a0_4).bind fun t152 => (if t152 = 0 then ((osc_Check.f a1_4 a1_5 a1_6).bind fun t153 => (if t153 = 0 then ((node_within_int.f a1_0 0 (wrap64 (a0_0 - 1))).bind fun t154 => (if t154 = true then ((node_within_int.f a1_1 0 3).bind fun t155 => (if t155 = true then (if a1_2 ≤ 4294967296 then (if a1_3 ≥ 0 then ((pico_May.f k (([a1_3] : List Int))).bind fun t159 => (node_Check.j0 k t159 a0_4 (wrap64 (-a0_4)) a0_0 a0_1 a0_2 a0_3 a0_4 a1_0 a1_1 a1_2 a1_3 a1_4 a1_5 a1_6 a1_7 a1_8 a1_9 a1_10 l1_11 a1_12 a1_13)) else (node_Check.j0 k false a0_4 (wrap64 (-a0_4)) a0_0 a0_1 a0_2 a0_3 a0_4 a1_0 a1_1 a1_2 a1_3 a1_4 a1_5 a1_6 a1_7 a1_8 a1_9 a1_10 l1_11 a1_12 a1_13)) else (node_Check.j0 k false a0_4 (wrap64 (-a0_4)) a0_0 a0_1 a0_2 a0_3 a0_4 a1_0 a1_1 a1_2 a1_3 a1_4 a1_5 a1_6 a1_7 a1_8 a1_9 a1_10 l1_11 a1_12 a1_13)) else (node_Check.j0 k false a0_4 (wrap64 (-a0_4)) a0_0 a0_1 a0_2 a0_3 a0_4 a1_0 a1_1 a1_2 a1_3 a1_4 a1_5 a1_6 a1_7 a1_8 a1_9 a1_10 l1_11 a1_12 a1_13))) else (node_Check.j0 k false a0_4 (wrap64 (-a0_4)) a0_0 a0_1 a0_2 a0_3 a0_4 a1_0 a1_1 a1_2 a1_3 a1_4 a1_5 a1_6 a1_7 a1_8 a1_9 a1_10 l1_11 a1_12 a1_13))) else (node_Check.j0 k false a0_4 (wrap64 (-a0_4)) a0_0 a0_1 a0_2 a0_3 a0_4 a1_0 a1_1 a1_2 a1_3 a1_4 a1_5 a1_6 a1_7 a1_8 a1_9 a1_10 l1_11 a1_12 a1_13))) else (node_Check.j0 k false a0_4 (wrap64 (-a0_4)) a0_0 a0_1 a0_2 a0_3 a0_4 a1_0 a1_1 a1_2 a1_3 a1_4 a1_5 a1_6 a1_7 a1_8 a1_9 a1_10 l1_11 a1_12 a1_13))
theorem node_Check.calls (k : Nat) (a0_0 a0_1 a0_2 a0_3 a0_4 a1_0 a1_1 a1_2 a1_3 a1_4 a1_5 a1_6 a1_7 a1_8 a1_9 a1_10 : Int) (A1_11 : Option Addr) (c1_11 : Nat) (l1_11 : List Int) (a1_12 : Bool) (a1_13 r : Int) (w : World) (hr1_11 : Kd.C (Kd.int .i64) w A1_11 l1_11.length l1_11) (hc1_11 : l1_11.length ≤ c1_11) (h : node_Check.f k a0_0 a0_1 a0_2 a0_3 a0_4 a1_0 a1_1 a1_2 a1_3 a1_4 a1_5 a1_6 a1_7 a1_8 a1_9 a1_10 l1_11 a1_12 a1_13 = some r) :
  Calls Tryz.prog 9 #[.agg #[.int .i64 a0_0, .int .i64 a0_1, .int .i64 a0_2, .int .i64 a0_3, .int .i64 a0_4], .agg #[.int .i64 a1_0, .int .i64 a1_1, .int .u64 a1_2, .int .i64 a1_3, .int .i64 a1_4, .int .i64 a1_5, .int .i64 a1_6, .int .i64 a1_7, .int .u16 a1_8, .int .i64 a1_9, .int .i64 a1_10, .slice A1_11 l1_11.length c1_11, .bool a1_12, .int .i64 a1_13]] w fun e w' => e = .returned (.int .i64 r) ∧ Below w.heap.size w w' := by
 have hmf : ∀ (fn : Fn) (first cap : Array Value) (w : World), (Instr.makeFunc fn first cap).run Tryz.prog w = .ok (.func fn first cap) w := fun _ _ _ _ => rfl
 have hu23 := Tryz.underlying23
 have hu32 := Tryz.underlying32
 have hu26 := Tryz.underlying26
 have HR1_11 := asd hr1_11
 have HC1_11 := asd hc1_11
 clear hr1_11 hc1_11
 have HB := asd (Below.refl w.heap.size w)
 unfold node_Check.f at h
 have H := h
 clear h
 have HC3 := asd H
 clear H
 go_enter Tryz.func9, Tryz.ntmps9
 go_upto_region 2 with (first | (refine bG 2 #[.int .i64 a0_0, .int .i64 a0_1, .int .i64 a0_2, .int .i64 a0_3, .int .i64 a0_4] 23 ?_; intro gb150 hg w4 BK150 hb; have GW150 := bz HB hg; have GE150 := bz HB hg; replace HB := bs HB hb; clear hb hg) | (refine bG 3 #[.int .i64 a1_0, .int .i64 a1_1, .int .u64 a1_2, .int .i64 a1_3, .int .i64 a1_4, .int .i64 a1_5, .int .i64 a1_6, .int .i64 a1_7, .int .u16 a1_8, .int .i64 a1_9, .int .i64 a1_10, .slice A1_11 l1_11.length c1_11, .bool a1_12, .int .i64 a1_13] 32 ?_; intro gb151 hg w5 BK151 hb; have GW151 := bz HB hg; have GE151 := bz HB hg; have NB150_151 := nl BK150 hg; have NB151_150 := nr BK150 hg; replace BK150 := bb BK150 hb; replace HB := bs HB hb; clear hb hg; have hnb6 := NB150_151.out; have hnc6 := NB151_150.out; have hcz7 := cf5 BK150))
 (try simp only [Act.put, List.setIfInBounds_toArray, List.set_cons_zero, List.set_cons_succ])
 go_cut [6] (fun v6 wc => ∃ (kq : Nat) (x6_2 : Bool), v6 = .bool x6_2 ∧ Aside0 (node_Check.j0 kq x6_2 a0_4 (wrap64 (-a0_4)) a0_0 a0_1 a0_2 a0_3 a0_4 a1_0 a1_1 a1_2 a1_3 a1_4 a1_5 a1_6 a1_7 a1_8 a1_9 a1_10 l1_11 a1_12 a1_13 = some r) ∧ Aside0 (kq ≤ k) ∧ Aside0 (wc.heap[gb150]? = some (.cells #[.int .i64 a0_0, .int .i64 a0_1, .int .i64 a0_2, .int .i64 a0_3, .int .i64 a0_4] 23 (0, 0))) ∧ Aside0 (wc.heap[gb151]? = some (.cells #[.int .i64 a1_0, .int .i64 a1_1, .int .u64 a1_2, .int .i64 a1_3, .int .i64 a1_4, .int .i64 a1_5, .int .i64 a1_6, .int .i64 a1_7, .int .u16 a1_8, .int .i64 a1_9, .int .i64 a1_10, (.slice A1_11 l1_11.length c1_11), .bool a1_12, .int .i64 a1_13] 32 (0, 0))) ∧ Aside0 (Below w.heap.size w wc))
 case first =>
  have H := HC3.out
  clear HC3
  obtain ⟨t152, A8, H⟩ := bio H
  by_cases c9 : t152 = 0
  ·rw [if_pos c9] at H
   have c9b0 := beq_iff_eq.mpr c9
   have c9b1 := bne_eq_false_iff_eq.mpr c9
   clear c9
   (first | rw [c9b0] | (simp only [i64_w, i32_w]; rw [c9b0]) | skip)
   obtain ⟨t153, A10, H⟩ := bio H
   by_cases c11 : t153 = 0
   ·rw [if_pos c11] at H
    have c11b0 := beq_iff_eq.mpr c11
    have c11b1 := bne_eq_false_iff_eq.mpr c11
    clear c11
    obtain ⟨t154, A12, H⟩ := bio H
    by_cases c13 : t154 = true
    ·subst c13
     rw [if_pos rfl] at H
     obtain ⟨t155, A14, H⟩ := bio H
     by_cases c15 : t155 = true
     ·subst c15
      rw [if_pos rfl] at H
      by_cases c16 : a1_2 ≤ 4294967296
      ·rw [if_pos c16] at H
       have c16b0 := decide_eq_true c16
       clear c16
       by_cases c17 : a1_3 ≥ 0
       ·rw [if_pos c17] at H
        have c17b0 := decide_eq_true c17
        clear c17
        obtain ⟨y156, hy156⟩ : ∃ y_ : List Int, y_ = (([a1_3] : List Int)) := ⟨_, rfl⟩
        replace H : ((pico_May.f k y156).bind fun t159 => (node_Check.j0 k t159 a0_4 (wrap64 (-a0_4)) a0_0 a0_1 a0_2 a0_3 a0_4 a1_0 a1_1 a1_2 a1_3 a1_4 a1_5 a1_6 a1_7 a1_8 a1_9 a1_10 l1_11 a1_12 a1_13)) = some r := by first | (rw [hy156]; with_reducible exact H) | (have H2_ := (Option.bind_some _ _).symm.trans H; rw [hy156]; with_reducible exact H2_) | (have H2_ := (Option.bind_some _ _).symm.trans H; with_reducible exact H2_) | with_reducible exact H | (rw [hy156]; exact H) | exact H
        have Ny156 := asd hy156
        clear hy156
        obtain ⟨t159, A18, H⟩ := bio H
        have H' := asd H
        clear H
        have hnb19 := NB150_151.out
        have hnc19 := NB151_150.out
        have hcz20 := cf5 BK150
        go_wp2_with (first | ((with_reducible refine gate_callee (f := 31) rfl ?_); refine gC (some 9) Tryz.func31 (medl_Check.calls a0_0 a0_1 a0_2 a0_3 a0_4 t152 _ A8.out) ?_; rintro e w21 ⟨rfl, hb⟩; refine ⟨_, rfl, ?_⟩; replace BK150 := bb BK150 hb; replace BK151 := bb BK151 hb; replace HB := bs HB hb; (try clear hb); have hcz22 := cf14 BK151) | (go_at_call 32; (with_reducible refine (osc_Check.calls a1_4 a1_5 a1_6 t153 _ A10.out).mono ?_); rintro e w23 ⟨rfl, hb⟩; replace BK150 := bb BK150 hb; replace BK151 := bb BK151 hb; replace HB := bs HB hb; (try clear hb); have hcz24 := cf14 BK151; have hcz25 := cf5 BK150) | (go_at_call 33; (with_reducible refine (node_within_int.calls a1_0 0 (wrap64 (a0_0 - 1)) true _ A12.out).mono ?_); rintro e w' ⟨rfl, ⟨nd, rfl⟩⟩) | (go_at_call 33; (with_reducible refine (node_within_int.calls a1_1 0 3 true _ A14.out).mono ?_); rintro e w' ⟨rfl, ⟨nd, rfl⟩⟩) | ((with_reducible refine gate_dst (N := 43) rfl ?_); (try (refine gate_guard (by rfl) ?_; dsimp only)); refine Kd.R_lit (Kd.int .i64) _ 2 ?hg (N := 43) ?hd (xs := ([a1_3] : List Int)) (inner := [.int .i64 a1_3]) (ok := fun _ => True) (okp := fun _ => True) ?hr ?hp (fun _ hk => hk) trivial (Below.refl _ _) (Nat.le_refl _) (by simp) ?_; (case hd => rfl); (case hg => rfl); (case hr => first | (go_simp; done) | (go_simp; rfl)); (case hp => exact (Reps.one (show Kd.M (Kd.int .i64) _ _ _ a1_3 [.int .i64 a1_3] from rfl) (Reps.none _ _))); intro v157 w26 ho27 hb hg_ hnew_; clear hg_ hnew_; (first | rw [← Ny156.out] at ho27 | (simp only [Int.reduceToNat] at ho27; rw [← Ny156.out] at ho27)); have HO158 := rl ho27 HB; replace BK150 := bb BK150 hb; replace BK151 := bb BK151 hb; replace HB := bs HB hb; clear hb ho27; obtain ⟨Ao28, co28, eo28⟩ := Kd.R_slice HO158.out; subst eo28) | (go_at_call 34; (with_reducible refine (pico_May.calls k _ _ y156 t159 _ ?side1 ?side2 A18.out).mono ?_); (case side1 => exact cr (Kd.R_reads' HO158.out).2.2); (case side2 => exact (Kd.R_reads' HO158.out).2.1); rintro e w29 ⟨rfl, hb⟩; replace HO158 := rb HO158 hb; replace BK150 := bb BK150 hb; replace BK151 := bb BK151 hb; replace HB := bs HB hb; (try clear hb)))
        go_meet
        case rel => exact ⟨_, (t159), au, H', ⟨by first | omega | exact Nat.le_refl _⟩, be BK150, be BK151, ⟨bse HB⟩⟩
       rw [if_neg c17] at H
       have c17b0 := decide_eq_false c17
       clear c17
       have H' := asd H
       clear H
       have hnb30 := NB150_151.out
       have hnc30 := NB151_150.out
       have hcz31 := cf5 BK150
       go_wp2_with (first | ((with_reducible refine gate_callee (f := 31) rfl ?_); refine gC (some 9) Tryz.func31 (medl_Check.calls a0_0 a0_1 a0_2 a0_3 a0_4 t152 _ A8.out) ?_; rintro e w32 ⟨rfl, hb⟩; refine ⟨_, rfl, ?_⟩; replace BK150 := bb BK150 hb; replace BK151 := bb BK151 hb; replace HB := bs HB hb; (try clear hb); have hcz33 := cf14 BK151) | (go_at_call 32; (with_reducible refine (osc_Check.calls a1_4 a1_5 a1_6 t153 _ A10.out).mono ?_); rintro e w34 ⟨rfl, hb⟩; replace BK150 := bb BK150 hb; replace BK151 := bb BK151 hb; replace HB := bs HB hb; (try clear hb); have hcz35 := cf14 BK151; have hcz36 := cf5 BK150) | (go_at_call 33; (with_reducible refine (node_within_int.calls a1_0 0 (wrap64 (a0_0 - 1)) true _ A12.out).mono ?_); rintro e w' ⟨rfl, ⟨nd, rfl⟩⟩) | (go_at_call 33; (with_reducible refine (node_within_int.calls a1_1 0 3 true _ A14.out).mono ?_); rintro e w' ⟨rfl, ⟨nd, rfl⟩⟩))
       go_meet
       case rel => exact ⟨_, (false), au, H', ⟨by first | omega | exact Nat.le_refl _⟩, be BK150, be BK151, ⟨bse HB⟩⟩
      rw [if_neg c16] at H
      have c16b0 := decide_eq_false c16
      clear c16
      have H' := asd H
      clear H
      have hnb37 := NB150_151.out
      have hnc37 := NB151_150.out
      have hcz38 := cf5 BK150
      go_wp2_with (first | ((with_reducible refine gate_callee (f := 31) rfl ?_); refine gC (some 9) Tryz.func31 (medl_Check.calls a0_0 a0_1 a0_2 a0_3 a0_4 t152 _ A8.out) ?_; rintro e w39 ⟨rfl, hb⟩; refine ⟨_, rfl, ?_⟩; replace BK150 := bb BK150 hb; replace BK151 := bb BK151 hb; replace HB := bs HB hb; (try clear hb); have hcz40 := cf14 BK151) | (go_at_call 32; (with_reducible refine (osc_Check.calls a1_4 a1_5 a1_6 t153 _ A10.out).mono ?_); rintro e w41 ⟨rfl, hb⟩; replace BK150 := bb BK150 hb; replace BK151 := bb BK151 hb; replace HB := bs HB hb; (try clear hb); have hcz42 := cf14 BK151; have hcz43 := cf5 BK150) | (go_at_call 33; (with_reducible refine (node_within_int.calls a1_0 0 (wrap64 (a0_0 - 1)) true _ A12.out).mono ?_); rintro e w' ⟨rfl, ⟨nd, rfl⟩⟩) | (go_at_call 33; (with_reducible refine (node_within_int.calls a1_1 0 3 true _ A14.out).mono ?_); rintro e w' ⟨rfl, ⟨nd, rfl⟩⟩))
      go_meet
      case rel => exact ⟨_, (false), au, H', ⟨by first | omega | exact Nat.le_refl _⟩, be BK150, be BK151, ⟨bse HB⟩⟩
     replace c15 := Bool.eq_false_iff.mpr c15
     subst c15
     rw [if_neg (show ¬ (false = true) by decide)] at H
     have H' := asd H
     clear H
     have hnb44 := NB150_151.out
     have hnc44 := NB151_150.out
     have hcz45 := cf5 BK150
     go_wp2_with (first | ((with_reducible refine gate_callee (f := 31) rfl ?_); refine gC (some 9) Tryz.func31 (medl_Check.calls a0_0 a0_1 a0_2 a0_3 a0_4 t152 _ A8.out) ?_; rintro e w46 ⟨rfl, hb⟩; refine ⟨_, rfl, ?_⟩; replace BK150 := bb BK150 hb; replace BK151 := bb BK151 hb; replace HB := bs HB hb; (try clear hb); have hcz47 := cf14 BK151) | (go_at_call 32; (with_reducible refine (osc_Check.calls a1_4 a1_5 a1_6 t153 _ A10.out).mono ?_); rintro e w48 ⟨rfl, hb⟩; replace BK150 := bb BK150 hb; replace BK151 := bb BK151 hb; replace HB := bs HB hb; (try clear hb); have hcz49 := cf14 BK151; have hcz50 := cf5 BK150) | (go_at_call 33; (with_reducible refine (node_within_int.calls a1_0 0 (wrap64 (a0_0 - 1)) true _ A12.out).mono ?_); rintro e w' ⟨rfl, ⟨nd, rfl⟩⟩) | (go_at_call 33; (with_reducible refine (node_within_int.calls a1_1 0 3 false _ A14.out).mono ?_); rintro e w' ⟨rfl, ⟨nd, rfl⟩⟩))
     go_meet
     case rel => exact ⟨_, (false), au, H', ⟨by first | omega | exact Nat.le_refl _⟩, be BK150, be BK151, ⟨bse HB⟩⟩
    replace c13 := Bool.eq_false_iff.mpr c13
    subst c13
    rw [if_neg (show ¬ (false = true) by decide)] at H
    have H' := asd H
    clear H
    have hnb51 := NB150_151.out
    have hnc51 := NB151_150.out
    have hcz52 := cf5 BK150
    go_wp2_with (first | ((with_reducible refine gate_callee (f := 31) rfl ?_); refine gC (some 9) Tryz.func31 (medl_Check.calls a0_0 a0_1 a0_2 a0_3 a0_4 t152 _ A8.out) ?_; rintro e w53 ⟨rfl, hb⟩; refine ⟨_, rfl, ?_⟩; replace BK150 := bb BK150 hb; replace BK151 := bb BK151 hb; replace HB := bs HB hb; (try clear hb); have hcz54 := cf14 BK151) | (go_at_call 32; (with_reducible refine (osc_Check.calls a1_4 a1_5 a1_6 t153 _ A10.out).mono ?_); rintro e w55 ⟨rfl, hb⟩; replace BK150 := bb BK150 hb; replace BK151 := bb BK151 hb; replace HB := bs HB hb; (try clear hb); have hcz56 := cf14 BK151; have hcz57 := cf5 BK150) | (go_at_call 33; (with_reducible refine (node_within_int.calls a1_0 0 (wrap64 (a0_0 - 1)) false _ A12.out).mono ?_); rintro e w' ⟨rfl, ⟨nd, rfl⟩⟩))
    go_meet
    case rel => exact ⟨_, (false), au, H', ⟨by first | omega | exact Nat.le_refl _⟩, be BK150, be BK151, ⟨bse HB⟩⟩
   rw [if_neg c11] at H
   have c11b0 := beq_eq_false_iff_ne.mpr c11
   have c11b1 := bne_iff_ne.mpr c11
   have H' := asd H
   clear H
   have hnb58 := NB150_151.out
   have hnc58 := NB151_150.out
   have hcz59 := cf5 BK150
   go_wp2_with (first | ((with_reducible refine gate_callee (f := 31) rfl ?_); refine gC (some 9) Tryz.func31 (medl_Check.calls a0_0 a0_1 a0_2 a0_3 a0_4 t152 _ A8.out) ?_; rintro e w60 ⟨rfl, hb⟩; refine ⟨_, rfl, ?_⟩; replace BK150 := bb BK150 hb; replace BK151 := bb BK151 hb; replace HB := bs HB hb; (try clear hb); have hcz61 := cf14 BK151) | (go_at_call 32; (with_reducible refine (osc_Check.calls a1_4 a1_5 a1_6 t153 _ A10.out).mono ?_); rintro e w62 ⟨rfl, hb⟩; replace BK150 := bb BK150 hb; replace BK151 := bb BK151 hb; replace HB := bs HB hb; (try clear hb)))
   go_meet
   case rel => exact ⟨_, (false), au, H', ⟨by first | omega | exact Nat.le_refl _⟩, be BK150, be BK151, ⟨bse HB⟩⟩
  rw [if_neg c9] at H
  have c9b0 := beq_eq_false_iff_ne.mpr c9
  have c9b1 := bne_iff_ne.mpr c9
  (first | rw [c9b0] | (simp only [i64_w, i32_w]; rw [c9b0]) | skip)
  have H' := asd H
  clear H
  have hnb63 := NB150_151.out
  have hnc63 := NB151_150.out
  have hcz64 := cf5 BK150
  go_wp2_with (first | ((with_reducible refine gate_callee (f := 31) rfl ?_); refine gC (some 9) Tryz.func31 (medl_Check.calls a0_0 a0_1 a0_2 a0_3 a0_4 t152 _ A8.out) ?_; rintro e w65 ⟨rfl, hb⟩; refine ⟨_, rfl, ?_⟩; replace BK150 := bb BK150 hb; replace BK151 := bb BK151 hb; replace HB := bs HB hb; (try clear hb)))
  go_meet
  case rel => exact ⟨_, (false), au, H', ⟨by first | omega | exact Nat.le_refl _⟩, be BK150, be BK151, ⟨bse HB⟩⟩
 case rest =>
  clear HC3
  try clear c1
  try clear p2
  try clear c3
  try clear c4
  try clear c5
  try clear c6
  try clear p6
  try clear c9
  try clear c9b0
  try clear c9b1
  try clear c11
  try clear c11b0
  try clear c11b1
  try clear c13
  try clear c15
  try clear c16
  try clear c16b0
  try clear c17
  try clear c17b0
  try clear c19
  try clear c30
  try clear c31
  try clear c37
  try clear c44
  try clear c51
  try clear c58
  try clear c63
  try clear p64
  try clear hcz20
  try clear hcz22
  try clear hcz24
  try clear hcz25
  try clear hcz31
  try clear hcz33
  try clear hcz35
  try clear hcz36
  try clear hcz38
  try clear hcz40
  try clear hcz42
  try clear hcz43
  try clear hcz45
  try clear hcz47
  try clear hcz49
  try clear hcz50
  try clear hcz52
  try clear hcz54
  try clear hcz56
  try clear hcz57
  try clear hcz59
  try clear hcz61
  try clear hcz64
  try clear hcz7
  try clear hcz20
  try clear hcz22
  try clear hcz24
  try clear hcz25
  try clear hcz31
  try clear hcz33
  try clear hcz35
  try clear hcz36
  try clear hcz38
  try clear hcz40
  try clear hcz42
  try clear hcz43
  try clear hcz45
  try clear hcz47
  try clear hcz49
  try clear hcz50
  try clear hcz52
  try clear hcz54
  try clear hcz56
  try clear hcz57
  try clear hcz59
  try clear hcz61
  try clear hcz64
  try clear hcz7
  obtain ⟨kq, x6_2, rfl, HA, HJ2, BK150, BK151, HB⟩ := hcut
  cases kq with
  | zero => exact absurd HA.out (by simp [node_Check.j0])
  | succ kj2 =>
   have H := HA.out
   clear HA
   simp only [node_Check.j0] at H
   by_cases c66 : x6_2 = true
   ·subst c66
    rw [if_pos rfl] at H
    obtain ⟨t160, A67, H⟩ := bio H
    by_cases c68 : t160 = true
    ·subst c68
     rw [if_pos rfl] at H
     obtain ⟨t161, A69, H⟩ := bio H
     by_cases c70 : t161 = true
     ·subst c70
      rw [if_pos rfl] at H
      obtain rfl := Option.some.inj H
      have hnb71 := NB151_150.out
      have hnc71 := NB150_151.out
      have hcz72 := cf14 BK151
      go_wp2_with (first | (go_at_call 29; (refine (node_far.calls gb150 a0_0 a0_1 a0_2 a0_3 a0_4 a1_7 false _ (be BK150).out (by unfold node_far.f; rw [A67.out]; rfl)).mono ?_); rintro e w' ⟨rfl, ⟨nd, rfl⟩⟩) | (go_at_call 35; (with_reducible refine (node_anyFar.calls gb150 a0_0 a0_1 a0_2 a0_3 a0_4 kj2 _ _ l1_11 true _ ?sideM ?side1 ?side2 A69.out).mono ?_); (case sideM => exact (be BK150).out); (case side1 => repeat (first | exact (Kd.C_below HR1_11.out (bse HB)) | (with_reducible refine Kd.C_alloc ?_ _) | (with_reducible refine Kd.C_drewN ?_ _) | (with_reducible refine Kd.C_drew ?_))); (case side2 => exact HC1_11.out); rintro e w73 ⟨rfl, hb⟩; replace BK150 := bb BK150 hb; replace BK151 := bb BK151 hb; replace HB := bs HB hb; (try clear hb)))
      go_ret
      exact xo (bse HB)
     replace c70 := Bool.eq_false_iff.mpr c70
     subst c70
     rw [if_neg (show ¬ (false = true) by decide)] at H
     by_cases c74 : (l1_11.length : Int) ≤ a0_0
     ·rw [if_pos c74] at H
      have c74b0 := decide_eq_true c74
      clear c74
      obtain ⟨t162, A75, H⟩ := bio H
      by_cases c76 : t162 = true
      ·subst c76
       rw [if_pos rfl] at H
       obtain ⟨t163, A77, H⟩ := bio H
       by_cases c78 : t163 = true
       ·subst c78
        rw [if_pos rfl] at H
        obtain ⟨t164, A79, H⟩ := bio H
        by_cases c80 : t164 = true
        ·subst c80
         rw [if_pos rfl] at H
         by_cases c81 : a1_1 = 0
         ·rw [if_pos c81] at H
          have c81b0 := beq_iff_eq.mpr c81
          have c81b1 := bne_eq_false_iff_eq.mpr c81
          clear c81
          obtain ⟨t165, A82, H⟩ := bio H
          by_cases c83 : t165 = true
          ·subst c83
           rw [if_pos rfl] at H
           obtain rfl := Option.some.inj H
           have hnb84 := NB151_150.out
           have hnc84 := NB150_151.out
           have hcz85 := cf14 BK151
           go_wp2_with (first | (go_at_call 29; (refine (node_far.calls gb150 a0_0 a0_1 a0_2 a0_3 a0_4 a1_7 false _ (be BK150).out (by unfold node_far.f; rw [A67.out]; rfl)).mono ?_); rintro e w' ⟨rfl, ⟨nd, rfl⟩⟩) | (go_at_call 35; (with_reducible refine (node_anyFar.calls gb150 a0_0 a0_1 a0_2 a0_3 a0_4 kj2 _ _ l1_11 false _ ?sideM ?side1 ?side2 A69.out).mono ?_); (case sideM => exact (be BK150).out); (case side1 => repeat (first | exact (Kd.C_below HR1_11.out (bse HB)) | (with_reducible refine Kd.C_alloc ?_ _) | (with_reducible refine Kd.C_drewN ?_ _) | (with_reducible refine Kd.C_drew ?_))); (case side2 => exact HC1_11.out); rintro e w86 ⟨rfl, hb⟩; replace BK150 := bb BK150 hb; replace BK151 := bb BK151 hb; replace HB := bs HB hb; (try clear hb); have hcz87 := cf14 BK151; have hcz88 := cf5 BK150) | (go_at_call 33; (with_reducible refine (node_within_int.calls a1_9 0 1073741824 true _ A75.out).mono ?_); rintro e w' ⟨rfl, ⟨nd, rfl⟩⟩) | (go_at_call 33; (with_reducible refine (node_within_int.calls a1_10 0 1073741824 true _ A77.out).mono ?_); rintro e w' ⟨rfl, ⟨nd, rfl⟩⟩) | (go_at_call 33; (with_reducible refine (node_within_int.calls a1_13 0 3 true _ A79.out).mono ?_); rintro e w' ⟨rfl, ⟨nd, rfl⟩⟩) | (go_at_call 11; (refine (node_Same.calls kj2 a1_0 a1_1 a1_2 a1_3 a1_4 a1_5 a1_6 a1_7 a1_8 a1_9 a1_10 _ _ l1_11 a1_12 a1_13 a1_0 0 0 0 a1_4 a1_5 a1_6 0 0 0 0 _ _ ([] : List Int) false 0 true _ ?side1 ?side2 ?side3 ?side4 A82.out).mono ?_); (case side1 => repeat (first | exact (Kd.C_below HR1_11.out (bse HB)) | (with_reducible refine Kd.C_alloc ?_ _) | (with_reducible refine Kd.C_drewN ?_ _) | (with_reducible refine Kd.C_drew ?_))); (case side2 => exact HC1_11.out); (case side3 => exact Kd.C_nil _ _); (case side4 => exact Nat.le_refl _); rintro e w89 ⟨rfl, hb⟩; replace BK150 := bb BK150 hb; replace BK151 := bb BK151 hb; replace HB := bs HB hb; (try clear hb)))
           go_ret
           exact xo (bse HB)
          replace c83 := Bool.eq_false_iff.mpr c83
          subst c83
          rw [if_neg (show ¬ (false = true) by decide)] at H
          obtain rfl := Option.some.inj H
          have hnb90 := NB151_150.out
          have hnc90 := NB150_151.out
          have hcz91 := cf14 BK151
          go_wp2_with (first | (go_at_call 29; (refine (node_far.calls gb150 a0_0 a0_1 a0_2 a0_3 a0_4 a1_7 false _ (be BK150).out (by unfold node_far.f; rw [A67.out]; rfl)).mono ?_); rintro e w' ⟨rfl, ⟨nd, rfl⟩⟩) | (go_at_call 35; (with_reducible refine (node_anyFar.calls gb150 a0_0 a0_1 a0_2 a0_3 a0_4 kj2 _ _ l1_11 false _ ?sideM ?side1 ?side2 A69.out).mono ?_); (case sideM => exact (be BK150).out); (case side1 => repeat (first | exact (Kd.C_below HR1_11.out (bse HB)) | (with_reducible refine Kd.C_alloc ?_ _) | (with_reducible refine Kd.C_drewN ?_ _) | (with_reducible refine Kd.C_drew ?_))); (case side2 => exact HC1_11.out); rintro e w92 ⟨rfl, hb⟩; replace BK150 := bb BK150 hb; replace BK151 := bb BK151 hb; replace HB := bs HB hb; (try clear hb); have hcz93 := cf14 BK151; have hcz94 := cf5 BK150) | (go_at_call 33; (with_reducible refine (node_within_int.calls a1_9 0 1073741824 true _ A75.out).mono ?_); rintro e w' ⟨rfl, ⟨nd, rfl⟩⟩) | (go_at_call 33; (with_reducible refine (node_within_int.calls a1_10 0 1073741824 true _ A77.out).mono ?_); rintro e w' ⟨rfl, ⟨nd, rfl⟩⟩) | (go_at_call 33; (with_reducible refine (node_within_int.calls a1_13 0 3 true _ A79.out).mono ?_); rintro e w' ⟨rfl, ⟨nd, rfl⟩⟩) | (go_at_call 11; (refine (node_Same.calls kj2 a1_0 a1_1 a1_2 a1_3 a1_4 a1_5 a1_6 a1_7 a1_8 a1_9 a1_10 _ _ l1_11 a1_12 a1_13 a1_0 0 0 0 a1_4 a1_5 a1_6 0 0 0 0 _ _ ([] : List Int) false 0 false _ ?side1 ?side2 ?side3 ?side4 A82.out).mono ?_); (case side1 => repeat (first | exact (Kd.C_below HR1_11.out (bse HB)) | (with_reducible refine Kd.C_alloc ?_ _) | (with_reducible refine Kd.C_drewN ?_ _) | (with_reducible refine Kd.C_drew ?_))); (case side2 => exact HC1_11.out); (case side3 => exact Kd.C_nil _ _); (case side4 => exact Nat.le_refl _); rintro e w95 ⟨rfl, hb⟩; replace BK150 := bb BK150 hb; replace BK151 := bb BK151 hb; replace HB := bs HB hb; (try clear hb)))
          go_ret
          exact xo (bse HB)
         rw [if_neg c81] at H
         have c81b0 := beq_eq_false_iff_ne.mpr c81
         have c81b1 := bne_iff_ne.mpr c81
         obtain rfl := Option.some.inj H
         have hnb96 := NB151_150.out
         have hnc96 := NB150_151.out
         have hcz97 := cf14 BK151
         go_wp2_with (first | (go_at_call 29; (refine (node_far.calls gb150 a0_0 a0_1 a0_2 a0_3 a0_4 a1_7 false _ (be BK150).out (by unfold node_far.f; rw [A67.out]; rfl)).mono ?_); rintro e w' ⟨rfl, ⟨nd, rfl⟩⟩) | (go_at_call 35; (with_reducible refine (node_anyFar.calls gb150 a0_0 a0_1 a0_2 a0_3 a0_4 kj2 _ _ l1_11 false _ ?sideM ?side1 ?side2 A69.out).mono ?_); (case sideM => exact (be BK150).out); (case side1 => repeat (first | exact (Kd.C_below HR1_11.out (bse HB)) | (with_reducible refine Kd.C_alloc ?_ _) | (with_reducible refine Kd.C_drewN ?_ _) | (with_reducible refine Kd.C_drew ?_))); (case side2 => exact HC1_11.out); rintro e w98 ⟨rfl, hb⟩; replace BK150 := bb BK150 hb; replace BK151 := bb BK151 hb; replace HB := bs HB hb; (try clear hb); have hcz99 := cf14 BK151; have hcz100 := cf5 BK150) | (go_at_call 33; (with_reducible refine (node_within_int.calls a1_9 0 1073741824 true _ A75.out).mono ?_); rintro e w' ⟨rfl, ⟨nd, rfl⟩⟩) | (go_at_call 33; (with_reducible refine (node_within_int.calls a1_10 0 1073741824 true _ A77.out).mono ?_); rintro e w' ⟨rfl, ⟨nd, rfl⟩⟩) | (go_at_call 33; (with_reducible refine (node_within_int.calls a1_13 0 3 true _ A79.out).mono ?_); rintro e w' ⟨rfl, ⟨nd, rfl⟩⟩))
         go_ret
         exact xo (bse HB)
        replace c80 := Bool.eq_false_iff.mpr c80
        subst c80
        rw [if_neg (show ¬ (false = true) by decide)] at H
        obtain rfl := Option.some.inj H
        have hnb101 := NB151_150.out
        have hnc101 := NB150_151.out
        have hcz102 := cf14 BK151
        go_wp2_with (first | (go_at_call 29; (refine (node_far.calls gb150 a0_0 a0_1 a0_2 a0_3 a0_4 a1_7 false _ (be BK150).out (by unfold node_far.f; rw [A67.out]; rfl)).mono ?_); rintro e w' ⟨rfl, ⟨nd, rfl⟩⟩) | (go_at_call 35; (with_reducible refine (node_anyFar.calls gb150 a0_0 a0_1 a0_2 a0_3 a0_4 kj2 _ _ l1_11 false _ ?sideM ?side1 ?side2 A69.out).mono ?_); (case sideM => exact (be BK150).out); (case side1 => repeat (first | exact (Kd.C_below HR1_11.out (bse HB)) | (with_reducible refine Kd.C_alloc ?_ _) | (with_reducible refine Kd.C_drewN ?_ _) | (with_reducible refine Kd.C_drew ?_))); (case side2 => exact HC1_11.out); rintro e w103 ⟨rfl, hb⟩; replace BK150 := bb BK150 hb; replace BK151 := bb BK151 hb; replace HB := bs HB hb; (try clear hb); have hcz104 := cf14 BK151; have hcz105 := cf5 BK150) | (go_at_call 33; (with_reducible refine (node_within_int.calls a1_9 0 1073741824 true _ A75.out).mono ?_); rintro e w' ⟨rfl, ⟨nd, rfl⟩⟩) | (go_at_call 33; (with_reducible refine (node_within_int.calls a1_10 0 1073741824 true _ A77.out).mono ?_); rintro e w' ⟨rfl, ⟨nd, rfl⟩⟩) | (go_at_call 33; (with_reducible refine (node_within_int.calls a1_13 0 3 false _ A79.out).mono ?_); rintro e w' ⟨rfl, ⟨nd, rfl⟩⟩))
        go_ret
        exact xo (bse HB)
       replace c78 := Bool.eq_false_iff.mpr c78
       subst c78
       rw [if_neg (show ¬ (false = true) by decide)] at H
       obtain rfl := Option.some.inj H
       have hnb106 := NB151_150.out
       have hnc106 := NB150_151.out
       have hcz107 := cf14 BK151
       go_wp2_with (first | (go_at_call 29; (refine (node_far.calls gb150 a0_0 a0_1 a0_2 a0_3 a0_4 a1_7 false _ (be BK150).out (by unfold node_far.f; rw [A67.out]; rfl)).mono ?_); rintro e w' ⟨rfl, ⟨nd, rfl⟩⟩) | (go_at_call 35; (with_reducible refine (node_anyFar.calls gb150 a0_0 a0_1 a0_2 a0_3 a0_4 kj2 _ _ l1_11 false _ ?sideM ?side1 ?side2 A69.out).mono ?_); (case sideM => exact (be BK150).out); (case side1 => repeat (first | exact (Kd.C_below HR1_11.out (bse HB)) | (with_reducible refine Kd.C_alloc ?_ _) | (with_reducible refine Kd.C_drewN ?_ _) | (with_reducible refine Kd.C_drew ?_))); (case side2 => exact HC1_11.out); rintro e w108 ⟨rfl, hb⟩; replace BK150 := bb BK150 hb; replace BK151 := bb BK151 hb; replace HB := bs HB hb; (try clear hb); have hcz109 := cf14 BK151; have hcz110 := cf5 BK150) | (go_at_call 33; (with_reducible refine (node_within_int.calls a1_9 0 1073741824 true _ A75.out).mono ?_); rintro e w' ⟨rfl, ⟨nd, rfl⟩⟩) | (go_at_call 33; (with_reducible refine (node_within_int.calls a1_10 0 1073741824 false _ A77.out).mono ?_); rintro e w' ⟨rfl, ⟨nd, rfl⟩⟩))
       go_ret
       exact xo (bse HB)
      replace c76 := Bool.eq_false_iff.mpr c76
      subst c76
      rw [if_neg (show ¬ (false = true) by decide)] at H
      obtain rfl := Option.some.inj H
      have hnb111 := NB151_150.out
      have hnc111 := NB150_151.out
      have hcz112 := cf14 BK151
      go_wp2_with (first | (go_at_call 29; (refine (node_far.calls gb150 a0_0 a0_1 a0_2 a0_3 a0_4 a1_7 false _ (be BK150).out (by unfold node_far.f; rw [A67.out]; rfl)).mono ?_); rintro e w' ⟨rfl, ⟨nd, rfl⟩⟩) | (go_at_call 35; (with_reducible refine (node_anyFar.calls gb150 a0_0 a0_1 a0_2 a0_3 a0_4 kj2 _ _ l1_11 false _ ?sideM ?side1 ?side2 A69.out).mono ?_); (case sideM => exact (be BK150).out); (case side1 => repeat (first | exact (Kd.C_below HR1_11.out (bse HB)) | (with_reducible refine Kd.C_alloc ?_ _) | (with_reducible refine Kd.C_drewN ?_ _) | (with_reducible refine Kd.C_drew ?_))); (case side2 => exact HC1_11.out); rintro e w113 ⟨rfl, hb⟩; replace BK150 := bb BK150 hb; replace BK151 := bb BK151 hb; replace HB := bs HB hb; (try clear hb); have hcz114 := cf14 BK151; have hcz115 := cf5 BK150) | (go_at_call 33; (with_reducible refine (node_within_int.calls a1_9 0 1073741824 false _ A75.out).mono ?_); rintro e w' ⟨rfl, ⟨nd, rfl⟩⟩))
      go_ret
      exact xo (bse HB)
     rw [if_neg c74] at H
     have c74b0 := decide_eq_false c74
     clear c74
     obtain rfl := Option.some.inj H
     have hnb116 := NB151_150.out
     have hnc116 := NB150_151.out
     have hcz117 := cf14 BK151
     go_wp2_with (first | (go_at_call 29; (refine (node_far.calls gb150 a0_0 a0_1 a0_2 a0_3 a0_4 a1_7 false _ (be BK150).out (by unfold node_far.f; rw [A67.out]; rfl)).mono ?_); rintro e w' ⟨rfl, ⟨nd, rfl⟩⟩) | (go_at_call 35; (with_reducible refine (node_anyFar.calls gb150 a0_0 a0_1 a0_2 a0_3 a0_4 kj2 _ _ l1_11 false _ ?sideM ?side1 ?side2 A69.out).mono ?_); (case sideM => exact (be BK150).out); (case side1 => repeat (first | exact (Kd.C_below HR1_11.out (bse HB)) | (with_reducible refine Kd.C_alloc ?_ _) | (with_reducible refine Kd.C_drewN ?_ _) | (with_reducible refine Kd.C_drew ?_))); (case side2 => exact HC1_11.out); rintro e w118 ⟨rfl, hb⟩; replace BK150 := bb BK150 hb; replace BK151 := bb BK151 hb; replace HB := bs HB hb; (try clear hb); have hcz119 := cf14 BK151; have hcz120 := cf5 BK150))
     go_ret
     exact xo (bse HB)
    replace c68 := Bool.eq_false_iff.mpr c68
    subst c68
    rw [if_neg (show ¬ (false = true) by decide)] at H
    obtain rfl := Option.some.inj H
    have hnb121 := NB151_150.out
    have hnc121 := NB150_151.out
    have hcz122 := cf14 BK151
    go_wp2_with (first | (go_at_call 29; (refine (node_far.calls gb150 a0_0 a0_1 a0_2 a0_3 a0_4 a1_7 true _ (be BK150).out (by unfold node_far.f; rw [A67.out]; rfl)).mono ?_); rintro e w' ⟨rfl, ⟨nd, rfl⟩⟩))
    go_ret
    exact xo (bse HB)
   replace c66 := Bool.eq_false_iff.mpr c66
   subst c66
   rw [if_neg (show ¬ (false = true) by decide)] at H
   obtain rfl := Option.some.inj H
   go_wp2
   go_ret
   exact xo (bse HB)


end Go.Proofs.YtcofclkgfandfaaGreat.Print
