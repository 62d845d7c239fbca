-- PRINTED by print.py (a twelfth state) out of the translation. Not trusted: Lean checks it.
import Derived.Test.YtcofclkgfandfaaSq
import Derived.Test.YtcofclkgfandfaaProg
import Derived.Below
import Derived.Deep.Draws
import Derived.Deep.AppendLies
import Derived.Maps.AppendAt
import Derived.OwnWalk
import Derived.Laws.BytesArg
import Derived.Laws.MakeOwn
import Derived.Laws.OwnMore
import Derived.Deep.OwnRows
import Derived.Tactics
import Derived.Lib.ConvBytes
import Derived.Laws.Slices
import Derived.WalkKit
import Derived.KernelRfl
import Derived.RowKit3
import Derived.Deep.LoopGhost
import Derived.Deep.QuietTactic
import Derived.BigQuiet
import Derived.WideLaws
import Derived.Deep.DeepCutAuto
import Derived.Deep.CutBlock
import Derived.Deep.RegionHeld3
import Derived.Laws.Rows
import Derived.Lib.AppendStr
import Derived.ArgAppend
import Derived.Laws.IdiomCopy
import Derived.OrdersHeld
import Derived.Laws.BitsLemmas
import Derived.RowKit
import Derived.LoopN
import Derived.Test.YtcofclkgfandfaaXtra
import Derived.Test.YtcofclkgfandfaaWWords
import Derived.Test.YtcofclkgfandfaaWLast
import Derived.Test.YtcofclkgfandfaaWTab
import Derived.Test.YtcofclkgfandfaaWQPut
import Derived.Test.YtcofclkgfandfaaWApart
import Derived.Test.YtcofclkgfandfaaWArr
import Derived.Test.YtcofclkgfandfaaWZeros
import Derived.Test.YtcofclkgfandfaaWFoot
import Derived.Test.YtcofclkgfandfaaWKept
import Derived.Test.YtcofclkgfandfaaWShare
import Derived.Test.YtcofclkgfandfaaWN
import Derived.Test.YtcofclkgfandfaaWEqStruct
import Derived.Test.YtcofclkgfandfaaWRepsOne
import Derived.Test.YtcofclkgfandfaaWGuard
import Derived.Test.YtcofclkgfandfaaWNEv
import Derived.Test.YtcofclkgfandfaaWMore
namespace Go.Proofs.Ytcofclkgfandfaa.Print
open Go.RowKit Go.Proofs.YtcofclkgfandfaaW.PrintWords Go.Proofs.YtcofclkgfandfaaW.PrintLast Go.Proofs.YtcofclkgfandfaaW.PrintMore Go.Proofs.YtcofclkgfandfaaX
attribute [local go_sem] str_lss str_geq max2_int min2_int max_two min_two max_three min_three max_four min_four   -- for this text's walks alone
set_option linter.unusedVariables false
set_option linter.unusedSimpArgs false



def errW : Option Int → Value
 | none => .nilIface
 | some c => .iface 0 (.int .i64 c)
theorem errW_none : errW none = .nilIface := rfl
theorem errW_some (c : Int) : errW (some c) = .iface 0 (.int .i64 c) := rfl

theorem info2 : (Try.prog.info? 2).map (fun i => (i.zero, i.size, i.bytes)) = some (some (.int .i64 0), 1, 8) := by kernel_rfl
theorem info44 : (Try.prog.info? 44).map (fun i => (i.zero, i.size, i.bytes)) = some (some (.agg #[(.int .i64 0), (.int .i64 0), (.int .i64 0), (.int .i64 0), (.int .u64 0), (.int .u16 0), (.int .i64 0), (.int .i64 0)]), 8, 64) := by kernel_rfl
-- the values' own types
/-! #### struct type 23 -/
structure S23 where
 f0 : Int
 f1 : Int
 f2 : Int
 f3 : Int
 f4 : Int
def z23 : S23 := ⟨(0 : Int), (0 : Int), (0 : Int), (0 : Int), (0 : Int)⟩
def k23 : Kd S23 := Kd.iso (Kd.pair (Kd.int .i64) (Kd.pair (Kd.int .i64) (Kd.pair (Kd.int .i64) (Kd.pair (Kd.int .i64) (Kd.int .i64))))) (fun x : S23 => (x.f0, x.f1, x.f2, x.f3, x.f4))
theorem k23_open {w : World} {x : S23} {cs : List Value} (h : k23.K w x cs) : cs = [.int .i64 x.f0, .int .i64 x.f1, .int .i64 x.f2, .int .i64 x.f3, .int .i64 x.f4] := by
 obtain ⟨_, _, rfl, rfl, ⟨_, _, rfl, rfl, ⟨_, _, rfl, rfl, ⟨_, _, rfl, rfl, rfl⟩⟩⟩⟩ := h
 exact rfl
/-! #### struct type 25 -/
structure S25 where
 f0 : Int
 f1 : Int
 f2 : Int
def k25 : Kd S25 := Kd.iso (Kd.pair (Kd.int .i64) (Kd.pair (Kd.int .i64) (Kd.int .i64))) (fun x : S25 => (x.f0, x.f1, x.f2))
theorem k25_open {w : World} {x : S25} {cs : List Value} (h : k25.K w x cs) : cs = [.int .i64 x.f0, .int .i64 x.f1, .int .i64 x.f2] := by
 obtain ⟨_, _, rfl, rfl, ⟨_, _, rfl, rfl, rfl⟩⟩ := h
 exact rfl
/-! #### struct type 42 -/
structure S42 where
 f0 : Int
 f1 : Int
 f2 : Int
 f3 : Int
def z42 : S42 := ⟨(0 : Int), (0 : Int), (0 : Int), (0 : Int)⟩
def k42 : Kd S42 := Kd.iso (Kd.pair (Kd.int .i64) (Kd.pair (Kd.int .i64) (Kd.pair (Kd.int .u64) (Kd.int .u16)))) (fun x : S42 => (x.f0, x.f1, x.f2, x.f3))
theorem k42_open {w : World} {x : S42} {cs : List Value} (h : k42.K w x cs) : cs = [.int .i64 x.f0, .int .i64 x.f1, .int .u64 x.f2, .int .u16 x.f3] := by
 obtain ⟨_, _, rfl, rfl, ⟨_, _, rfl, rfl, ⟨_, _, rfl, rfl, rfl⟩⟩⟩ := h
 exact rfl
theorem k42_mkM (w : World) (base : Nat) (ok : Nat → Prop) (x : S42)  : k42.M w base ok x [.int .i64 x.f0, .int .i64 x.f1, .int .u64 x.f2, .int .u16 x.f3] := ⟨[.int .i64 x.f0], [.int .i64 x.f1, .int .u64 x.f2, .int .u16 x.f3], rfl, rfl, ⟨[.int .i64 x.f1], [.int .u64 x.f2, .int .u16 x.f3], rfl, rfl, ⟨[.int .u64 x.f2], [.int .u16 x.f3], rfl, rfl, rfl⟩⟩⟩
/-! #### struct type 44 -/
structure S44 where
 f0 : Int
 f1 : Int
 f2 : S42
 f3 : Int
 f4 : Int
def z44 : S44 := ⟨(0 : Int), (0 : Int), z42, (0 : Int), (0 : Int)⟩
def k44 : Kd S44 := Kd.iso (Kd.pair (Kd.int .i64) (Kd.pair (Kd.int .i64) (Kd.pair k42 (Kd.pair (Kd.int .i64) (Kd.int .i64))))) (fun x : S44 => (x.f0, x.f1, x.f2, x.f3, x.f4))
theorem k44_open {w : World} {x : S44} {cs : List Value} (h : k44.K w x cs) : cs = [.int .i64 x.f0, .int .i64 x.f1, .int .i64 x.f2.f0, .int .i64 x.f2.f1, .int .u64 x.f2.f2, .int .u16 x.f2.f3, .int .i64 x.f3, .int .i64 x.f4] := by
 obtain ⟨_, _, rfl, rfl, ⟨_, _, rfl, rfl, ⟨_, _, rfl, s2, ⟨_, _, rfl, rfl, rfl⟩⟩⟩⟩ := h
 obtain rfl := k42_open s2
 exact rfl
theorem k44_mkM (w : World) (base : Nat) (ok : Nat → Prop) (x : S44)  : k44.M w base ok x [.int .i64 x.f0, .int .i64 x.f1, .int .i64 x.f2.f0, .int .i64 x.f2.f1, .int .u64 x.f2.f2, .int .u16 x.f2.f3, .int .i64 x.f3, .int .i64 x.f4] := ⟨[.int .i64 x.f0], [.int .i64 x.f1, .int .i64 x.f2.f0, .int .i64 x.f2.f1, .int .u64 x.f2.f2, .int .u16 x.f2.f3, .int .i64 x.f3, .int .i64 x.f4], rfl, rfl, ⟨[.int .i64 x.f1], [.int .i64 x.f2.f0, .int .i64 x.f2.f1, .int .u64 x.f2.f2, .int .u16 x.f2.f3, .int .i64 x.f3, .int .i64 x.f4], rfl, rfl, ⟨[.int .i64 x.f2.f0, .int .i64 x.f2.f1, .int .u64 x.f2.f2, .int .u16 x.f2.f3], [.int .i64 x.f3, .int .i64 x.f4], rfl, (k42_mkM w base ok x.f2 ), ⟨[.int .i64 x.f3], [.int .i64 x.f4], rfl, rfl, rfl⟩⟩⟩⟩
def rd_T44 (xs : List S44) (i : Int) : S44 := xs.getD i.toNat z44
theorem at_T44 {w : World} {A : Option Addr} {n : Nat} {xs : List S44} (h : Kd.C k44 w A n xs) (i : Int) (h0 : 0 ≤ i) (h1 : i < n) : ∃ ad , A = some ad ∧ w.cell? (ad.add (i.toNat * 8)) = some (.int .i64 (rd_T44 xs i).f0) ∧ w.cell? ⟨(ad.add (i.toNat * 8)).block, (ad.add (i.toNat * 8)).off + 1, none⟩ = some (.int .i64 (rd_T44 xs i).f1) ∧ w.cell? ⟨(ad.add (i.toNat * 8)).block, (ad.add (i.toNat * 8)).off + 2, none⟩ = some (.int .i64 (rd_T44 xs i).f2.f0) ∧ w.cell? ⟨(ad.add (i.toNat * 8)).block, (ad.add (i.toNat * 8)).off + 3, none⟩ = some (.int .i64 (rd_T44 xs i).f2.f1) ∧ w.cell? ⟨(ad.add (i.toNat * 8)).block, (ad.add (i.toNat * 8)).off + 4, none⟩ = some (.int .u64 (rd_T44 xs i).f2.f2) ∧ w.cell? ⟨(ad.add (i.toNat * 8)).block, (ad.add (i.toNat * 8)).off + 5, none⟩ = some (.int .u16 (rd_T44 xs i).f2.f3) ∧ w.cell? ⟨(ad.add (i.toNat * 8)).block, (ad.add (i.toNat * 8)).off + 6, none⟩ = some (.int .i64 (rd_T44 xs i).f3) ∧ w.cell? ⟨(ad.add (i.toNat * 8)).block, (ad.add (i.toNat * 8)).off + 7, none⟩ = some (.int .i64 (rd_T44 xs i).f4) := by
 obtain ⟨ad, c, e, _, hK, hc0⟩ := Kd.C_get h z44 i h0 h1
 have hc : ∀ j u, c[j]? = some u → w.cell? (ad.add (i.toNat * 8 + j)) = some u := hc0
 obtain rfl := k44_open hK
 exact ⟨ad, e, hc 0 _ rfl, by rw [← add_field _ _ 1 (by omega)]; exact hc 1 _ rfl, by rw [← add_field _ _ 2 (by omega)]; exact hc 2 _ rfl, by rw [← add_field _ _ 3 (by omega)]; exact hc 3 _ rfl, by rw [← add_field _ _ 4 (by omega)]; exact hc 4 _ rfl, by rw [← add_field _ _ 5 (by omega)]; exact hc 5 _ rfl, by rw [← add_field _ _ 6 (by omega)]; exact hc 6 _ rfl, by rw [← add_field _ _ 7 (by omega)]; exact hc 7 _ rfl⟩


theorem eqA42 (d : Nat) (w : World) (x0 y0 : Int) (x1 y1 : Int) (x2 y2 : Int) (x3 y3 : Int) :
  (Op.equalIn (d + 2) 42 (.agg #[.int .i64 x0, .int .i64 x1, .int .u64 x2, .int .u16 x3]) (.agg #[.int .i64 y0, .int .i64 y1, .int .u64 y2, .int .u16 y3])).run Try.prog w = .ok (x0 == y0 && (x1 == y1 && (x2 == y2 && (x3 == y3)))) w := by
 refine eqA_of Try.underlying42 (by kernel_rfl) ?_
 refine eqf_cons (by rfl) (by go_simp; rfl) (by go_simp; rfl) (by go_simp) ?_
 refine eqf_cons (by rfl) (by go_simp; rfl) (by go_simp; rfl) (by go_simp) ?_
 refine eqf_cons (by rfl) (by go_simp; rfl) (by go_simp; rfl) (by go_simp) ?_
 exact eqf_last (by rfl) (by go_simp; rfl) (by go_simp; rfl) (by go_simp)

theorem eqA25 (d : Nat) (w : World) (x0 y0 : Int) (x1 y1 : Int) (x2 y2 : Int) :
  (Op.equalIn (d + 2) 25 (.agg #[.int .i64 x0, .int .i64 x1, .int .i64 x2]) (.agg #[.int .i64 y0, .int .i64 y1, .int .i64 y2])).run Try.prog w = .ok (x0 == y0 && (x1 == y1 && (x2 == y2))) w := by
 refine eqA_of Try.underlying25 (by kernel_rfl) ?_
 refine eqf_cons (by rfl) (by go_simp; rfl) (by go_simp; rfl) (by go_simp) ?_
 refine eqf_cons (by rfl) (by go_simp; rfl) (by go_simp; rfl) (by go_simp) ?_
 exact eqf_last (by rfl) (by go_simp; rfl) (by go_simp; rfl) (by go_simp)
theorem eqA30 (d : Nat) (w : World) (x0 y0 : Int) (x1 y1 : Int) :
  (Op.equalIn (d + 2) 30 (.agg #[.int .i64 x0, .int .i64 x1]) (.agg #[.int .i64 y0, .int .i64 y1])).run Try.prog w = .ok (x0 == y0 && (x1 == y1)) w := by
 refine eqA_of Try.underlying30 (by kernel_rfl) ?_
 refine eqf_cons (by rfl) (by go_simp; rfl) (by go_simp; rfl) (by go_simp) ?_
 exact eqf_last (by rfl) (by go_simp; rfl) (by go_simp; rfl) (by go_simp)
theorem eqA86 (d : Nat) (w : World) (x0 y0 : Int) (x1 y1 : Int) (x2 y2 : Int) (x3 y3 : Int) (x4 y4 : Int) (x5 y5 : Int) (x6 y6 : Int) (x7 y7 : Int) (x8 y8 : Int) (x9 y9 : Int) (x10 y10 : Int) (x11 y11 : Bool) (x12 y12 : Int) :
  (Op.equalIn (d + 3) 86 (.agg #[.int .i64 x0, .int .i64 x1, .int .u64 x2, .int .i64 x3, .int .i64 x4, .int .i64 x5, .int .i64 x6, .int .i64 x7, .int .u16 x8, .int .i64 x9, .int .i64 x10, .bool x11, .int .i64 x12]) (.agg #[.int .i64 y0, .int .i64 y1, .int .u64 y2, .int .i64 y3, .int .i64 y4, .int .i64 y5, .int .i64 y6, .int .i64 y7, .int .u16 y8, .int .i64 y9, .int .i64 y10, .bool y11, .int .i64 y12])).run Try.prog w = .ok (x0 == y0 && (x1 == y1 && (x2 == y2 && (x3 == y3 && ((x4 == y4 && (x5 == y5 && (x6 == y6))) && (x7 == y7 && (x8 == y8 && ((x9 == y9 && (x10 == y10)) && (x11 == y11 && (x12 == y12)))))))))) w := by
 refine eqA_of Try.underlying86 (by kernel_rfl) ?_
 refine eqf_cons (by rfl) (by go_simp; rfl) (by go_simp; rfl) (by go_simp) ?_
 refine eqf_cons (by rfl) (by go_simp; rfl) (by go_simp; rfl) (by go_simp) ?_
 refine eqf_cons (by rfl) (by go_simp; rfl) (by go_simp; rfl) (by go_simp) ?_
 refine eqf_cons (by rfl) (by go_simp; rfl) (by go_simp; rfl) (by go_simp) ?_
 refine eqf_cons (by rfl) (by go_simp) (by go_simp) (eqA25 (d + 0) w _ _ _ _ _ _) ?_
 refine eqf_cons (by rfl) (by go_simp; rfl) (by go_simp; rfl) (by go_simp) ?_
 refine eqf_cons (by rfl) (by go_simp; rfl) (by go_simp; rfl) (by go_simp) ?_
 refine eqf_cons (by rfl) (by go_simp) (by go_simp) (eqA30 (d + 0) w _ _ _ _) ?_
 refine eqf_cons (by rfl) (by go_simp; rfl) (by go_simp; rfl) (by go_simp) ?_
 exact eqf_last (by rfl) (by go_simp; rfl) (by go_simp; rfl) (by go_simp)

/-! ### node_within_int64: function 24 -/
def node_within_int64.f (a0 : Int) (a1 : Int) (a2 : Int) : Option (Bool) := if a0 ≥ a1 then (some (decide (a0 ≤ a2))) else (some false)
set_option maxHeartbeats 8000000 in
set_option maxRecDepth 100000 in
theorem node_within_int64.calls (a0 : Int) (a1 : Int) (a2 : Int) (r : Bool) (w : World) (h : node_within_int64.f a0 a1 a2 = some r) :
  Calls Try.prog 24 #[.int .i64 a0, .int .i64 a1, .int .i64 a2] w fun e w' => e = .returned (.bool r) ∧ Drawn0 w w' := by
 have H : (if a0 ≥ a1 then (some (decide (a0 ≤ a2))) else (some false)) = some r := h
 clear h
 by_cases c4 : a0 ≥ a1
 ·rw [if_pos c4] at H
  have c4b0 : decide (a1 ≤ a0) = true := decide_eq_true c4
  clear c4
  obtain rfl := Option.some.inj H
  go_enter Try.func24, Try.ntmps24
  go_wp2
  go_ret
  exact ⟨by first | rfl | (simp; done) | (simp [*]; done), by repeat (first | exact Drawn0.refl _ | apply Drawn0.step)⟩
 ·rw [if_neg c4] at H
  have c4b0 : decide (a1 ≤ a0) = false := decide_eq_false c4
  clear c4
  obtain rfl := Option.some.inj H
  go_enter Try.func24, Try.ntmps24
  go_wp2
  go_ret
  exact ⟨by first | rfl | (simp; done) | (simp [*]; done), by repeat (first | exact Drawn0.refl _ | apply Drawn0.step)⟩

/-! ### medl_Check: function 25 -/
/-- May a schedule be? -/
def medl_Check.f (a0_0 a0_1 a0_2 a0_3 a0_4 : Int) : Option Int := some (if 2 ≤ a0_0 ∧ a0_0 ≤ 16 ∧ 16 ≤ a0_1 ∧ a0_1 ≤ 1048576 ∧ 1 ≤ a0_2 ∧ a0_2 ≤ a0_1 ∧ 1 ≤ a0_3 ∧ a0_3 ≤ a0_1 ∧ 1 ≤ a0_4 ∧ a0_4 ≤ a0_1 ∧ a0_4 ≤ a0_2 ∧ a0_2 + a0_3 + a0_4 < a0_1 then 0 else 1)
set_option maxHeartbeats 8000000 in
set_option maxRecDepth 100000 in
theorem medl_Check.w0 (a0_0 a0_1 a0_2 a0_3 a0_4 : Int) (w : World)  (c0 : decide (2 ≤ a0_0) = false) :
  Calls Try.prog 25 #[.agg #[.int .i64 a0_0, .int .i64 a0_1, .int .i64 a0_2, .int .i64 a0_3, .int .i64 a0_4]] w fun e w' => e = .returned (.int .i64 1) ∧ Below w.heap.size w w' := by
 have hu := Try.underlying23
 have i0 : ∀ w : World, (Instr.index 82 (.agg #[.int .i64 a0_2, .int .i64 a0_3, .int .i64 a0_4]) (.int .i64 0)).run Try.prog w = .ok (.int .i64 a0_2) w := fun _ => by kernel_rfl
 have i1 : ∀ w : World, (Instr.index 82 (.agg #[.int .i64 a0_2, .int .i64 a0_3, .int .i64 a0_4]) (.int .i64 1)).run Try.prog w = .ok (.int .i64 a0_3) w := fun _ => by kernel_rfl
 have i2 : ∀ w : World, (Instr.index 82 (.agg #[.int .i64 a0_2, .int .i64 a0_3, .int .i64 a0_4]) (.int .i64 2)).run Try.prog w = .ok (.int .i64 a0_4) w := fun _ => by kernel_rfl
 go_enter Try.func25, Try.ntmps25
 go_wp2
 refine wp_loop_rounds 4 ?_
 rw [rounds_succ]
 go_wp2
 rw [rounds_succ]
 go_wp2
 rw [rounds_succ]
 go_wp2
 rw [rounds_succ]
 go_wp2
 go_ret
 exact ⟨rfl, below_alloc (Below.refl _ _) _⟩
set_option maxHeartbeats 8000000 in
set_option maxRecDepth 100000 in
theorem medl_Check.w1 (a0_0 a0_1 a0_2 a0_3 a0_4 : Int) (w : World) (c0 : decide (2 ≤ a0_0) = true) (c1 : decide (a0_0 ≤ 16) = false) :
  Calls Try.prog 25 #[.agg #[.int .i64 a0_0, .int .i64 a0_1, .int .i64 a0_2, .int .i64 a0_3, .int .i64 a0_4]] w fun e w' => e = .returned (.int .i64 1) ∧ Below w.heap.size w w' := by
 have hu := Try.underlying23
 have i0 : ∀ w : World, (Instr.index 82 (.agg #[.int .i64 a0_2, .int .i64 a0_3, .int .i64 a0_4]) (.int .i64 0)).run Try.prog w = .ok (.int .i64 a0_2) w := fun _ => by kernel_rfl
 have i1 : ∀ w : World, (Instr.index 82 (.agg #[.int .i64 a0_2, .int .i64 a0_3, .int .i64 a0_4]) (.int .i64 1)).run Try.prog w = .ok (.int .i64 a0_3) w := fun _ => by kernel_rfl
 have i2 : ∀ w : World, (Instr.index 82 (.agg #[.int .i64 a0_2, .int .i64 a0_3, .int .i64 a0_4]) (.int .i64 2)).run Try.prog w = .ok (.int .i64 a0_4) w := fun _ => by kernel_rfl
 go_enter Try.func25, Try.ntmps25
 go_wp2
 refine wp_loop_rounds 4 ?_
 rw [rounds_succ]
 go_wp2
 rw [rounds_succ]
 go_wp2
 rw [rounds_succ]
 go_wp2
 rw [rounds_succ]
 go_wp2
 go_ret
 exact ⟨rfl, below_alloc (Below.refl _ _) _⟩
set_option maxHeartbeats 8000000 in
set_option maxRecDepth 100000 in
theorem medl_Check.w2 (a0_0 a0_1 a0_2 a0_3 a0_4 : Int) (w : World) (c0 : decide (2 ≤ a0_0) = true) (c1 : decide (a0_0 ≤ 16) = true) (c2 : decide (16 ≤ a0_1) = false) :
  Calls Try.prog 25 #[.agg #[.int .i64 a0_0, .int .i64 a0_1, .int .i64 a0_2, .int .i64 a0_3, .int .i64 a0_4]] w fun e w' => e = .returned (.int .i64 1) ∧ Below w.heap.size w w' := by
 have hu := Try.underlying23
 have i0 : ∀ w : World, (Instr.index 82 (.agg #[.int .i64 a0_2, .int .i64 a0_3, .int .i64 a0_4]) (.int .i64 0)).run Try.prog w = .ok (.int .i64 a0_2) w := fun _ => by kernel_rfl
 have i1 : ∀ w : World, (Instr.index 82 (.agg #[.int .i64 a0_2, .int .i64 a0_3, .int .i64 a0_4]) (.int .i64 1)).run Try.prog w = .ok (.int .i64 a0_3) w := fun _ => by kernel_rfl
 have i2 : ∀ w : World, (Instr.index 82 (.agg #[.int .i64 a0_2, .int .i64 a0_3, .int .i64 a0_4]) (.int .i64 2)).run Try.prog w = .ok (.int .i64 a0_4) w := fun _ => by kernel_rfl
 go_enter Try.func25, Try.ntmps25
 go_wp2
 refine wp_loop_rounds 4 ?_
 rw [rounds_succ]
 go_wp2
 rw [rounds_succ]
 go_wp2
 rw [rounds_succ]
 go_wp2
 rw [rounds_succ]
 go_wp2
 go_ret
 exact ⟨rfl, below_alloc (Below.refl _ _) _⟩
set_option maxHeartbeats 8000000 in
set_option maxRecDepth 100000 in
theorem medl_Check.w3 (a0_0 a0_1 a0_2 a0_3 a0_4 : Int) (w : World) (c0 : decide (2 ≤ a0_0) = true) (c1 : decide (a0_0 ≤ 16) = true) (c2 : decide (16 ≤ a0_1) = true) (c3 : decide (a0_1 ≤ 1048576) = false) :
  Calls Try.prog 25 #[.agg #[.int .i64 a0_0, .int .i64 a0_1, .int .i64 a0_2, .int .i64 a0_3, .int .i64 a0_4]] w fun e w' => e = .returned (.int .i64 1) ∧ Below w.heap.size w w' := by
 have hu := Try.underlying23
 have i0 : ∀ w : World, (Instr.index 82 (.agg #[.int .i64 a0_2, .int .i64 a0_3, .int .i64 a0_4]) (.int .i64 0)).run Try.prog w = .ok (.int .i64 a0_2) w := fun _ => by kernel_rfl
 have i1 : ∀ w : World, (Instr.index 82 (.agg #[.int .i64 a0_2, .int .i64 a0_3, .int .i64 a0_4]) (.int .i64 1)).run Try.prog w = .ok (.int .i64 a0_3) w := fun _ => by kernel_rfl
 have i2 : ∀ w : World, (Instr.index 82 (.agg #[.int .i64 a0_2, .int .i64 a0_3, .int .i64 a0_4]) (.int .i64 2)).run Try.prog w = .ok (.int .i64 a0_4) w := fun _ => by kernel_rfl
 go_enter Try.func25, Try.ntmps25
 go_wp2
 refine wp_loop_rounds 4 ?_
 rw [rounds_succ]
 go_wp2
 rw [rounds_succ]
 go_wp2
 rw [rounds_succ]
 go_wp2
 rw [rounds_succ]
 go_wp2
 go_ret
 exact ⟨rfl, below_alloc (Below.refl _ _) _⟩
set_option maxHeartbeats 8000000 in
set_option maxRecDepth 100000 in
theorem medl_Check.w4 (a0_0 a0_1 a0_2 a0_3 a0_4 : Int) (w : World) (c0 : decide (2 ≤ a0_0) = true) (c1 : decide (a0_0 ≤ 16) = true) (c2 : decide (16 ≤ a0_1) = true) (c3 : decide (a0_1 ≤ 1048576) = true) (c4 : decide (1 ≤ a0_2) = false) :
  Calls Try.prog 25 #[.agg #[.int .i64 a0_0, .int .i64 a0_1, .int .i64 a0_2, .int .i64 a0_3, .int .i64 a0_4]] w fun e w' => e = .returned (.int .i64 1) ∧ Below w.heap.size w w' := by
 have hu := Try.underlying23
 have i0 : ∀ w : World, (Instr.index 82 (.agg #[.int .i64 a0_2, .int .i64 a0_3, .int .i64 a0_4]) (.int .i64 0)).run Try.prog w = .ok (.int .i64 a0_2) w := fun _ => by kernel_rfl
 have i1 : ∀ w : World, (Instr.index 82 (.agg #[.int .i64 a0_2, .int .i64 a0_3, .int .i64 a0_4]) (.int .i64 1)).run Try.prog w = .ok (.int .i64 a0_3) w := fun _ => by kernel_rfl
 have i2 : ∀ w : World, (Instr.index 82 (.agg #[.int .i64 a0_2, .int .i64 a0_3, .int .i64 a0_4]) (.int .i64 2)).run Try.prog w = .ok (.int .i64 a0_4) w := fun _ => by kernel_rfl
 go_enter Try.func25, Try.ntmps25
 go_wp2
 refine wp_loop_rounds 4 ?_
 rw [rounds_succ]
 go_wp2
 rw [rounds_succ]
 go_wp2
 rw [rounds_succ]
 go_wp2
 rw [rounds_succ]
 go_wp2
 go_ret
 exact ⟨rfl, below_alloc (Below.refl _ _) _⟩
set_option maxHeartbeats 8000000 in
set_option maxRecDepth 100000 in
theorem medl_Check.w5 (a0_0 a0_1 a0_2 a0_3 a0_4 : Int) (w : World) (c0 : decide (2 ≤ a0_0) = true) (c1 : decide (a0_0 ≤ 16) = true) (c2 : decide (16 ≤ a0_1) = true) (c3 : decide (a0_1 ≤ 1048576) = true) (c4 : decide (1 ≤ a0_2) = true) (c5 : decide (a0_2 ≤ a0_1) = false) :
  Calls Try.prog 25 #[.agg #[.int .i64 a0_0, .int .i64 a0_1, .int .i64 a0_2, .int .i64 a0_3, .int .i64 a0_4]] w fun e w' => e = .returned (.int .i64 1) ∧ Below w.heap.size w w' := by
 have hu := Try.underlying23
 have i0 : ∀ w : World, (Instr.index 82 (.agg #[.int .i64 a0_2, .int .i64 a0_3, .int .i64 a0_4]) (.int .i64 0)).run Try.prog w = .ok (.int .i64 a0_2) w := fun _ => by kernel_rfl
 have i1 : ∀ w : World, (Instr.index 82 (.agg #[.int .i64 a0_2, .int .i64 a0_3, .int .i64 a0_4]) (.int .i64 1)).run Try.prog w = .ok (.int .i64 a0_3) w := fun _ => by kernel_rfl
 have i2 : ∀ w : World, (Instr.index 82 (.agg #[.int .i64 a0_2, .int .i64 a0_3, .int .i64 a0_4]) (.int .i64 2)).run Try.prog w = .ok (.int .i64 a0_4) w := fun _ => by kernel_rfl
 go_enter Try.func25, Try.ntmps25
 go_wp2
 refine wp_loop_rounds 4 ?_
 rw [rounds_succ]
 go_wp2
 rw [rounds_succ]
 go_wp2
 rw [rounds_succ]
 go_wp2
 rw [rounds_succ]
 go_wp2
 go_ret
 exact ⟨rfl, below_alloc (Below.refl _ _) _⟩
set_option maxHeartbeats 8000000 in
set_option maxRecDepth 100000 in
theorem medl_Check.w6 (a0_0 a0_1 a0_2 a0_3 a0_4 : Int) (w : World) (c0 : decide (2 ≤ a0_0) = true) (c1 : decide (a0_0 ≤ 16) = true) (c2 : decide (16 ≤ a0_1) = true) (c3 : decide (a0_1 ≤ 1048576) = true) (c4 : decide (1 ≤ a0_2) = true) (c5 : decide (a0_2 ≤ a0_1) = true) (c6 : decide (1 ≤ a0_3) = false) :
  Calls Try.prog 25 #[.agg #[.int .i64 a0_0, .int .i64 a0_1, .int .i64 a0_2, .int .i64 a0_3, .int .i64 a0_4]] w fun e w' => e = .returned (.int .i64 1) ∧ Below w.heap.size w w' := by
 have hu := Try.underlying23
 have i0 : ∀ w : World, (Instr.index 82 (.agg #[.int .i64 a0_2, .int .i64 a0_3, .int .i64 a0_4]) (.int .i64 0)).run Try.prog w = .ok (.int .i64 a0_2) w := fun _ => by kernel_rfl
 have i1 : ∀ w : World, (Instr.index 82 (.agg #[.int .i64 a0_2, .int .i64 a0_3, .int .i64 a0_4]) (.int .i64 1)).run Try.prog w = .ok (.int .i64 a0_3) w := fun _ => by kernel_rfl
 have i2 : ∀ w : World, (Instr.index 82 (.agg #[.int .i64 a0_2, .int .i64 a0_3, .int .i64 a0_4]) (.int .i64 2)).run Try.prog w = .ok (.int .i64 a0_4) w := fun _ => by kernel_rfl
 go_enter Try.func25, Try.ntmps25
 go_wp2
 refine wp_loop_rounds 4 ?_
 rw [rounds_succ]
 go_wp2
 rw [rounds_succ]
 go_wp2
 rw [rounds_succ]
 go_wp2
 rw [rounds_succ]
 go_wp2
 go_ret
 exact ⟨rfl, below_alloc (Below.refl _ _) _⟩
set_option maxHeartbeats 8000000 in
set_option maxRecDepth 100000 in
theorem medl_Check.w7 (a0_0 a0_1 a0_2 a0_3 a0_4 : Int) (w : World) (c0 : decide (2 ≤ a0_0) = true) (c1 : decide (a0_0 ≤ 16) = true) (c2 : decide (16 ≤ a0_1) = true) (c3 : decide (a0_1 ≤ 1048576) = true) (c4 : decide (1 ≤ a0_2) = true) (c5 : decide (a0_2 ≤ a0_1) = true) (c6 : decide (1 ≤ a0_3) = true) (c7 : decide (a0_3 ≤ a0_1) = false) :
  Calls Try.prog 25 #[.agg #[.int .i64 a0_0, .int .i64 a0_1, .int .i64 a0_2, .int .i64 a0_3, .int .i64 a0_4]] w fun e w' => e = .returned (.int .i64 1) ∧ Below w.heap.size w w' := by
 have hu := Try.underlying23
 have i0 : ∀ w : World, (Instr.index 82 (.agg #[.int .i64 a0_2, .int .i64 a0_3, .int .i64 a0_4]) (.int .i64 0)).run Try.prog w = .ok (.int .i64 a0_2) w := fun _ => by kernel_rfl
 have i1 : ∀ w : World, (Instr.index 82 (.agg #[.int .i64 a0_2, .int .i64 a0_3, .int .i64 a0_4]) (.int .i64 1)).run Try.prog w = .ok (.int .i64 a0_3) w := fun _ => by kernel_rfl
 have i2 : ∀ w : World, (Instr.index 82 (.agg #[.int .i64 a0_2, .int .i64 a0_3, .int .i64 a0_4]) (.int .i64 2)).run Try.prog w = .ok (.int .i64 a0_4) w := fun _ => by kernel_rfl
 go_enter Try.func25, Try.ntmps25
 go_wp2
 refine wp_loop_rounds 4 ?_
 rw [rounds_succ]
 go_wp2
 rw [rounds_succ]
 go_wp2
 rw [rounds_succ]
 go_wp2
 rw [rounds_succ]
 go_wp2
 go_ret
 exact ⟨rfl, below_alloc (Below.refl _ _) _⟩
set_option maxHeartbeats 8000000 in
set_option maxRecDepth 100000 in
theorem medl_Check.w8 (a0_0 a0_1 a0_2 a0_3 a0_4 : Int) (w : World) (c0 : decide (2 ≤ a0_0) = true) (c1 : decide (a0_0 ≤ 16) = true) (c2 : decide (16 ≤ a0_1) = true) (c3 : decide (a0_1 ≤ 1048576) = true) (c4 : decide (1 ≤ a0_2) = true) (c5 : decide (a0_2 ≤ a0_1) = true) (c6 : decide (1 ≤ a0_3) = true) (c7 : decide (a0_3 ≤ a0_1) = true) (c8 : decide (1 ≤ a0_4) = false) :
  Calls Try.prog 25 #[.agg #[.int .i64 a0_0, .int .i64 a0_1, .int .i64 a0_2, .int .i64 a0_3, .int .i64 a0_4]] w fun e w' => e = .returned (.int .i64 1) ∧ Below w.heap.size w w' := by
 have hu := Try.underlying23
 have i0 : ∀ w : World, (Instr.index 82 (.agg #[.int .i64 a0_2, .int .i64 a0_3, .int .i64 a0_4]) (.int .i64 0)).run Try.prog w = .ok (.int .i64 a0_2) w := fun _ => by kernel_rfl
 have i1 : ∀ w : World, (Instr.index 82 (.agg #[.int .i64 a0_2, .int .i64 a0_3, .int .i64 a0_4]) (.int .i64 1)).run Try.prog w = .ok (.int .i64 a0_3) w := fun _ => by kernel_rfl
 have i2 : ∀ w : World, (Instr.index 82 (.agg #[.int .i64 a0_2, .int .i64 a0_3, .int .i64 a0_4]) (.int .i64 2)).run Try.prog w = .ok (.int .i64 a0_4) w := fun _ => by kernel_rfl
 go_enter Try.func25, Try.ntmps25
 go_wp2
 refine wp_loop_rounds 4 ?_
 rw [rounds_succ]
 go_wp2
 rw [rounds_succ]
 go_wp2
 rw [rounds_succ]
 go_wp2
 rw [rounds_succ]
 go_wp2
 go_ret
 exact ⟨rfl, below_alloc (Below.refl _ _) _⟩
set_option maxHeartbeats 8000000 in
set_option maxRecDepth 100000 in
theorem medl_Check.w9 (a0_0 a0_1 a0_2 a0_3 a0_4 : Int) (w : World) (c0 : decide (2 ≤ a0_0) = true) (c1 : decide (a0_0 ≤ 16) = true) (c2 : decide (16 ≤ a0_1) = true) (c3 : decide (a0_1 ≤ 1048576) = true) (c4 : decide (1 ≤ a0_2) = true) (c5 : decide (a0_2 ≤ a0_1) = true) (c6 : decide (1 ≤ a0_3) = true) (c7 : decide (a0_3 ≤ a0_1) = true) (c8 : decide (1 ≤ a0_4) = true) (c9 : decide (a0_4 ≤ a0_1) = false) :
  Calls Try.prog 25 #[.agg #[.int .i64 a0_0, .int .i64 a0_1, .int .i64 a0_2, .int .i64 a0_3, .int .i64 a0_4]] w fun e w' => e = .returned (.int .i64 1) ∧ Below w.heap.size w w' := by
 have hu := Try.underlying23
 have i0 : ∀ w : World, (Instr.index 82 (.agg #[.int .i64 a0_2, .int .i64 a0_3, .int .i64 a0_4]) (.int .i64 0)).run Try.prog w = .ok (.int .i64 a0_2) w := fun _ => by kernel_rfl
 have i1 : ∀ w : World, (Instr.index 82 (.agg #[.int .i64 a0_2, .int .i64 a0_3, .int .i64 a0_4]) (.int .i64 1)).run Try.prog w = .ok (.int .i64 a0_3) w := fun _ => by kernel_rfl
 have i2 : ∀ w : World, (Instr.index 82 (.agg #[.int .i64 a0_2, .int .i64 a0_3, .int .i64 a0_4]) (.int .i64 2)).run Try.prog w = .ok (.int .i64 a0_4) w := fun _ => by kernel_rfl
 go_enter Try.func25, Try.ntmps25
 go_wp2
 refine wp_loop_rounds 4 ?_
 rw [rounds_succ]
 go_wp2
 rw [rounds_succ]
 go_wp2
 rw [rounds_succ]
 go_wp2
 rw [rounds_succ]
 go_wp2
 go_ret
 exact ⟨rfl, below_alloc (Below.refl _ _) _⟩
set_option maxHeartbeats 8000000 in
set_option maxRecDepth 100000 in
theorem medl_Check.w10 (a0_0 a0_1 a0_2 a0_3 a0_4 : Int) (w : World) (c0 : decide (2 ≤ a0_0) = true) (c1 : decide (a0_0 ≤ 16) = true) (c2 : decide (16 ≤ a0_1) = true) (c3 : decide (a0_1 ≤ 1048576) = true) (c4 : decide (1 ≤ a0_2) = true) (c5 : decide (a0_2 ≤ a0_1) = true) (c6 : decide (1 ≤ a0_3) = true) (c7 : decide (a0_3 ≤ a0_1) = true) (c8 : decide (1 ≤ a0_4) = true) (c9 : decide (a0_4 ≤ a0_1) = true) (c10 : decide (a0_4 ≤ a0_2) = false) :
  Calls Try.prog 25 #[.agg #[.int .i64 a0_0, .int .i64 a0_1, .int .i64 a0_2, .int .i64 a0_3, .int .i64 a0_4]] w fun e w' => e = .returned (.int .i64 1) ∧ Below w.heap.size w w' := by
 have hu := Try.underlying23
 have i0 : ∀ w : World, (Instr.index 82 (.agg #[.int .i64 a0_2, .int .i64 a0_3, .int .i64 a0_4]) (.int .i64 0)).run Try.prog w = .ok (.int .i64 a0_2) w := fun _ => by kernel_rfl
 have i1 : ∀ w : World, (Instr.index 82 (.agg #[.int .i64 a0_2, .int .i64 a0_3, .int .i64 a0_4]) (.int .i64 1)).run Try.prog w = .ok (.int .i64 a0_3) w := fun _ => by kernel_rfl
 have i2 : ∀ w : World, (Instr.index 82 (.agg #[.int .i64 a0_2, .int .i64 a0_3, .int .i64 a0_4]) (.int .i64 2)).run Try.prog w = .ok (.int .i64 a0_4) w := fun _ => by kernel_rfl
 go_enter Try.func25, Try.ntmps25
 go_wp2
 refine wp_loop_rounds 4 ?_
 rw [rounds_succ]
 go_wp2
 rw [rounds_succ]
 go_wp2
 rw [rounds_succ]
 go_wp2
 rw [rounds_succ]
 go_wp2
 go_ret
 exact ⟨rfl, below_alloc (Below.refl _ _) _⟩
set_option maxHeartbeats 8000000 in
set_option maxRecDepth 100000 in
theorem medl_Check.w11 (a0_0 a0_1 a0_2 a0_3 a0_4 : Int) (w : World) (c0 : decide (2 ≤ a0_0) = true) (c1 : decide (a0_0 ≤ 16) = true) (c2 : decide (16 ≤ a0_1) = true) (c3 : decide (a0_1 ≤ 1048576) = true) (c4 : decide (1 ≤ a0_2) = true) (c5 : decide (a0_2 ≤ a0_1) = true) (c6 : decide (1 ≤ a0_3) = true) (c7 : decide (a0_3 ≤ a0_1) = true) (c8 : decide (1 ≤ a0_4) = true) (c9 : decide (a0_4 ≤ a0_1) = true) (c10 : decide (a0_4 ≤ a0_2) = true) (d : decide (a0_1 ≤ a0_2 + a0_3 + a0_4) = true) :
  Calls Try.prog 25 #[.agg #[.int .i64 a0_0, .int .i64 a0_1, .int .i64 a0_2, .int .i64 a0_3, .int .i64 a0_4]] w fun e w' => e = .returned (.int .i64 1) ∧ Below w.heap.size w w' := by
 have b0 := of_decide_eq_true c0
 have b1 := of_decide_eq_true c1
 have b2 := of_decide_eq_true c2
 have b3 := of_decide_eq_true c3
 have b4 := of_decide_eq_true c4
 have b5 := of_decide_eq_true c5
 have b6 := of_decide_eq_true c6
 have b7 := of_decide_eq_true c7
 have b8 := of_decide_eq_true c8
 have b9 := of_decide_eq_true c9
 have b10 := of_decide_eq_true c10
 have hu := Try.underlying23
 have i0 : ∀ w : World, (Instr.index 82 (.agg #[.int .i64 a0_2, .int .i64 a0_3, .int .i64 a0_4]) (.int .i64 0)).run Try.prog w = .ok (.int .i64 a0_2) w := fun _ => by kernel_rfl
 have i1 : ∀ w : World, (Instr.index 82 (.agg #[.int .i64 a0_2, .int .i64 a0_3, .int .i64 a0_4]) (.int .i64 1)).run Try.prog w = .ok (.int .i64 a0_3) w := fun _ => by kernel_rfl
 have i2 : ∀ w : World, (Instr.index 82 (.agg #[.int .i64 a0_2, .int .i64 a0_3, .int .i64 a0_4]) (.int .i64 2)).run Try.prog w = .ok (.int .i64 a0_4) w := fun _ => by kernel_rfl
 go_enter Try.func25, Try.ntmps25
 go_wp2
 refine wp_loop_rounds 4 ?_
 rw [rounds_succ]
 go_wp2
 rw [rounds_succ]
 go_wp2
 rw [rounds_succ]
 go_wp2
 rw [rounds_succ]
 go_wp2
 go_ret
 exact ⟨rfl, below_alloc (Below.refl _ _) _⟩
set_option maxHeartbeats 8000000 in
set_option maxRecDepth 100000 in
theorem medl_Check.w12 (a0_0 a0_1 a0_2 a0_3 a0_4 : Int) (w : World) (c0 : decide (2 ≤ a0_0) = true) (c1 : decide (a0_0 ≤ 16) = true) (c2 : decide (16 ≤ a0_1) = true) (c3 : decide (a0_1 ≤ 1048576) = true) (c4 : decide (1 ≤ a0_2) = true) (c5 : decide (a0_2 ≤ a0_1) = true) (c6 : decide (1 ≤ a0_3) = true) (c7 : decide (a0_3 ≤ a0_1) = true) (c8 : decide (1 ≤ a0_4) = true) (c9 : decide (a0_4 ≤ a0_1) = true) (c10 : decide (a0_4 ≤ a0_2) = true) (d : decide (a0_1 ≤ a0_2 + a0_3 + a0_4) = false) :
  Calls Try.prog 25 #[.agg #[.int .i64 a0_0, .int .i64 a0_1, .int .i64 a0_2, .int .i64 a0_3, .int .i64 a0_4]] w fun e w' => e = .returned (.int .i64 0) ∧ Below w.heap.size w w' := by
 have b0 := of_decide_eq_true c0
 have b1 := of_decide_eq_true c1
 have b2 := of_decide_eq_true c2
 have b3 := of_decide_eq_true c3
 have b4 := of_decide_eq_true c4
 have b5 := of_decide_eq_true c5
 have b6 := of_decide_eq_true c6
 have b7 := of_decide_eq_true c7
 have b8 := of_decide_eq_true c8
 have b9 := of_decide_eq_true c9
 have b10 := of_decide_eq_true c10
 have hu := Try.underlying23
 have i0 : ∀ w : World, (Instr.index 82 (.agg #[.int .i64 a0_2, .int .i64 a0_3, .int .i64 a0_4]) (.int .i64 0)).run Try.prog w = .ok (.int .i64 a0_2) w := fun _ => by kernel_rfl
 have i1 : ∀ w : World, (Instr.index 82 (.agg #[.int .i64 a0_2, .int .i64 a0_3, .int .i64 a0_4]) (.int .i64 1)).run Try.prog w = .ok (.int .i64 a0_3) w := fun _ => by kernel_rfl
 have i2 : ∀ w : World, (Instr.index 82 (.agg #[.int .i64 a0_2, .int .i64 a0_3, .int .i64 a0_4]) (.int .i64 2)).run Try.prog w = .ok (.int .i64 a0_4) w := fun _ => by kernel_rfl
 go_enter Try.func25, Try.ntmps25
 go_wp2
 refine wp_loop_rounds 4 ?_
 rw [rounds_succ]
 go_wp2
 rw [rounds_succ]
 go_wp2
 rw [rounds_succ]
 go_wp2
 rw [rounds_succ]
 go_wp2
 go_ret
 exact ⟨rfl, below_alloc (Below.refl _ _) _⟩
theorem medl_Check.calls (a0_0 a0_1 a0_2 a0_3 a0_4 : Int) (r : Int) (w : World) (h : medl_Check.f a0_0 a0_1 a0_2 a0_3 a0_4 = some r) :
  Calls Try.prog 25 #[.agg #[.int .i64 a0_0, .int .i64 a0_1, .int .i64 a0_2, .int .i64 a0_3, .int .i64 a0_4]] w fun e w' => e = .returned (.int .i64 r) ∧ Below w.heap.size w w' := by
 unfold medl_Check.f at h
 obtain rfl := Option.some.inj h
 clear h
 by_cases c0 : 2 ≤ a0_0
 case neg => rw [if_neg (fun h => c0 h.1)]; exact medl_Check.w0 a0_0 a0_1 a0_2 a0_3 a0_4 w (decide_eq_false c0)
 by_cases c1 : a0_0 ≤ 16
 case neg => rw [if_neg (fun h => c1 h.2.1)]; exact medl_Check.w1 a0_0 a0_1 a0_2 a0_3 a0_4 w (decide_eq_true c0) (decide_eq_false c1)
 by_cases c2 : 16 ≤ a0_1
 case neg => rw [if_neg (fun h => c2 h.2.2.1)]; exact medl_Check.w2 a0_0 a0_1 a0_2 a0_3 a0_4 w (decide_eq_true c0) (decide_eq_true c1) (decide_eq_false c2)
 by_cases c3 : a0_1 ≤ 1048576
 case neg => rw [if_neg (fun h => c3 h.2.2.2.1)]; exact medl_Check.w3 a0_0 a0_1 a0_2 a0_3 a0_4 w (decide_eq_true c0) (decide_eq_true c1) (decide_eq_true c2) (decide_eq_false c3)
 by_cases c4 : 1 ≤ a0_2
 case neg => rw [if_neg (fun h => c4 h.2.2.2.2.1)]; exact medl_Check.w4 a0_0 a0_1 a0_2 a0_3 a0_4 w (decide_eq_true c0) (decide_eq_true c1) (decide_eq_true c2) (decide_eq_true c3) (decide_eq_false c4)
 by_cases c5 : a0_2 ≤ a0_1
 case neg => rw [if_neg (fun h => c5 h.2.2.2.2.2.1)]; exact medl_Check.w5 a0_0 a0_1 a0_2 a0_3 a0_4 w (decide_eq_true c0) (decide_eq_true c1) (decide_eq_true c2) (decide_eq_true c3) (decide_eq_true c4) (decide_eq_false c5)
 by_cases c6 : 1 ≤ a0_3
 case neg => rw [if_neg (fun h => c6 h.2.2.2.2.2.2.1)]; exact medl_Check.w6 a0_0 a0_1 a0_2 a0_3 a0_4 w (decide_eq_true c0) (decide_eq_true c1) (decide_eq_true c2) (decide_eq_true c3) (decide_eq_true c4) (decide_eq_true c5) (decide_eq_false c6)
 by_cases c7 : a0_3 ≤ a0_1
 case neg => rw [if_neg (fun h => c7 h.2.2.2.2.2.2.2.1)]; exact medl_Check.w7 a0_0 a0_1 a0_2 a0_3 a0_4 w (decide_eq_true c0) (decide_eq_true c1) (decide_eq_true c2) (decide_eq_true c3) (decide_eq_true c4) (decide_eq_true c5) (decide_eq_true c6) (decide_eq_false c7)
 by_cases c8 : 1 ≤ a0_4
 case neg => rw [if_neg (fun h => c8 h.2.2.2.2.2.2.2.2.1)]; exact medl_Check.w8 a0_0 a0_1 a0_2 a0_3 a0_4 w (decide_eq_true c0) (decide_eq_true c1) (decide_eq_true c2) (decide_eq_true c3) (decide_eq_true c4) (decide_eq_true c5) (decide_eq_true c6) (decide_eq_true c7) (decide_eq_false c8)
 by_cases c9 : a0_4 ≤ a0_1
 case neg => rw [if_neg (fun h => c9 h.2.2.2.2.2.2.2.2.2.1)]; exact medl_Check.w9 a0_0 a0_1 a0_2 a0_3 a0_4 w (decide_eq_true c0) (decide_eq_true c1) (decide_eq_true c2) (decide_eq_true c3) (decide_eq_true c4) (decide_eq_true c5) (decide_eq_true c6) (decide_eq_true c7) (decide_eq_true c8) (decide_eq_false c9)
 by_cases c10 : a0_4 ≤ a0_2
 case neg => rw [if_neg (fun h => c10 h.2.2.2.2.2.2.2.2.2.2.1)]; exact medl_Check.w10 a0_0 a0_1 a0_2 a0_3 a0_4 w (decide_eq_true c0) (decide_eq_true c1) (decide_eq_true c2) (decide_eq_true c3) (decide_eq_true c4) (decide_eq_true c5) (decide_eq_true c6) (decide_eq_true c7) (decide_eq_true c8) (decide_eq_true c9) (decide_eq_false c10)
 by_cases d : a0_2 + a0_3 + a0_4 < a0_1
 case neg => rw [if_neg (fun h => d h.2.2.2.2.2.2.2.2.2.2.2)]; exact medl_Check.w11 a0_0 a0_1 a0_2 a0_3 a0_4 w (decide_eq_true c0) (decide_eq_true c1) (decide_eq_true c2) (decide_eq_true c3) (decide_eq_true c4) (decide_eq_true c5) (decide_eq_true c6) (decide_eq_true c7) (decide_eq_true c8) (decide_eq_true c9) (decide_eq_true c10) (decide_eq_true (Int.not_lt.1 d))
 rw [if_pos ⟨c0, c1, c2, c3, c4, c5, c6, c7, c8, c9, c10, d⟩]; exact medl_Check.w12 a0_0 a0_1 a0_2 a0_3 a0_4 w (decide_eq_true c0) (decide_eq_true c1) (decide_eq_true c2) (decide_eq_true c3) (decide_eq_true c4) (decide_eq_true c5) (decide_eq_true c6) (decide_eq_true c7) (decide_eq_true c8) (decide_eq_true c9) (decide_eq_true c10) (decide_eq_false (Int.not_le.2 d))


/-! ### osc_Check: function 26 -/
def osc_Check.f (a0_0 : Int) (a0_1 : Int) (a0_2 : Int) : Option (Int) := if a0_0 < 1 then (some 1) else (if a0_0 > 1000000000 then (some 1) else (if (mx a0_1 (wrap64 (-a0_1))) > 1000000 then (some 1) else (if a0_1 < (-1000000) then (some 1) else (if a0_2 < 0 then (some 1) else (if a0_2 ≥ 1000000000 then (some 1) else (some 0))))))
set_option maxHeartbeats 8000000 in
set_option maxRecDepth 100000 in
theorem osc_Check.calls (a0_0 : Int) (a0_1 : Int) (a0_2 : Int) (r : Int) (w : World) (h : osc_Check.f a0_0 a0_1 a0_2 = some r) :
  Calls Try.prog 26 #[.agg #[.int .i64 a0_0, .int .i64 a0_1, .int .i64 a0_2]] w fun e w' => e = .returned (.int .i64 r) ∧ Below w.heap.size w w' := by
 have hu25 := Try.underlying25
 have HB := asd (Below.refl w.heap.size w)
 have H : (if a0_0 < 1 then (some 1) else (if a0_0 > 1000000000 then (some 1) else (if (mx a0_1 (wrap64 (-a0_1))) > 1000000 then (some 1) else (if a0_1 < (-1000000) then (some 1) else (if a0_2 < 0 then (some 1) else (if a0_2 ≥ 1000000000 then (some 1) else (some 0))))))) = some r := h
 clear h
 by_cases c2 : a0_0 < 1
 ·rw [if_pos c2] at H
  have c2b0 : decide (a0_0 < 1) = true := decide_eq_true c2
  clear c2
  obtain rfl := Option.some.inj H
  go_enter Try.func26, Try.ntmps26
  go_wp2_with (first | ((with_reducible refine gate_dst (N := 1) rfl ?_); (try (refine gate_guard (by rfl) ?_; dsimp only)); refine bx (N := 1) (cs := #[.int .i64 a0_0, .int .i64 a0_1, .int .i64 a0_2]) (t := 25) ?_; intro gb101 hg w3 hbox hb; have BK101 := asd (hbox); have GW101 := bz HB hg; have GE101 := bz HB hg; replace HB := bs HB hb; clear hb hbox hg; have hcz4_0 : w3.cell? ⟨gb101, 0, none⟩ = some (.int .i64 a0_0) := (blk_cell BK101.out 0).trans rfl; have hcz4_1 : w3.cell? ⟨gb101, 1, none⟩ = some (.int .i64 a0_1) := (blk_cell BK101.out 1).trans rfl; have hcz4_2 : w3.cell? ⟨gb101, 2, none⟩ = some (.int .i64 a0_2) := (blk_cell BK101.out 2).trans rfl; have hfz4_0 := blk_frozen BK101.out 0; have hfz4_1 := blk_frozen BK101.out 1; have hfz4_2 := blk_frozen BK101.out 2))
  go_ret
  exact ⟨by first | rfl | (simp [errW_none, errW_some] <;> rfl) | (simp [*, errW_none, errW_some] <;> rfl), bse HB⟩
 ·rw [if_neg c2] at H
  have c2b0 : decide (a0_0 < 1) = false := decide_eq_false c2
  clear c2
  by_cases c5 : a0_0 > 1000000000
  ·rw [if_pos c5] at H
   have c5b0 : decide (1000000000 < a0_0) = true := decide_eq_true c5
   clear c5
   obtain rfl := Option.some.inj H
   go_enter Try.func26, Try.ntmps26
   go_wp2_with (first | ((with_reducible refine gate_dst (N := 1) rfl ?_); (try (refine gate_guard (by rfl) ?_; dsimp only)); refine bx (N := 1) (cs := #[.int .i64 a0_0, .int .i64 a0_1, .int .i64 a0_2]) (t := 25) ?_; intro gb101 hg w6 hbox hb; have BK101 := asd (hbox); have GW101 := bz HB hg; have GE101 := bz HB hg; replace HB := bs HB hb; clear hb hbox hg; have hcz7_0 : w6.cell? ⟨gb101, 0, none⟩ = some (.int .i64 a0_0) := (blk_cell BK101.out 0).trans rfl; have hcz7_1 : w6.cell? ⟨gb101, 1, none⟩ = some (.int .i64 a0_1) := (blk_cell BK101.out 1).trans rfl; have hcz7_2 : w6.cell? ⟨gb101, 2, none⟩ = some (.int .i64 a0_2) := (blk_cell BK101.out 2).trans rfl; have hfz7_0 := blk_frozen BK101.out 0; have hfz7_1 := blk_frozen BK101.out 1; have hfz7_2 := blk_frozen BK101.out 2))
   go_ret
   exact ⟨by first | rfl | (simp [errW_none, errW_some] <;> rfl) | (simp [*, errW_none, errW_some] <;> rfl), bse HB⟩
  ·rw [if_neg c5] at H
   have c5b0 : decide (1000000000 < a0_0) = false := decide_eq_false c5
   clear c5
   obtain ⟨ji8, hji8⟩ : ∃ j_ : Int, (mx a0_1 (wrap64 (-a0_1))) = j_ := ⟨_, rfl⟩
   replace H : (if (ji8) > 1000000 then (some 1) else (if a0_1 < (-1000000) then (some 1) else (if a0_2 < 0 then (some 1) else (if a0_2 ≥ 1000000000 then (some 1) else (some 0))))) = some r := by first | (rw [hji8] at H; exact H) | (simp only [hji8] at H ⊢; exact H)
   have hji8_ : (if a0_1 < (wrap64 (-a0_1)) then (wrap64 (-a0_1)) else a0_1) = ji8 := hji8
   by_cases c9 : (ji8) > 1000000
   ·rw [if_pos c9] at H
    have c9b0 : decide (1000000 < (ji8)) = true := decide_eq_true c9
    clear c9
    obtain rfl := Option.some.inj H
    go_enter Try.func26, Try.ntmps26
    go_wp2_with (first | ((with_reducible refine gate_dst (N := 1) rfl ?_); (try (refine gate_guard (by rfl) ?_; dsimp only)); refine bx (N := 1) (cs := #[.int .i64 a0_0, .int .i64 a0_1, .int .i64 a0_2]) (t := 25) ?_; intro gb101 hg w10 hbox hb; have BK101 := asd (hbox); have GW101 := bz HB hg; have GE101 := bz HB hg; replace HB := bs HB hb; clear hb hbox hg; have hcz11_0 : w10.cell? ⟨gb101, 0, none⟩ = some (.int .i64 a0_0) := (blk_cell BK101.out 0).trans rfl; have hcz11_1 : w10.cell? ⟨gb101, 1, none⟩ = some (.int .i64 a0_1) := (blk_cell BK101.out 1).trans rfl; have hcz11_2 : w10.cell? ⟨gb101, 2, none⟩ = some (.int .i64 a0_2) := (blk_cell BK101.out 2).trans rfl; have hfz11_0 := blk_frozen BK101.out 0; have hfz11_1 := blk_frozen BK101.out 1; have hfz11_2 := blk_frozen BK101.out 2))
    go_ret
    exact ⟨by first | rfl | (simp [errW_none, errW_some] <;> rfl) | (simp only [← hji8]; first | rfl | (simp [errW_none, errW_some] <;> rfl)) | (simp [*, errW_none, errW_some] <;> rfl), bse HB⟩
   ·rw [if_neg c9] at H
    have c9b0 : decide (1000000 < (ji8)) = false := decide_eq_false c9
    clear c9
    by_cases c12 : a0_1 < (-1000000)
    ·rw [if_pos c12] at H
     have c12b0 : decide (a0_1 < (-1000000)) = true := decide_eq_true c12
     clear c12
     obtain rfl := Option.some.inj H
     go_enter Try.func26, Try.ntmps26
     go_wp2_with (first | ((with_reducible refine gate_dst (N := 1) rfl ?_); (try (refine gate_guard (by rfl) ?_; dsimp only)); refine bx (N := 1) (cs := #[.int .i64 a0_0, .int .i64 a0_1, .int .i64 a0_2]) (t := 25) ?_; intro gb101 hg w13 hbox hb; have BK101 := asd (hbox); have GW101 := bz HB hg; have GE101 := bz HB hg; replace HB := bs HB hb; clear hb hbox hg; have hcz14_0 : w13.cell? ⟨gb101, 0, none⟩ = some (.int .i64 a0_0) := (blk_cell BK101.out 0).trans rfl; have hcz14_1 : w13.cell? ⟨gb101, 1, none⟩ = some (.int .i64 a0_1) := (blk_cell BK101.out 1).trans rfl; have hcz14_2 : w13.cell? ⟨gb101, 2, none⟩ = some (.int .i64 a0_2) := (blk_cell BK101.out 2).trans rfl; have hfz14_0 := blk_frozen BK101.out 0; have hfz14_1 := blk_frozen BK101.out 1; have hfz14_2 := blk_frozen BK101.out 2))
     go_ret
     exact ⟨by first | rfl | (simp [errW_none, errW_some] <;> rfl) | (simp only [← hji8]; first | rfl | (simp [errW_none, errW_some] <;> rfl)) | (simp [*, errW_none, errW_some] <;> rfl), bse HB⟩
    ·rw [if_neg c12] at H
     have c12b0 : decide (a0_1 < (-1000000)) = false := decide_eq_false c12
     clear c12
     by_cases c15 : a0_2 < 0
     ·rw [if_pos c15] at H
      have c15b0 : decide (a0_2 < 0) = true := decide_eq_true c15
      clear c15
      obtain rfl := Option.some.inj H
      go_enter Try.func26, Try.ntmps26
      go_wp2_with (first | ((with_reducible refine gate_dst (N := 1) rfl ?_); (try (refine gate_guard (by rfl) ?_; dsimp only)); refine bx (N := 1) (cs := #[.int .i64 a0_0, .int .i64 a0_1, .int .i64 a0_2]) (t := 25) ?_; intro gb101 hg w16 hbox hb; have BK101 := asd (hbox); have GW101 := bz HB hg; have GE101 := bz HB hg; replace HB := bs HB hb; clear hb hbox hg; have hcz17_0 : w16.cell? ⟨gb101, 0, none⟩ = some (.int .i64 a0_0) := (blk_cell BK101.out 0).trans rfl; have hcz17_1 : w16.cell? ⟨gb101, 1, none⟩ = some (.int .i64 a0_1) := (blk_cell BK101.out 1).trans rfl; have hcz17_2 : w16.cell? ⟨gb101, 2, none⟩ = some (.int .i64 a0_2) := (blk_cell BK101.out 2).trans rfl; have hfz17_0 := blk_frozen BK101.out 0; have hfz17_1 := blk_frozen BK101.out 1; have hfz17_2 := blk_frozen BK101.out 2))
      go_ret
      exact ⟨by first | rfl | (simp [errW_none, errW_some] <;> rfl) | (simp only [← hji8]; first | rfl | (simp [errW_none, errW_some] <;> rfl)) | (simp [*, errW_none, errW_some] <;> rfl), bse HB⟩
     ·rw [if_neg c15] at H
      have c15b0 : decide (a0_2 < 0) = false := decide_eq_false c15
      clear c15
      by_cases c18 : a0_2 ≥ 1000000000
      ·rw [if_pos c18] at H
       have c18b0 : decide (1000000000 ≤ a0_2) = true := decide_eq_true c18
       clear c18
       obtain rfl := Option.some.inj H
       go_enter Try.func26, Try.ntmps26
       go_wp2_with (first | ((with_reducible refine gate_dst (N := 1) rfl ?_); (try (refine gate_guard (by rfl) ?_; dsimp only)); refine bx (N := 1) (cs := #[.int .i64 a0_0, .int .i64 a0_1, .int .i64 a0_2]) (t := 25) ?_; intro gb101 hg w19 hbox hb; have BK101 := asd (hbox); have GW101 := bz HB hg; have GE101 := bz HB hg; replace HB := bs HB hb; clear hb hbox hg; have hcz20_0 : w19.cell? ⟨gb101, 0, none⟩ = some (.int .i64 a0_0) := (blk_cell BK101.out 0).trans rfl; have hcz20_1 : w19.cell? ⟨gb101, 1, none⟩ = some (.int .i64 a0_1) := (blk_cell BK101.out 1).trans rfl; have hcz20_2 : w19.cell? ⟨gb101, 2, none⟩ = some (.int .i64 a0_2) := (blk_cell BK101.out 2).trans rfl; have hfz20_0 := blk_frozen BK101.out 0; have hfz20_1 := blk_frozen BK101.out 1; have hfz20_2 := blk_frozen BK101.out 2))
       go_ret
       exact ⟨by first | rfl | (simp [errW_none, errW_some] <;> rfl) | (simp only [← hji8]; first | rfl | (simp [errW_none, errW_some] <;> rfl)) | (simp [*, errW_none, errW_some] <;> rfl), bse HB⟩
      ·rw [if_neg c18] at H
       have c18b0 : decide (1000000000 ≤ a0_2) = false := decide_eq_false c18
       clear c18
       obtain rfl := Option.some.inj H
       go_enter Try.func26, Try.ntmps26
       go_wp2_with (first | ((with_reducible refine gate_dst (N := 1) rfl ?_); (try (refine gate_guard (by rfl) ?_; dsimp only)); refine bx (N := 1) (cs := #[.int .i64 a0_0, .int .i64 a0_1, .int .i64 a0_2]) (t := 25) ?_; intro gb101 hg w21 hbox hb; have BK101 := asd (hbox); have GW101 := bz HB hg; have GE101 := bz HB hg; replace HB := bs HB hb; clear hb hbox hg; have hcz22_0 : w21.cell? ⟨gb101, 0, none⟩ = some (.int .i64 a0_0) := (blk_cell BK101.out 0).trans rfl; have hcz22_1 : w21.cell? ⟨gb101, 1, none⟩ = some (.int .i64 a0_1) := (blk_cell BK101.out 1).trans rfl; have hcz22_2 : w21.cell? ⟨gb101, 2, none⟩ = some (.int .i64 a0_2) := (blk_cell BK101.out 2).trans rfl; have hfz22_0 := blk_frozen BK101.out 0; have hfz22_1 := blk_frozen BK101.out 1; have hfz22_2 := blk_frozen BK101.out 2))
       go_ret
       exact ⟨by first | rfl | (simp [errW_none, errW_some] <;> rfl) | (simp only [← hji8]; first | rfl | (simp [errW_none, errW_some] <;> rfl)) | (simp [*, errW_none, errW_some] <;> rfl), bse HB⟩

/-! ### node_within_int: function 27 -/
def node_within_int.f (a0 : Int) (a1 : Int) (a2 : Int) : Option (Bool) := if a0 ≥ a1 then (some (decide (a0 ≤ a2))) else (some false)
set_option maxHeartbeats 8000000 in
set_option maxRecDepth 100000 in
theorem node_within_int.calls (a0 : Int) (a1 : Int) (a2 : Int) (r : Bool) (w : World) (h : node_within_int.f a0 a1 a2 = some r) :
  Calls Try.prog 27 #[.int .i64 a0, .int .i64 a1, .int .i64 a2] w fun e w' => e = .returned (.bool r) ∧ Drawn0 w w' := by
 have H : (if a0 ≥ a1 then (some (decide (a0 ≤ a2))) else (some false)) = some r := h
 clear h
 by_cases c4 : a0 ≥ a1
 ·rw [if_pos c4] at H
  have c4b0 : decide (a1 ≤ a0) = true := decide_eq_true c4
  clear c4
  obtain rfl := Option.some.inj H
  go_enter Try.func27, Try.ntmps27
  go_wp2
  go_ret
  exact ⟨by first | rfl | (simp; done) | (simp [*]; done), by repeat (first | exact Drawn0.refl _ | apply Drawn0.step)⟩
 ·rw [if_neg c4] at H
  have c4b0 : decide (a1 ≤ a0) = false := decide_eq_false c4
  clear c4
  obtain rfl := Option.some.inj H
  go_enter Try.func27, Try.ntmps27
  go_wp2
  go_ret
  exact ⟨by first | rfl | (simp; done) | (simp [*]; done), by repeat (first | exact Drawn0.refl _ | apply Drawn0.step)⟩

-- NOT PRINTED: function 46 (slices_IndexFunc_int64_int64)

-- NOT PRINTED: function 29 (slices_ContainsFunc_int64_int64)

/-! ### pico_May_1: function 45 -/
def pico_May_1.f (a0 : Int) : Option (Bool) := if a0 > 1152921504606846976 then (some true) else (some (decide (a0 < (-1152921504606846976))))
set_option maxHeartbeats 8000000 in
set_option maxRecDepth 100000 in
theorem pico_May_1.calls (a0 : Int) (r : Bool) (w : World) (h : pico_May_1.f a0 = some r) :
  Calls Try.prog 45 #[.int .i64 a0] w fun e w' => e = .returned (.bool r) ∧ Drawn0 w w' := by
 have H : (if a0 > 1152921504606846976 then (some true) else (some (decide (a0 < (-1152921504606846976))))) = some r := h
 clear h
 by_cases c2 : a0 > 1152921504606846976
 ·rw [if_pos c2] at H
  have c2b0 : decide (1152921504606846976 < a0) = true := decide_eq_true c2
  clear c2
  obtain rfl := Option.some.inj H
  go_enter Try.func45, Try.ntmps45
  go_wp2
  go_ret
  exact ⟨by first | rfl | (simp; done) | (simp [*]; done), by repeat (first | exact Drawn0.refl _ | apply Drawn0.step)⟩
 ·rw [if_neg c2] at H
  have c2b0 : decide (1152921504606846976 < a0) = false := decide_eq_false c2
  clear c2
  obtain rfl := Option.some.inj H
  go_enter Try.func45, Try.ntmps45
  go_wp2
  go_ret
  exact ⟨by first | rfl | (simp; done) | (simp [*]; done), by repeat (first | exact Drawn0.refl _ | apply Drawn0.step)⟩

/-! ### slices_IndexFunc_int64_int64_at_pico_May_1: function 46 -/
def slices_IndexFunc_int64_int64_at_pico_May_1.l0 : Nat → List Int → Int → Int → Option (Int)
 | 0, _, _, _ => none
 | k + 1, x0, x7, x8 => if x8 < x7 then (if 0 ≤ x8 then (if x8 < (x0.length : Int) then ((pico_May_1.f (rd x0 x8)).bind fun t103 => (if t103 = true then (some x8) else (slices_IndexFunc_int64_int64_at_pico_May_1.l0 k x0 x7 (wrap64 (x8 + 1))))) else (none)) else (none)) else (some (-1))
def slices_IndexFunc_int64_int64_at_pico_May_1.f (k : Nat) (l0 : List Int)  : Option (Int) := slices_IndexFunc_int64_int64_at_pico_May_1.l0 k l0 (l0.length : Int) 0
set_option maxHeartbeats 8000000 in
set_option maxRecDepth 100000 in
theorem slices_IndexFunc_int64_int64_at_pico_May_1.calls (k : Nat) (A0 : Option Addr) (c0 : Nat) (l0 : List Int)  (r : Int) (w : World) (hr0 : Kd.C (Kd.int .i64) w A0 l0.length l0) (hc0 : l0.length ≤ c0) (h : slices_IndexFunc_int64_int64_at_pico_May_1.f k l0 = some r) :
  Calls Try.prog 46 #[.slice A0 l0.length c0, .func (.func 45) #[] #[]] w fun e w' => e = .returned (.int .i64 r) ∧ Below w.heap.size w w' := by
 have HR0 := asd hr0
 have HC0 := asd hc0
 clear hr0 hc0
 have HB := asd (Below.refl w.heap.size w)
 have H : (slices_IndexFunc_int64_int64_at_pico_May_1.l0 k l0 (l0.length : Int) 0) = some r := h
 clear h
 have H' := asd H
 clear H
 go_enter Try.func46, Try.ntmps46
 go_wp2
 go_loopg [8] k (fun kq v8 w' => ∃ (x8_1 : Int), v8 = .int .i64 x8_1 ∧ Aside0 (slices_IndexFunc_int64_int64_at_pico_May_1.l0 kq l0 (l0.length : Int) x8_1 = some r) ∧ Aside0 (kq ≤ k) ∧ Aside0 (Below w.heap.size w w'))
 case atStart => exact ⟨(0), (by first | rfl | (simp; done) | (simp [*]; done)), H', ⟨Nat.le_refl _⟩, ⟨bse HB⟩⟩
 case round =>
  clear H'
  try clear p2
  obtain ⟨x8_1, rfl, HA, HK1, HB⟩ := hrel
  cases gk with
  | zero => exact absurd HA.out (by simp [slices_IndexFunc_int64_int64_at_pico_May_1.l0])
  | succ k1 =>
   have H := HA.out
   clear HA
   simp only [slices_IndexFunc_int64_int64_at_pico_May_1.l0] at H
   by_cases c3 : x8_1 < (l0.length : Int)
   ·rw [if_pos c3] at H
    have c3b0 : decide (x8_1 < (l0.length : Int)) = true := decide_eq_true c3
    clear c3
    by_cases c4 : 0 ≤ x8_1
    ·rw [if_pos c4] at H
     have c4b0 : decide (0 ≤ x8_1) = true := decide_eq_true c4
     clear c4
     by_cases c5 : x8_1 < (l0.length : Int)
     ·rw [if_pos c5] at H
      have c5b0 : decide (x8_1 < (l0.length : Int)) = true := decide_eq_true c5
      clear c5
      replace H := Option.bind_eq_some_iff.mp H
      obtain ⟨t103, A60, H⟩ := H
      replace H : (if t103 = true then (some x8_1) else (slices_IndexFunc_int64_int64_at_pico_May_1.l0 k1 l0 (l0.length : Int) (wrap64 (x8_1 + 1)))) = some r := H
      have A6 := asd A60
      clear A60
      by_cases c7 : t103 = true
      ·subst c7
       have H1 : (some x8_1) = some r := by rw [if_pos rfl] at H; exact H
       clear H
       have H := H1
       clear H1
       obtain rfl := Option.some.inj H
       have p102 : 0 ≤ (x8_1 : Int) := of_decide_eq_true (by first | (with_reducible assumption) | assumption)
       have q102 : x8_1 < (l0.length : Int) := of_decide_eq_true (by first | (with_reducible assumption) | assumption)
       obtain ⟨ad102, e102, hx102_0⟩ := Kd.at_int HR0.out x8_1 p102 q102
       cases e102
       replace hx102_0 := (HB.out.cell (World.block_lt_of_cell? w _ hx102_0)).trans hx102_0
       replace p102 := eq_true p102
       replace q102 := eq_true q102
       go_wp2_with (first | ((with_reducible refine gate_via (t := 11) rfl ?_); refine goesT_ (some 16) rfl rfl Try.func45 (by kernel_rfl) rfl #[.int .i64 (rd l0 x8_1)] rfl (by first | rfl | (simp; done) | (go_simp; done)) (by (try simp only [List.map_toArray, List.map_cons, List.map_nil]); first | done | rfl | (simp only [List.length_drop, List.length_take]; first | rfl | (rw [Nat.min_eq_left (Int.toNat_le.2 (of_decide_eq_true (by assumption)))]; rfl))) ?_; (with_reducible refine (pico_May_1.calls (rd l0 x8_1) true _ A6.out).mono ?_); rintro e w' ⟨rfl, ⟨nd, rfl⟩⟩; refine ⟨_, rfl, ?_⟩))
       go_ret
       exact ⟨by first | rfl | (simp [errW_none, errW_some] <;> rfl) | (simp [*, errW_none, errW_some] <;> rfl), bse HB⟩
      ·replace c7 := Bool.eq_false_iff.mpr c7
       subst c7
       have H1 : (slices_IndexFunc_int64_int64_at_pico_May_1.l0 k1 l0 (l0.length : Int) (wrap64 (x8_1 + 1))) = some r := by rw [if_neg (show ¬ (false = true) by decide)] at H; exact H
       clear H
       have H := H1
       clear H1
       have H' := asd H
       clear H
       have p102 : 0 ≤ (x8_1 : Int) := of_decide_eq_true (by first | (with_reducible assumption) | assumption)
       have q102 : x8_1 < (l0.length : Int) := of_decide_eq_true (by first | (with_reducible assumption) | assumption)
       obtain ⟨ad102, e102, hx102_0⟩ := Kd.at_int HR0.out x8_1 p102 q102
       cases e102
       replace hx102_0 := (HB.out.cell (World.block_lt_of_cell? w _ hx102_0)).trans hx102_0
       replace p102 := eq_true p102
       replace q102 := eq_true q102
       go_wp2_with (first | ((with_reducible refine gate_via (t := 11) rfl ?_); refine goesT_ (some 16) rfl rfl Try.func45 (by kernel_rfl) rfl #[.int .i64 (rd l0 x8_1)] rfl (by first | rfl | (simp; done) | (go_simp; done)) (by (try simp only [List.map_toArray, List.map_cons, List.map_nil]); first | done | rfl | (simp only [List.length_drop, List.length_take]; first | rfl | (rw [Nat.min_eq_left (Int.toNat_le.2 (of_decide_eq_true (by assumption)))]; rfl))) ?_; (with_reducible refine (pico_May_1.calls (rd l0 x8_1) false _ A6.out).mono ?_); rintro e w' ⟨rfl, ⟨nd, rfl⟩⟩; refine ⟨_, rfl, ?_⟩))
       go_roundg k1
       case measure => have := HK1.out; omega
       case rel => exact ⟨(wrap64 (x8_1 + 1)), (by first | rfl | (simp; done) | (simp [*]; done)), H', ⟨by have := HK1.out; omega⟩, ⟨bse HB⟩⟩
     ·rw [if_neg c5] at H
      exact absurd H (by simp)
    ·rw [if_neg c4] at H
     exact absurd H (by simp)
   ·rw [if_neg c3] at H
    have c3b0 : decide (x8_1 < (l0.length : Int)) = false := decide_eq_false c3
    clear c3
    obtain rfl := Option.some.inj H
    go_wp2
    go_ret
    exact ⟨by first | rfl | (simp [errW_none, errW_some] <;> rfl) | (simp [*, errW_none, errW_some] <;> rfl), bse HB⟩

/-! ### slices_ContainsFunc_int64_int64_at_pico_May_1: function 29 -/
def slices_ContainsFunc_int64_int64_at_pico_May_1.f (k : Nat) (l0 : List Int)  : Option (Bool) := (slices_IndexFunc_int64_int64_at_pico_May_1.f k l0).bind fun t104 => (some (decide (t104 ≥ 0)))
set_option maxHeartbeats 8000000 in
set_option maxRecDepth 100000 in
theorem slices_ContainsFunc_int64_int64_at_pico_May_1.calls (k : Nat) (A0 : Option Addr) (c0 : Nat) (l0 : List Int)  (r : Bool) (w : World) (hr0 : Kd.C (Kd.int .i64) w A0 l0.length l0) (hc0 : l0.length ≤ c0) (h : slices_ContainsFunc_int64_int64_at_pico_May_1.f k l0 = some r) :
  Calls Try.prog 29 #[.slice A0 l0.length c0, .func (.func 45) #[] #[]] w fun e w' => e = .returned (.bool r) ∧ Below w.heap.size w w' := by
 have HR0 := asd hr0
 have HC0 := asd hc0
 clear hr0 hc0
 have HB := asd (Below.refl w.heap.size w)
 have H : ((slices_IndexFunc_int64_int64_at_pico_May_1.f k l0).bind fun t104 => (some (decide (t104 ≥ 0)))) = some r := h
 clear h
 replace H := Option.bind_eq_some_iff.mp H
 obtain ⟨t104, A30, H⟩ := H
 replace H : (some (decide (t104 ≥ 0))) = some r := H
 have A3 := asd A30
 clear A30
 obtain rfl := Option.some.inj H
 go_enter Try.func29, Try.ntmps29
 go_wp2_with (first | ((with_reducible refine gate_callee (f := 46) rfl ?_); refine gL (some 7) Try.func46 #[.slice A0 l0.length c0, .func (.func 45) #[] #[]] ?_; (with_reducible refine (slices_IndexFunc_int64_int64_at_pico_May_1.calls k _ _ l0  t104 _ ?side1 ?side2 A3.out).mono ?_); (case side1 => repeat (first | exact HR0.out | (with_reducible refine Kd.C_alloc ?_ _) | (with_reducible refine Kd.C_drewN ?_ _) | (with_reducible refine Kd.C_drew ?_))); (case side2 => exact HC0.out); rintro e w4 ⟨rfl, hb⟩; refine ⟨_, rfl, ?_⟩; replace HB := bs HB hb; (try clear hb)))
 go_ret
 exact ⟨by first | rfl | (simp [errW_none, errW_some] <;> rfl) | (simp [*, errW_none, errW_some] <;> rfl), bse HB⟩

/-! ### pico_May: function 28 -/
def pico_May.f (k : Nat) (l0 : List Int) : Option (Bool) := (slices_ContainsFunc_int64_int64_at_pico_May_1.f k l0).bind fun t105 => (some (!t105))
set_option maxHeartbeats 8000000 in
set_option maxRecDepth 100000 in
theorem pico_May.calls (k : Nat) (A0 : Option Addr) (c0 : Nat) (l0 : List Int) (r : Bool) (w : World) (hr0 : Kd.C (Kd.int .i64) w A0 l0.length l0) (hc0 : l0.length ≤ c0) (h : pico_May.f k l0 = some r) :
  Calls Try.prog 28 #[.slice A0 l0.length c0] w fun e w' => e = .returned (.bool r) ∧ Below w.heap.size w w' := by
 have HR0 := asd hr0
 have HC0 := asd hc0
 clear hr0 hc0
 have HB := asd (Below.refl w.heap.size w)
 have H : ((slices_ContainsFunc_int64_int64_at_pico_May_1.f k l0).bind fun t105 => (some (!t105))) = some r := h
 clear h
 replace H := Option.bind_eq_some_iff.mp H
 obtain ⟨t105, A20, H⟩ := H
 replace H : (some (!t105)) = some r := H
 have A2 := asd A20
 clear A20
 obtain rfl := Option.some.inj H
 go_enter Try.func28, Try.ntmps28
 go_wp2_with (first | ((with_reducible refine gate_callee (f := 29) rfl ?_); refine gL (some 4) Try.func29 #[.slice A0 l0.length c0, .func (.func 45) #[] #[]] ?_; (with_reducible refine (slices_ContainsFunc_int64_int64_at_pico_May_1.calls k _ _ l0  t105 _ ?side1 ?side2 A2.out).mono ?_); (case side1 => repeat (first | exact HR0.out | (with_reducible refine Kd.C_alloc ?_ _) | (with_reducible refine Kd.C_drewN ?_ _) | (with_reducible refine Kd.C_drew ?_))); (case side2 => exact HC0.out); rintro e w3 ⟨rfl, hb⟩; refine ⟨_, rfl, ?_⟩; replace HB := bs HB hb; (try clear hb)))
 go_ret
 exact ⟨by first | rfl | (simp [errW_none, errW_some] <;> rfl) | (simp [*, errW_none, errW_some] <;> rfl), bse HB⟩


attribute [local go_sem high] eqA86
/-! ### slices_Equal_int64_int64: function 47 -/
def slices_Equal_int64_int64.l0 : Nat → List Int → List Int → Int → Int → Option (Bool)
 | 0, _, _, _, _ => none
 | k + 1, x0, x1, x12, x13 => if x13 < x12 then (if 0 ≤ x13 then (if x13 < (x0.length : Int) then (if x13 < (x1.length : Int) then (if (rd x0 x13) = (rd x1 x13) then (slices_Equal_int64_int64.l0 k x0 x1 x12 (wrap64 (x13 + 1))) else (some false)) else (none)) else (none)) else (none)) else (some true)
def slices_Equal_int64_int64.f (k : Nat) (l0 : List Int) (l1 : List Int) : Option (Bool) := if (l0.length : Int) = (l1.length : Int) then (slices_Equal_int64_int64.l0 k l0 l1 (l0.length : Int) 0) else (some false)
set_option maxHeartbeats 8000000 in
set_option maxRecDepth 100000 in
theorem slices_Equal_int64_int64.calls (k : Nat) (A0 : Option Addr) (c0 : Nat) (l0 : List Int) (A1 : Option Addr) (c1 : Nat) (l1 : List Int) (r : Bool) (w : World) (hr0 : Kd.C (Kd.int .i64) w A0 l0.length l0) (hc0 : l0.length ≤ c0) (hr1 : Kd.C (Kd.int .i64) w A1 l1.length l1) (hc1 : l1.length ≤ c1) (h : slices_Equal_int64_int64.f k l0 l1 = some r) :
  Calls Try.prog 47 #[.slice A0 l0.length c0, .slice A1 l1.length c1] w fun e w' => e = .returned (.bool r) ∧ Drawn0 w w' := by
 have HR0 := asd hr0
 have HC0 := asd hc0
 clear hr0 hc0
 have HR1 := asd hr1
 have HC1 := asd hc1
 clear hr1 hc1
 have H : (if (l0.length : Int) = (l1.length : Int) then (slices_Equal_int64_int64.l0 k l0 l1 (l0.length : Int) 0) else (some false)) = some r := h
 clear h
 by_cases c3 : (l0.length : Int) = (l1.length : Int)
 ·rw [if_pos c3] at H
  have c3b0 : ((l0.length : Int) == (l1.length : Int)) = true := beq_iff_eq.mpr c3
  have c3b1 : ((l0.length : Int) != (l1.length : Int)) = false := bne_eq_false_iff_eq.mpr c3
  have c3b2 : (l0.length == l1.length) = true := by first | simpa using c3 | (simp at c3 ⊢; omega)
  clear c3
  have H' := asd H
  clear H
  go_enter Try.func47, Try.ntmps47
  go_wp2
  repeat (go_quiet (fail); try go_wp2)
  go_loopg [13] k (fun kq v13 w' => ∃ (x13_1 : Int), v13 = .int .i64 x13_1 ∧ Aside0 (slices_Equal_int64_int64.l0 kq l0 l1 (l0.length : Int) x13_1 = some r) ∧ Aside0 (kq ≤ k) ∧ Drawn0 w w')
  case atStart => exact ⟨(0), (by first | rfl | (simp; done) | (simp [*]; done)), H', ⟨Nat.le_refl _⟩, by repeat (first | exact Drawn0.refl _ | apply Drawn0.step)⟩
  case round =>
   clear H'
   try clear c1
   try clear p2
   try clear c3
   try clear c3b0
   try clear c3b1
   try clear c3b2
   obtain ⟨x13_1, rfl, HA, HK1, ⟨m1, rfl⟩⟩ := hrel
   cases gk with
   | zero => exact absurd HA.out (by simp [slices_Equal_int64_int64.l0])
   | succ k1 =>
    have H := HA.out
    clear HA
    simp only [slices_Equal_int64_int64.l0] at H
    by_cases c4 : x13_1 < (l0.length : Int)
    ·rw [if_pos c4] at H
     have c4b0 : decide (x13_1 < (l0.length : Int)) = true := decide_eq_true c4
     clear c4
     by_cases c5 : 0 ≤ x13_1
     ·rw [if_pos c5] at H
      have c5b0 : decide (0 ≤ x13_1) = true := decide_eq_true c5
      clear c5
      by_cases c6 : x13_1 < (l0.length : Int)
      ·rw [if_pos c6] at H
       have c6b0 : decide (x13_1 < (l0.length : Int)) = true := decide_eq_true c6
       clear c6
       by_cases c7 : x13_1 < (l1.length : Int)
       ·rw [if_pos c7] at H
        have c7b0 : decide (x13_1 < (l1.length : Int)) = true := decide_eq_true c7
        clear c7
        by_cases c8 : (rd l0 x13_1) = (rd l1 x13_1)
        ·rw [if_pos c8] at H
         have c8b0 : ((rd l0 x13_1) == (rd l1 x13_1)) = true := beq_iff_eq.mpr c8
         have c8b1 : ((rd l0 x13_1) != (rd l1 x13_1)) = false := bne_eq_false_iff_eq.mpr c8
         clear c8
         have H' := asd H
         clear H
         have p106 : 0 ≤ (x13_1 : Int) := of_decide_eq_true (by first | (with_reducible assumption) | assumption)
         have q106 : x13_1 < (l0.length : Int) := of_decide_eq_true (by first | (with_reducible assumption) | assumption)
         obtain ⟨ad106, e106, hx106_0⟩ := Kd.at_int HR0.out x13_1 p106 q106
         cases e106
         replace p106 := eq_true p106
         replace q106 := eq_true q106
         have p107 : 0 ≤ (x13_1 : Int) := of_decide_eq_true (by first | (with_reducible assumption) | assumption)
         have q107 : x13_1 < (l1.length : Int) := of_decide_eq_true (by first | (with_reducible assumption) | assumption)
         obtain ⟨ad107, e107, hx107_0⟩ := Kd.at_int HR1.out x13_1 p107 q107
         cases e107
         replace p107 := eq_true p107
         replace q107 := eq_true q107
         go_wp2
         repeat (go_quiet (fail); try go_wp2)
         go_roundg k1
         case measure => have := HK1.out; omega
         case rel => exact ⟨(wrap64 (x13_1 + 1)), (by first | rfl | (simp; done) | (simp [*]; done)), H', ⟨by have := HK1.out; omega⟩, by repeat (first | exact Drawn0.refl _ | apply Drawn0.step)⟩
        ·rw [if_neg c8] at H
         have c8b0 : ((rd l0 x13_1) == (rd l1 x13_1)) = false := beq_eq_false_iff_ne.mpr c8
         have c8b1 : ((rd l0 x13_1) != (rd l1 x13_1)) = true := bne_iff_ne.mpr c8
         obtain rfl := Option.some.inj H
         have p106 : 0 ≤ (x13_1 : Int) := of_decide_eq_true (by first | (with_reducible assumption) | assumption)
         have q106 : x13_1 < (l0.length : Int) := of_decide_eq_true (by first | (with_reducible assumption) | assumption)
         obtain ⟨ad106, e106, hx106_0⟩ := Kd.at_int HR0.out x13_1 p106 q106
         cases e106
         replace p106 := eq_true p106
         replace q106 := eq_true q106
         have p107 : 0 ≤ (x13_1 : Int) := of_decide_eq_true (by first | (with_reducible assumption) | assumption)
         have q107 : x13_1 < (l1.length : Int) := of_decide_eq_true (by first | (with_reducible assumption) | assumption)
         obtain ⟨ad107, e107, hx107_0⟩ := Kd.at_int HR1.out x13_1 p107 q107
         cases e107
         replace p107 := eq_true p107
         replace q107 := eq_true q107
         go_wp2
         repeat (go_quiet (fail); try go_wp2)
         go_ret
         exact ⟨by first | rfl | (simp; done) | (simp [*]; done), by repeat (first | exact Drawn0.refl _ | apply Drawn0.step)⟩
       ·rw [if_neg c7] at H
        exact absurd H (by simp)
      ·rw [if_neg c6] at H
       exact absurd H (by simp)
     ·rw [if_neg c5] at H
      exact absurd H (by simp)
    ·rw [if_neg c4] at H
     have c4b0 : decide (x13_1 < (l0.length : Int)) = false := decide_eq_false c4
     clear c4
     obtain rfl := Option.some.inj H
     go_wp2
     repeat (go_quiet (fail); try go_wp2)
     go_ret
     exact ⟨by first | rfl | (simp; done) | (simp [*]; done), by repeat (first | exact Drawn0.refl _ | apply Drawn0.step)⟩
 ·rw [if_neg c3] at H
  have c3b0 : ((l0.length : Int) == (l1.length : Int)) = false := beq_eq_false_iff_ne.mpr c3
  have c3b1 : ((l0.length : Int) != (l1.length : Int)) = true := bne_iff_ne.mpr c3
  have c3b2 : (l0.length == l1.length) = false := by first | simpa using c3 | (simp at c3 ⊢; omega)
  obtain rfl := Option.some.inj H
  go_enter Try.func47, Try.ntmps47
  go_wp2
  repeat (go_quiet (fail); try go_wp2)
  go_ret
  exact ⟨by first | rfl | (simp; done) | (simp [*]; done), by repeat (first | exact Drawn0.refl _ | apply Drawn0.step)⟩

/-! ### node_Same_1: function 48 -/
def node_Same_1.f (a0_0 : Int) (a0_1 : Int) (a0_2 : Int) (a0_3 : Int) (a0_4 : Int) (a0_5 : Int) (a0_6 : Int) (a0_7 : Int) (a0_8 : Int) (a0_9 : Int) (a0_10 : Int) (l0_11 : List Int) (a0_12 : Bool) (a0_13 : Int) : Option (Int × Int × Int × Int × Int × Int × Int × Int × Int × Int × Int × Bool × Int) := some (a0_0, a0_1, a0_2, a0_3, a0_4, a0_5, a0_6, a0_7, a0_8, a0_9, a0_10, a0_12, a0_13)
set_option maxHeartbeats 8000000 in
set_option maxRecDepth 100000 in
theorem node_Same_1.calls (a0_0 : Int) (a0_1 : Int) (a0_2 : Int) (a0_3 : Int) (a0_4 : Int) (a0_5 : Int) (a0_6 : Int) (a0_7 : Int) (a0_8 : Int) (a0_9 : Int) (a0_10 : Int) (A0_11 : Option Addr) (c0_11 : Nat) (l0_11 : List Int) (a0_12 : Bool) (a0_13 : Int) (r1 : Int) (r2 : Int) (r3 : Int) (r4 : Int) (r5 : Int) (r6 : Int) (r7 : Int) (r8 : Int) (r9 : Int) (r10 : Int) (r11 : Int) (r12 : Bool) (r13 : Int) (w : World) (hr0_11 : Kd.C (Kd.int .i64) w A0_11 l0_11.length l0_11) (hc0_11 : l0_11.length ≤ c0_11) (h : node_Same_1.f a0_0 a0_1 a0_2 a0_3 a0_4 a0_5 a0_6 a0_7 a0_8 a0_9 a0_10 l0_11 a0_12 a0_13 = some (r1, r2, r3, r4, r5, r6, r7, r8, r9, r10, r11, r12, r13)) :
  Calls Try.prog 48 #[.agg #[.int .i64 a0_0, .int .i64 a0_1, .int .u64 a0_2, .int .i64 a0_3, .int .i64 a0_4, .int .i64 a0_5, .int .i64 a0_6, .int .i64 a0_7, .int .u16 a0_8, .int .i64 a0_9, .int .i64 a0_10, .slice A0_11 l0_11.length c0_11, .bool a0_12, .int .i64 a0_13]] w fun e w' => e = .returned (.agg #[.int .i64 r1, .int .i64 r2, .int .u64 r3, .int .i64 r4, .int .i64 r5, .int .i64 r6, .int .i64 r7, .int .i64 r8, .int .u16 r9, .int .i64 r10, .int .i64 r11, .bool r12, .int .i64 r13]) ∧ Below w.heap.size w w' := by
 have hu33 := Try.underlying33
 have hu86 := Try.underlying86
 have hu25 := Try.underlying25
 have hu30 := Try.underlying30
 have HR0_11 := asd hr0_11
 have HC0_11 := asd hc0_11
 clear hr0_11 hc0_11
 have HB := asd (Below.refl w.heap.size w)
 have H : (some (a0_0, a0_1, a0_2, a0_3, a0_4, a0_5, a0_6, a0_7, a0_8, a0_9, a0_10, a0_12, a0_13)) = some (r1, r2, r3, r4, r5, r6, r7, r8, r9, r10, r11, r12, r13) := h
 clear h
 simp only [Option.some.injEq, Prod.mk.injEq] at H
 obtain ⟨rfl, rfl, rfl, rfl, rfl, rfl, rfl, rfl, rfl, rfl, rfl, rfl, rfl⟩ := H
 go_enter Try.func48, Try.ntmps48
 go_wp2_with (first | ((with_reducible refine gate_dst (N := 1) rfl ?_); refine bx (N := 1) (cs := #[.int .i64 a0_0, .int .i64 a0_1, .int .u64 a0_2, .int .i64 a0_3, .int .i64 a0_4, .int .i64 a0_5, .int .i64 a0_6, .int .i64 a0_7, .int .u16 a0_8, .int .i64 a0_9, .int .i64 a0_10, .slice A0_11 l0_11.length c0_11, .bool a0_12, .int .i64 a0_13]) (t := 33) ?_; intro gb108 hg w2 hbox hb; have BK108 := asd (hbox); have GW108 := bz HB hg; have GE108 := bz HB hg; replace HB := bs HB hb; clear hb hbox hg) | ((with_reducible refine gate_dst (N := 2) rfl ?_); refine bx (N := 2) (cs := #[.int .i64 0, .int .i64 0, .int .u64 0, .int .i64 0, .int .i64 0, .int .i64 0, .int .i64 0, .int .i64 0, .int .u16 0, .int .i64 0, .int .i64 0, .bool false, .int .i64 0]) (t := 86) ?_; intro gb109 hg w3 hbox hb; have BK109 := asd (hbox); have GW109 := bz HB hg; have GE109 := bz HB hg; have NB108_109 := nl BK108 hg; have NB109_108 := nr BK108 hg; replace BK108 := bb BK108 hb; replace HB := bs HB hb; clear hb hbox hg; have hnb4 := NB108_109.out; have hnc4 := NB109_108.out; have hcz5 := cf14 BK108; have hcz6_0 : w3.cell? ⟨gb109, 0, none⟩ = some (.int .i64 0) := (blk_cell BK109.out 0).trans rfl; have hcz6_1 : w3.cell? ⟨gb109, 1, none⟩ = some (.int .i64 0) := (blk_cell BK109.out 1).trans rfl; have hcz6_2 : w3.cell? ⟨gb109, 2, none⟩ = some (.int .u64 0) := (blk_cell BK109.out 2).trans rfl; have hcz6_3 : w3.cell? ⟨gb109, 3, none⟩ = some (.int .i64 0) := (blk_cell BK109.out 3).trans rfl; have hcz6_4 : w3.cell? ⟨gb109, 4, none⟩ = some (.int .i64 0) := (blk_cell BK109.out 4).trans rfl; have hcz6_5 : w3.cell? ⟨gb109, 5, none⟩ = some (.int .i64 0) := (blk_cell BK109.out 5).trans rfl; have hcz6_6 : w3.cell? ⟨gb109, 6, none⟩ = some (.int .i64 0) := (blk_cell BK109.out 6).trans rfl; have hcz6_7 : w3.cell? ⟨gb109, 7, none⟩ = some (.int .i64 0) := (blk_cell BK109.out 7).trans rfl; have hcz6_8 : w3.cell? ⟨gb109, 8, none⟩ = some (.int .u16 0) := (blk_cell BK109.out 8).trans rfl; have hcz6_9 : w3.cell? ⟨gb109, 9, none⟩ = some (.int .i64 0) := (blk_cell BK109.out 9).trans rfl; have hcz6_10 : w3.cell? ⟨gb109, 10, none⟩ = some (.int .i64 0) := (blk_cell BK109.out 10).trans rfl; have hcz6_11 : w3.cell? ⟨gb109, 11, none⟩ = some (.bool false) := (blk_cell BK109.out 11).trans rfl; have hcz6_12 : w3.cell? ⟨gb109, 12, none⟩ = some (.int .i64 0) := (blk_cell BK109.out 12).trans rfl; have hfz6_0 := blk_frozen BK109.out 0; have hfz6_1 := blk_frozen BK109.out 1; have hfz6_2 := blk_frozen BK109.out 2; have hfz6_3 := blk_frozen BK109.out 3; have hfz6_4 := blk_frozen BK109.out 4; have hfz6_5 := blk_frozen BK109.out 5; have hfz6_6 := blk_frozen BK109.out 6; have hfz6_7 := blk_frozen BK109.out 7; have hfz6_8 := blk_frozen BK109.out 8; have hfz6_9 := blk_frozen BK109.out 9; have hfz6_10 := blk_frozen BK109.out 10; have hfz6_11 := blk_frozen BK109.out 11; have hfz6_12 := blk_frozen BK109.out 12))
 refine bodyPost_ret (results_cell_row rfl _ _ gb109 86 #[.int .i64 a0_0, .int .i64 a0_1, .int .u64 a0_2, .int .i64 a0_3, .int .i64 a0_4, .int .i64 a0_5, .int .i64 a0_6, .int .i64 a0_7, .int .u16 a0_8, .int .i64 a0_9, .int .i64 a0_10, .bool a0_12, .int .i64 a0_13] (0, 0) _ rfl (by (with_reducible repeat (first | refine blk_drewN ?_ _ | refine blk_drew ?_ | refine blk_alloc ?_ _)); refine blk_put (cs := #[.int .i64 a0_0, .int .i64 a0_1, .int .u64 a0_2, .int .i64 a0_3, .int .i64 a0_4, .int .i64 a0_5, .int .i64 a0_6, .int .i64 a0_7, .int .u16 a0_8, .int .i64 a0_9, .int .i64 a0_10, .bool a0_12, .int .i64 0]) ?_ 12 _ rfl; (with_reducible repeat (first | refine blk_drewN ?_ _ | refine blk_drew ?_ | refine blk_alloc ?_ _)); refine blk_put (cs := #[.int .i64 a0_0, .int .i64 a0_1, .int .u64 a0_2, .int .i64 a0_3, .int .i64 a0_4, .int .i64 a0_5, .int .i64 a0_6, .int .i64 a0_7, .int .u16 a0_8, .int .i64 a0_9, .int .i64 a0_10, .bool false, .int .i64 0]) ?_ 11 _ rfl; (with_reducible repeat (first | refine blk_drewN ?_ _ | refine blk_drew ?_ | refine blk_alloc ?_ _)); refine blk_put (cs := #[.int .i64 a0_0, .int .i64 a0_1, .int .u64 a0_2, .int .i64 a0_3, .int .i64 a0_4, .int .i64 a0_5, .int .i64 a0_6, .int .i64 a0_7, .int .u16 a0_8, .int .i64 a0_9, .int .i64 0, .bool false, .int .i64 0]) ?_ 10 _ rfl; (with_reducible repeat (first | refine blk_drewN ?_ _ | refine blk_drew ?_ | refine blk_alloc ?_ _)); refine blk_put (cs := #[.int .i64 a0_0, .int .i64 a0_1, .int .u64 a0_2, .int .i64 a0_3, .int .i64 a0_4, .int .i64 a0_5, .int .i64 a0_6, .int .i64 a0_7, .int .u16 a0_8, .int .i64 0, .int .i64 0, .bool false, .int .i64 0]) ?_ 9 _ rfl; (with_reducible repeat (first | refine blk_drewN ?_ _ | refine blk_drew ?_ | refine blk_alloc ?_ _)); refine blk_put (cs := #[.int .i64 a0_0, .int .i64 a0_1, .int .u64 a0_2, .int .i64 a0_3, .int .i64 a0_4, .int .i64 a0_5, .int .i64 a0_6, .int .i64 a0_7, .int .u16 0, .int .i64 0, .int .i64 0, .bool false, .int .i64 0]) ?_ 8 _ rfl; (with_reducible repeat (first | refine blk_drewN ?_ _ | refine blk_drew ?_ | refine blk_alloc ?_ _)); refine blk_put (cs := #[.int .i64 a0_0, .int .i64 a0_1, .int .u64 a0_2, .int .i64 a0_3, .int .i64 a0_4, .int .i64 a0_5, .int .i64 a0_6, .int .i64 0, .int .u16 0, .int .i64 0, .int .i64 0, .bool false, .int .i64 0]) ?_ 7 _ rfl; (with_reducible repeat (first | refine blk_drewN ?_ _ | refine blk_drew ?_ | refine blk_alloc ?_ _)); refine blk_put (cs := #[.int .i64 a0_0, .int .i64 a0_1, .int .u64 a0_2, .int .i64 a0_3, .int .i64 a0_4, .int .i64 a0_5, .int .i64 0, .int .i64 0, .int .u16 0, .int .i64 0, .int .i64 0, .bool false, .int .i64 0]) ?_ 6 _ rfl; (with_reducible repeat (first | refine blk_drewN ?_ _ | refine blk_drew ?_ | refine blk_alloc ?_ _)); refine blk_put (cs := #[.int .i64 a0_0, .int .i64 a0_1, .int .u64 a0_2, .int .i64 a0_3, .int .i64 a0_4, .int .i64 0, .int .i64 0, .int .i64 0, .int .u16 0, .int .i64 0, .int .i64 0, .bool false, .int .i64 0]) ?_ 5 _ rfl; (with_reducible repeat (first | refine blk_drewN ?_ _ | refine blk_drew ?_ | refine blk_alloc ?_ _)); refine blk_put (cs := #[.int .i64 a0_0, .int .i64 a0_1, .int .u64 a0_2, .int .i64 a0_3, .int .i64 0, .int .i64 0, .int .i64 0, .int .i64 0, .int .u16 0, .int .i64 0, .int .i64 0, .bool false, .int .i64 0]) ?_ 4 _ rfl; (with_reducible repeat (first | refine blk_drewN ?_ _ | refine blk_drew ?_ | refine blk_alloc ?_ _)); refine blk_put (cs := #[.int .i64 a0_0, .int .i64 a0_1, .int .u64 a0_2, .int .i64 0, .int .i64 0, .int .i64 0, .int .i64 0, .int .i64 0, .int .u16 0, .int .i64 0, .int .i64 0, .bool false, .int .i64 0]) ?_ 3 _ rfl; (with_reducible repeat (first | refine blk_drewN ?_ _ | refine blk_drew ?_ | refine blk_alloc ?_ _)); refine blk_put (cs := #[.int .i64 a0_0, .int .i64 a0_1, .int .u64 0, .int .i64 0, .int .i64 0, .int .i64 0, .int .i64 0, .int .i64 0, .int .u16 0, .int .i64 0, .int .i64 0, .bool false, .int .i64 0]) ?_ 2 _ rfl; (with_reducible repeat (first | refine blk_drewN ?_ _ | refine blk_drew ?_ | refine blk_alloc ?_ _)); refine blk_put (cs := #[.int .i64 a0_0, .int .i64 0, .int .u64 0, .int .i64 0, .int .i64 0, .int .i64 0, .int .i64 0, .int .i64 0, .int .u16 0, .int .i64 0, .int .i64 0, .bool false, .int .i64 0]) ?_ 1 _ rfl; (with_reducible repeat (first | refine blk_drewN ?_ _ | refine blk_drew ?_ | refine blk_alloc ?_ _)); refine blk_put (cs := #[.int .i64 0, .int .i64 0, .int .u64 0, .int .i64 0, .int .i64 0, .int .i64 0, .int .i64 0, .int .i64 0, .int .u16 0, .int .i64 0, .int .i64 0, .bool false, .int .i64 0]) ?_ 0 _ rfl; (with_reducible repeat (first | refine blk_drewN ?_ _ | refine blk_drew ?_ | refine blk_alloc ?_ _)); exact BK109.out) Try.underlying86 rfl (by kernel_rfl)) rfl ?_
 exact ⟨by first | rfl | (simp [errW_none, errW_some] <;> rfl) | (simp [*, errW_none, errW_some] <;> rfl), bse HB⟩

/-! ### node_Same: function 30 -/
def node_Same.f (k : Nat) (a0_0 : Int) (a0_1 : Int) (a0_2 : Int) (a0_3 : Int) (a0_4 : Int) (a0_5 : Int) (a0_6 : Int) (a0_7 : Int) (a0_8 : Int) (a0_9 : Int) (a0_10 : Int) (l0_11 : List Int) (a0_12 : Bool) (a0_13 : Int) (a1_0 : Int) (a1_1 : Int) (a1_2 : Int) (a1_3 : Int) (a1_4 : Int) (a1_5 : Int) (a1_6 : Int) (a1_7 : Int) (a1_8 : Int) (a1_9 : Int) (a1_10 : Int) (l1_11 : List Int) (a1_12 : Bool) (a1_13 : Int) : Option (Bool) := (slices_Equal_int64_int64.f k l0_11 l1_11).bind fun t112 => (if t112 = true then ((node_Same_1.f a0_0 a0_1 a0_2 a0_3 a0_4 a0_5 a0_6 a0_7 a0_8 a0_9 a0_10 l0_11 a0_12 a0_13).bind fun bt113 => ((node_Same_1.f a1_0 a1_1 a1_2 a1_3 a1_4 a1_5 a1_6 a1_7 a1_8 a1_9 a1_10 l1_11 a1_12 a1_13).bind fun bt126 => (some (bt113.1 == bt126.1 && (bt113.2.1 == bt126.2.1 && (bt113.2.2.1 == bt126.2.2.1 && (bt113.2.2.2.1 == bt126.2.2.2.1 && ((bt113.2.2.2.2.1 == bt126.2.2.2.2.1 && (bt113.2.2.2.2.2.1 == bt126.2.2.2.2.2.1 && (bt113.2.2.2.2.2.2.1 == bt126.2.2.2.2.2.2.1))) && (bt113.2.2.2.2.2.2.2.1 == bt126.2.2.2.2.2.2.2.1 && (bt113.2.2.2.2.2.2.2.2.1 == bt126.2.2.2.2.2.2.2.2.1 && ((bt113.2.2.2.2.2.2.2.2.2.1 == bt126.2.2.2.2.2.2.2.2.2.1 && (bt113.2.2.2.2.2.2.2.2.2.2.1 == bt126.2.2.2.2.2.2.2.2.2.2.1)) && (bt113.2.2.2.2.2.2.2.2.2.2.2.1 == bt126.2.2.2.2.2.2.2.2.2.2.2.1 && (bt113.2.2.2.2.2.2.2.2.2.2.2.2 == bt126.2.2.2.2.2.2.2.2.2.2.2.2))))))))))))) else (some false))
def node_Same.T4 : Bool × List (List Nat × List Nat) := (true, [([], []), ([], []), ([0, 1], [0, 1]), ([], []), ([], []), ([3, 4, 2], [3, 4]), ([2, 5], [2, 5]), ([6, 5, 0, 1, 2, 3, 4, 5, 6], [6])])
def node_Same.B4 : List Nat := [0, 0, 3, 0, 0, 31, 63, 127]
theorem node_Same.tab4 : rtab .any (opsOf Try.f30 4) = node_Same.T4 := by kernel_rfl
theorem node_Same.bits4 : waitsOk node_Same.T4.2 node_Same.B4 = true := by kernel_rfl
set_option maxHeartbeats 8000000 in
set_option maxRecDepth 100000 in
theorem node_Same.calls (k : Nat) (a0_0 : Int) (a0_1 : Int) (a0_2 : Int) (a0_3 : Int) (a0_4 : Int) (a0_5 : Int) (a0_6 : Int) (a0_7 : Int) (a0_8 : Int) (a0_9 : Int) (a0_10 : Int) (A0_11 : Option Addr) (c0_11 : Nat) (l0_11 : List Int) (a0_12 : Bool) (a0_13 : Int) (a1_0 : Int) (a1_1 : Int) (a1_2 : Int) (a1_3 : Int) (a1_4 : Int) (a1_5 : Int) (a1_6 : Int) (a1_7 : Int) (a1_8 : Int) (a1_9 : Int) (a1_10 : Int) (A1_11 : Option Addr) (c1_11 : Nat) (l1_11 : List Int) (a1_12 : Bool) (a1_13 : Int) (r : Bool) (w : World) (hr0_11 : Kd.C (Kd.int .i64) w A0_11 l0_11.length l0_11) (hc0_11 : l0_11.length ≤ c0_11) (hr1_11 : Kd.C (Kd.int .i64) w A1_11 l1_11.length l1_11) (hc1_11 : l1_11.length ≤ c1_11) (h : node_Same.f k a0_0 a0_1 a0_2 a0_3 a0_4 a0_5 a0_6 a0_7 a0_8 a0_9 a0_10 l0_11 a0_12 a0_13 a1_0 a1_1 a1_2 a1_3 a1_4 a1_5 a1_6 a1_7 a1_8 a1_9 a1_10 l1_11 a1_12 a1_13 = some r) :
  Calls Try.prog 30 #[.agg #[.int .i64 a0_0, .int .i64 a0_1, .int .u64 a0_2, .int .i64 a0_3, .int .i64 a0_4, .int .i64 a0_5, .int .i64 a0_6, .int .i64 a0_7, .int .u16 a0_8, .int .i64 a0_9, .int .i64 a0_10, .slice A0_11 l0_11.length c0_11, .bool a0_12, .int .i64 a0_13], .agg #[.int .i64 a1_0, .int .i64 a1_1, .int .u64 a1_2, .int .i64 a1_3, .int .i64 a1_4, .int .i64 a1_5, .int .i64 a1_6, .int .i64 a1_7, .int .u16 a1_8, .int .i64 a1_9, .int .i64 a1_10, .slice A1_11 l1_11.length c1_11, .bool a1_12, .int .i64 a1_13]] w fun e w' => e = .returned (.bool r) ∧ Below w.heap.size w w' := by
 have hu33 := Try.underlying33
 have HR0_11 := asd hr0_11
 have HC0_11 := asd hc0_11
 clear hr0_11 hc0_11
 have HR1_11 := asd hr1_11
 have HC1_11 := asd hc1_11
 clear hr1_11 hc1_11
 have HB := asd (Below.refl w.heap.size w)
 have H : ((slices_Equal_int64_int64.f k l0_11 l1_11).bind fun t112 => (if t112 = true then ((node_Same_1.f a0_0 a0_1 a0_2 a0_3 a0_4 a0_5 a0_6 a0_7 a0_8 a0_9 a0_10 l0_11 a0_12 a0_13).bind fun bt113 => ((node_Same_1.f a1_0 a1_1 a1_2 a1_3 a1_4 a1_5 a1_6 a1_7 a1_8 a1_9 a1_10 l1_11 a1_12 a1_13).bind fun bt126 => (some (bt113.1 == bt126.1 && (bt113.2.1 == bt126.2.1 && (bt113.2.2.1 == bt126.2.2.1 && (bt113.2.2.2.1 == bt126.2.2.2.1 && ((bt113.2.2.2.2.1 == bt126.2.2.2.2.1 && (bt113.2.2.2.2.2.1 == bt126.2.2.2.2.2.1 && (bt113.2.2.2.2.2.2.1 == bt126.2.2.2.2.2.2.1))) && (bt113.2.2.2.2.2.2.2.1 == bt126.2.2.2.2.2.2.2.1 && (bt113.2.2.2.2.2.2.2.2.1 == bt126.2.2.2.2.2.2.2.2.1 && ((bt113.2.2.2.2.2.2.2.2.2.1 == bt126.2.2.2.2.2.2.2.2.2.1 && (bt113.2.2.2.2.2.2.2.2.2.2.1 == bt126.2.2.2.2.2.2.2.2.2.2.1)) && (bt113.2.2.2.2.2.2.2.2.2.2.2.1 == bt126.2.2.2.2.2.2.2.2.2.2.2.1 && (bt113.2.2.2.2.2.2.2.2.2.2.2.2 == bt126.2.2.2.2.2.2.2.2.2.2.2.2))))))))))))) else (some false))) = some r := h
 clear h
 replace H := Option.bind_eq_some_iff.mp H
 obtain ⟨t112, A30, H⟩ := H
 replace H : (if t112 = true then ((node_Same_1.f a0_0 a0_1 a0_2 a0_3 a0_4 a0_5 a0_6 a0_7 a0_8 a0_9 a0_10 l0_11 a0_12 a0_13).bind fun bt113 => ((node_Same_1.f a1_0 a1_1 a1_2 a1_3 a1_4 a1_5 a1_6 a1_7 a1_8 a1_9 a1_10 l1_11 a1_12 a1_13).bind fun bt126 => (some (bt113.1 == bt126.1 && (bt113.2.1 == bt126.2.1 && (bt113.2.2.1 == bt126.2.2.1 && (bt113.2.2.2.1 == bt126.2.2.2.1 && ((bt113.2.2.2.2.1 == bt126.2.2.2.2.1 && (bt113.2.2.2.2.2.1 == bt126.2.2.2.2.2.1 && (bt113.2.2.2.2.2.2.1 == bt126.2.2.2.2.2.2.1))) && (bt113.2.2.2.2.2.2.2.1 == bt126.2.2.2.2.2.2.2.1 && (bt113.2.2.2.2.2.2.2.2.1 == bt126.2.2.2.2.2.2.2.2.1 && ((bt113.2.2.2.2.2.2.2.2.2.1 == bt126.2.2.2.2.2.2.2.2.2.1 && (bt113.2.2.2.2.2.2.2.2.2.2.1 == bt126.2.2.2.2.2.2.2.2.2.2.1)) && (bt113.2.2.2.2.2.2.2.2.2.2.2.1 == bt126.2.2.2.2.2.2.2.2.2.2.2.1 && (bt113.2.2.2.2.2.2.2.2.2.2.2.2 == bt126.2.2.2.2.2.2.2.2.2.2.2.2))))))))))))) else (some false)) = some r := H
 have A3 := asd A30
 clear A30
 by_cases c4 : t112 = true
 ·subst c4
  have H1 : ((node_Same_1.f a0_0 a0_1 a0_2 a0_3 a0_4 a0_5 a0_6 a0_7 a0_8 a0_9 a0_10 l0_11 a0_12 a0_13).bind fun bt113 => ((node_Same_1.f a1_0 a1_1 a1_2 a1_3 a1_4 a1_5 a1_6 a1_7 a1_8 a1_9 a1_10 l1_11 a1_12 a1_13).bind fun bt126 => (some (bt113.1 == bt126.1 && (bt113.2.1 == bt126.2.1 && (bt113.2.2.1 == bt126.2.2.1 && (bt113.2.2.2.1 == bt126.2.2.2.1 && ((bt113.2.2.2.2.1 == bt126.2.2.2.2.1 && (bt113.2.2.2.2.2.1 == bt126.2.2.2.2.2.1 && (bt113.2.2.2.2.2.2.1 == bt126.2.2.2.2.2.2.1))) && (bt113.2.2.2.2.2.2.2.1 == bt126.2.2.2.2.2.2.2.1 && (bt113.2.2.2.2.2.2.2.2.1 == bt126.2.2.2.2.2.2.2.2.1 && ((bt113.2.2.2.2.2.2.2.2.2.1 == bt126.2.2.2.2.2.2.2.2.2.1 && (bt113.2.2.2.2.2.2.2.2.2.2.1 == bt126.2.2.2.2.2.2.2.2.2.2.1)) && (bt113.2.2.2.2.2.2.2.2.2.2.2.1 == bt126.2.2.2.2.2.2.2.2.2.2.2.1 && (bt113.2.2.2.2.2.2.2.2.2.2.2.2 == bt126.2.2.2.2.2.2.2.2.2.2.2.2))))))))))))) = some r := by rw [if_pos rfl] at H; exact H
  clear H
  have H := H1
  clear H1
  replace H := Option.bind_eq_some_iff.mp H
  obtain ⟨⟨t113, t114, t115, t116, t117, t118, t119, t120, t121, t122, t123, t124, t125⟩, A50, H⟩ := H
  replace H : ((node_Same_1.f a1_0 a1_1 a1_2 a1_3 a1_4 a1_5 a1_6 a1_7 a1_8 a1_9 a1_10 l1_11 a1_12 a1_13).bind fun bt126 => (some (t113 == bt126.1 && (t114 == bt126.2.1 && (t115 == bt126.2.2.1 && (t116 == bt126.2.2.2.1 && ((t117 == bt126.2.2.2.2.1 && (t118 == bt126.2.2.2.2.2.1 && (t119 == bt126.2.2.2.2.2.2.1))) && (t120 == bt126.2.2.2.2.2.2.2.1 && (t121 == bt126.2.2.2.2.2.2.2.2.1 && ((t122 == bt126.2.2.2.2.2.2.2.2.2.1 && (t123 == bt126.2.2.2.2.2.2.2.2.2.2.1)) && (t124 == bt126.2.2.2.2.2.2.2.2.2.2.2.1 && (t125 == bt126.2.2.2.2.2.2.2.2.2.2.2.2)))))))))))) = some r := H
  have A5 := asd A50
  clear A50
  replace H := Option.bind_eq_some_iff.mp H
  obtain ⟨⟨t126, t127, t128, t129, t130, t131, t132, t133, t134, t135, t136, t137, t138⟩, A60, H⟩ := H
  replace H : (some (t113 == t126 && (t114 == t127 && (t115 == t128 && (t116 == t129 && ((t117 == t130 && (t118 == t131 && (t119 == t132))) && (t120 == t133 && (t121 == t134 && ((t122 == t135 && (t123 == t136)) && (t124 == t137 && (t125 == t138))))))))))) = some r := H
  have A6 := asd A60
  clear A60
  obtain rfl := Option.some.inj H
  go_enter Try.func30, Try.ntmps30
  try go_wp2_with (first | ((with_reducible refine gate_dst (N := 2) rfl ?_); refine bx (N := 2) (cs := #[.int .i64 a0_0, .int .i64 a0_1, .int .u64 a0_2, .int .i64 a0_3, .int .i64 a0_4, .int .i64 a0_5, .int .i64 a0_6, .int .i64 a0_7, .int .u16 a0_8, .int .i64 a0_9, .int .i64 a0_10, .slice A0_11 l0_11.length c0_11, .bool a0_12, .int .i64 a0_13]) (t := 33) ?_; intro gb110 hg w7 hbox hb; have BK110 := asd (hbox); have GW110 := bz HB hg; have GE110 := bz HB hg; replace HB := bs HB hb; clear hb hbox hg) | ((with_reducible refine gate_dst (N := 3) rfl ?_); refine bx (N := 3) (cs := #[.int .i64 a1_0, .int .i64 a1_1, .int .u64 a1_2, .int .i64 a1_3, .int .i64 a1_4, .int .i64 a1_5, .int .i64 a1_6, .int .i64 a1_7, .int .u16 a1_8, .int .i64 a1_9, .int .i64 a1_10, .slice A1_11 l1_11.length c1_11, .bool a1_12, .int .i64 a1_13]) (t := 33) ?_; intro gb111 hg w8 hbox hb; have BK111 := asd (hbox); have GW111 := bz HB hg; have GE111 := bz HB hg; have NB110_111 := nl BK110 hg; have NB111_110 := nr BK110 hg; replace BK110 := bb BK110 hb; replace HB := bs HB hb; clear hb hbox hg; have hnb9 := NB110_111.out; have hnc9 := NB111_110.out; have hcz10 := cf14 BK110; have hcz11 := cf14 BK111) | ((with_reducible refine gate_callee (f := 47) rfl ?_); refine gL (some 10) Try.func47 #[.slice A0_11 l0_11.length c0_11, .slice A1_11 l1_11.length c1_11] ?_; (with_reducible refine (slices_Equal_int64_int64.calls k _ _ l0_11 _ _ l1_11 true _ ?side1 ?side2 ?side3 ?side4 A3.out).mono ?_); (case side1 => exact cb HR0_11 HB); (case side2 => exact HC0_11.out); (case side3 => exact cb HR1_11 HB); (case side4 => exact HC1_11.out); rintro e w' ⟨rfl, ⟨nd, rfl⟩⟩; refine ⟨_, rfl, ?_⟩))
  (try (rw [drewN_self w8]; generalize hq_ : World.drewN w8 _ = w8; have n0_ : Aside0 (w8.heap[gb110]? = some (.cells #[.int .i64 a0_0, .int .i64 a0_1, .int .u64 a0_2, .int .i64 a0_3, .int .i64 a0_4, .int .i64 a0_5, .int .i64 a0_6, .int .i64 a0_7, .int .u16 a0_8, .int .i64 a0_9, .int .i64 a0_10, .slice A0_11 l0_11.length c0_11, .bool a0_12, .int .i64 a0_13] 33 (0, 0))) := ⟨by rw [← hq_]; exact (be BK110).out⟩; have n1_ : Aside0 (w8.heap[gb111]? = some (.cells #[.int .i64 a1_0, .int .i64 a1_1, .int .u64 a1_2, .int .i64 a1_3, .int .i64 a1_4, .int .i64 a1_5, .int .i64 a1_6, .int .i64 a1_7, .int .u16 a1_8, .int .i64 a1_9, .int .i64 a1_10, .slice A1_11 l1_11.length c1_11, .bool a1_12, .int .i64 a1_13] 33 (0, 0))) := ⟨by rw [← hq_]; exact (be BK111).out⟩; have n2_ : Aside0 (Below w.heap.size w w8) := ⟨by rw [← hq_]; exact (bse HB)⟩; clear BK110 BK111 HB hq_; have BK110 := n0_; have BK111 := n1_; have HB := n2_; clear n0_ n1_ n2_))
  replace BK110 := asd (blk_drew BK110.out)
  replace BK111 := asd (blk_drew BK111.out)
  replace HB := asd (below_drew1 HB.out)
  refine start_ (n := 8) (S := fun w' => w'.cell? ⟨gb110, 0, none⟩ = some (.int .i64 a0_0) ∧ w'.cell? ⟨gb110, 1, none⟩ = some (.int .i64 a0_1) ∧ w'.cell? ⟨gb110, 2, none⟩ = some (.int .u64 a0_2) ∧ w'.cell? ⟨gb110, 3, none⟩ = some (.int .i64 a0_3) ∧ w'.cell? ⟨gb110, 4, none⟩ = some (.int .i64 a0_4) ∧ w'.cell? ⟨gb110, 5, none⟩ = some (.int .i64 a0_5) ∧ w'.cell? ⟨gb110, 6, none⟩ = some (.int .i64 a0_6) ∧ w'.cell? ⟨gb110, 7, none⟩ = some (.int .i64 a0_7) ∧ w'.cell? ⟨gb110, 8, none⟩ = some (.int .u16 a0_8) ∧ w'.cell? ⟨gb110, 9, none⟩ = some (.int .i64 a0_9) ∧ w'.cell? ⟨gb110, 10, none⟩ = some (.int .i64 a0_10) ∧ w'.cell? ⟨gb110, 11, none⟩ = some (.slice A0_11 l0_11.length c0_11) ∧ w'.cell? ⟨gb110, 12, none⟩ = some (.bool a0_12) ∧ w'.cell? ⟨gb110, 13, none⟩ = some (.int .i64 a0_13) ∧ w'.cell? ⟨gb111, 0, none⟩ = some (.int .i64 a1_0) ∧ w'.cell? ⟨gb111, 1, none⟩ = some (.int .i64 a1_1) ∧ w'.cell? ⟨gb111, 2, none⟩ = some (.int .u64 a1_2) ∧ w'.cell? ⟨gb111, 3, none⟩ = some (.int .i64 a1_3) ∧ w'.cell? ⟨gb111, 4, none⟩ = some (.int .i64 a1_4) ∧ w'.cell? ⟨gb111, 5, none⟩ = some (.int .i64 a1_5) ∧ w'.cell? ⟨gb111, 6, none⟩ = some (.int .i64 a1_6) ∧ w'.cell? ⟨gb111, 7, none⟩ = some (.int .i64 a1_7) ∧ w'.cell? ⟨gb111, 8, none⟩ = some (.int .u16 a1_8) ∧ w'.cell? ⟨gb111, 9, none⟩ = some (.int .i64 a1_9) ∧ w'.cell? ⟨gb111, 10, none⟩ = some (.int .i64 a1_10) ∧ w'.cell? ⟨gb111, 11, none⟩ = some (.slice A1_11 l1_11.length c1_11) ∧ w'.cell? ⟨gb111, 12, none⟩ = some (.bool a1_12) ∧ w'.cell? ⟨gb111, 13, none⟩ = some (.int .i64 a1_13)) (ds := []) (fb 8 0) (by kernel_rfl) rfl rfl ⟨(blk_cell BK110.out 0).trans rfl, (blk_cell BK110.out 1).trans rfl, (blk_cell BK110.out 2).trans rfl, (blk_cell BK110.out 3).trans rfl, (blk_cell BK110.out 4).trans rfl, (blk_cell BK110.out 5).trans rfl, (blk_cell BK110.out 6).trans rfl, (blk_cell BK110.out 7).trans rfl, (blk_cell BK110.out 8).trans rfl, (blk_cell BK110.out 9).trans rfl, (blk_cell BK110.out 10).trans rfl, (blk_cell BK110.out 11).trans rfl, (blk_cell BK110.out 12).trans rfl, (blk_cell BK110.out 13).trans rfl, (blk_cell BK111.out 0).trans rfl, (blk_cell BK111.out 1).trans rfl, (blk_cell BK111.out 2).trans rfl, (blk_cell BK111.out 3).trans rfl, (blk_cell BK111.out 4).trans rfl, (blk_cell BK111.out 5).trans rfl, (blk_cell BK111.out 6).trans rfl, (blk_cell BK111.out 7).trans rfl, (blk_cell BK111.out 8).trans rfl, (blk_cell BK111.out 9).trans rfl, (blk_cell BK111.out 10).trans rfl, (blk_cell BK111.out 11).trans rfl, (blk_cell BK111.out 12).trans rfl, (blk_cell BK111.out 13).trans rfl⟩ (fun hHeld => ?_); refine with_tabW node_Same.tab4 node_Same.bits4 (fun HT_ HW_ => ?_)
  generalize w8.drew = w12 at BK110 BK111 HB hHeld ⊢
  refine pz (i := 0) (N := some 12) (fb 8 1) ?_ (hc := any_of HT_.out (by kernel_rfl))
  refine pz (i := 3) (N := some 15) (fb 8 9) ?_ (hc := any_of HT_.out (by kernel_rfl))
  refine tz (i := 1) (N := some 13) (fb 8 11) hHeld ?_ (hc := take_ofW HT_.out HW_.out (by kernel_rfl))
  refine tz (i := 4) (N := some 16) (fb 8 27) hHeld ?_ (hc := take_ofW HT_.out HW_.out (by kernel_rfl))
  refine one_ (i := 2) (N := some 14) (fb 8 31) rfl rfl (one_of HT_.out (by kernel_rfl)) (by decide) (fun K hK => ?_)
  refine goesV_ Try.func48 (by kernel_rfl) rfl #[.agg #[.int .i64 a0_0, .int .i64 a0_1, .int .u64 a0_2, .int .i64 a0_3, .int .i64 a0_4, .int .i64 a0_5, .int .i64 a0_6, .int .i64 a0_7, .int .u16 a0_8, .int .i64 a0_9, .int .i64 a0_10, .slice A0_11 l0_11.length c0_11, .bool a0_12, .int .i64 a0_13]] (by rfl) rfl rfl (by first | rfl | (simp; done) | (go_simp; done)) (by (try simp only [List.map_toArray, List.map_cons, List.map_nil]); first | done | rfl | (simp only [List.length_drop, List.length_take]; first | rfl | (rw [Nat.min_eq_left (Int.toNat_le.2 (of_decide_eq_true (by assumption)))]; rfl))) ?_
  with_reducible refine (node_Same_1.calls a0_0 a0_1 a0_2 a0_3 a0_4 a0_5 a0_6 a0_7 a0_8 a0_9 a0_10 _ _ l0_11 a0_12 a0_13 t113 t114 t115 t116 t117 t118 t119 t120 t121 t122 t123 t124 t125 _ ?side1 ?side2 A5.out).mono ?_
  (case side1 => exact cb HR0_11 HB)
  (case side2 => exact HC0_11.out)
  rintro e w13 ⟨rfl, hb⟩
  refine ⟨_, rfl, ?_⟩
  replace BK110 := bb BK110 hb
  replace BK111 := bb BK111 hb
  replace HB := bs HB hb
  (try clear hb)
  (try clear hb2)
  (try clear hk)
  (try clear hi)
  refine hK.out _ _ ⟨(blk_cell BK110.out 0).trans rfl, (blk_cell BK110.out 1).trans rfl, (blk_cell BK110.out 2).trans rfl, (blk_cell BK110.out 3).trans rfl, (blk_cell BK110.out 4).trans rfl, (blk_cell BK110.out 5).trans rfl, (blk_cell BK110.out 6).trans rfl, (blk_cell BK110.out 7).trans rfl, (blk_cell BK110.out 8).trans rfl, (blk_cell BK110.out 9).trans rfl, (blk_cell BK110.out 10).trans rfl, (blk_cell BK110.out 11).trans rfl, (blk_cell BK110.out 12).trans rfl, (blk_cell BK110.out 13).trans rfl, (blk_cell BK111.out 0).trans rfl, (blk_cell BK111.out 1).trans rfl, (blk_cell BK111.out 2).trans rfl, (blk_cell BK111.out 3).trans rfl, (blk_cell BK111.out 4).trans rfl, (blk_cell BK111.out 5).trans rfl, (blk_cell BK111.out 6).trans rfl, (blk_cell BK111.out 7).trans rfl, (blk_cell BK111.out 8).trans rfl, (blk_cell BK111.out 9).trans rfl, (blk_cell BK111.out 10).trans rfl, (blk_cell BK111.out 11).trans rfl, (blk_cell BK111.out 12).trans rfl, (blk_cell BK111.out 13).trans rfl⟩ (fun hHeld => ?_)
  clear hK K
  refine norm_ (a' := ?_) ?_ ?_
  rotate_left
  ·show Act.put _ (some 14) _ = _
   simp only [Act.put, List.setIfInBounds_toArray, List.set_cons_zero, List.set_cons_succ, i64_w, i32_w]
   rfl
  refine one_ (i := 5) (N := some 17) (fb 8 63) rfl rfl (one_of HT_.out (by kernel_rfl)) (by decide) (fun K hK => ?_)
  refine goesV_ Try.func48 (by kernel_rfl) rfl #[.agg #[.int .i64 a1_0, .int .i64 a1_1, .int .u64 a1_2, .int .i64 a1_3, .int .i64 a1_4, .int .i64 a1_5, .int .i64 a1_6, .int .i64 a1_7, .int .u16 a1_8, .int .i64 a1_9, .int .i64 a1_10, .slice A1_11 l1_11.length c1_11, .bool a1_12, .int .i64 a1_13]] (by rfl) rfl rfl (by first | rfl | (simp; done) | (go_simp; done)) (by (try simp only [List.map_toArray, List.map_cons, List.map_nil]); first | done | rfl | (simp only [List.length_drop, List.length_take]; first | rfl | (rw [Nat.min_eq_left (Int.toNat_le.2 (of_decide_eq_true (by assumption)))]; rfl))) ?_
  with_reducible refine (node_Same_1.calls a1_0 a1_1 a1_2 a1_3 a1_4 a1_5 a1_6 a1_7 a1_8 a1_9 a1_10 _ _ l1_11 a1_12 a1_13 t126 t127 t128 t129 t130 t131 t132 t133 t134 t135 t136 t137 t138 _ ?side1 ?side2 A6.out).mono ?_
  (case side1 => exact cb HR1_11 HB)
  (case side2 => exact HC1_11.out)
  rintro e w14 ⟨rfl, hb⟩
  refine ⟨_, rfl, ?_⟩
  replace BK110 := bb BK110 hb
  replace BK111 := bb BK111 hb
  replace HB := bs HB hb
  (try clear hb)
  (try clear hb2)
  (try clear hk)
  (try clear hi)
  refine hK.out _ _ ⟨(blk_cell BK110.out 0).trans rfl, (blk_cell BK110.out 1).trans rfl, (blk_cell BK110.out 2).trans rfl, (blk_cell BK110.out 3).trans rfl, (blk_cell BK110.out 4).trans rfl, (blk_cell BK110.out 5).trans rfl, (blk_cell BK110.out 6).trans rfl, (blk_cell BK110.out 7).trans rfl, (blk_cell BK110.out 8).trans rfl, (blk_cell BK110.out 9).trans rfl, (blk_cell BK110.out 10).trans rfl, (blk_cell BK110.out 11).trans rfl, (blk_cell BK110.out 12).trans rfl, (blk_cell BK110.out 13).trans rfl, (blk_cell BK111.out 0).trans rfl, (blk_cell BK111.out 1).trans rfl, (blk_cell BK111.out 2).trans rfl, (blk_cell BK111.out 3).trans rfl, (blk_cell BK111.out 4).trans rfl, (blk_cell BK111.out 5).trans rfl, (blk_cell BK111.out 6).trans rfl, (blk_cell BK111.out 7).trans rfl, (blk_cell BK111.out 8).trans rfl, (blk_cell BK111.out 9).trans rfl, (blk_cell BK111.out 10).trans rfl, (blk_cell BK111.out 11).trans rfl, (blk_cell BK111.out 12).trans rfl, (blk_cell BK111.out 13).trans rfl⟩ (fun hHeld => ?_)
  clear hK K
  refine norm_ (a' := ?_) ?_ ?_
  rotate_left
  ·show Act.put _ (some 17) _ = _
   simp only [Act.put, List.setIfInBounds_toArray, List.set_cons_zero, List.set_cons_succ, i64_w, i32_w]
   rfl
  refine pz (i := 6) (N := some 18) (fb 8 127) ?_ (hc := any_of HT_.out (by kernel_rfl))
  refine pz (i := 7) (N := some 4) (fb 8 255) ?_ (hc := any_of HT_.out (by kernel_rfl))
  refine done_ (done_of HT_.out (by kernel_rfl)) ?_
  try go_wp2
  go_ret
  exact ⟨by first | rfl | (simp [errW_none, errW_some] <;> rfl) | (simp [*, errW_none, errW_some] <;> rfl), bse HB⟩
 ·replace c4 := Bool.eq_false_iff.mpr c4
  subst c4
  have H1 : (some false) = some r := by rw [if_neg (show ¬ (false = true) by decide)] at H; exact H
  clear H
  have H := H1
  clear H1
  obtain rfl := Option.some.inj H
  go_enter Try.func30, Try.ntmps30
  go_wp2_with (first | ((with_reducible refine gate_dst (N := 2) rfl ?_); refine bx (N := 2) (cs := #[.int .i64 a0_0, .int .i64 a0_1, .int .u64 a0_2, .int .i64 a0_3, .int .i64 a0_4, .int .i64 a0_5, .int .i64 a0_6, .int .i64 a0_7, .int .u16 a0_8, .int .i64 a0_9, .int .i64 a0_10, .slice A0_11 l0_11.length c0_11, .bool a0_12, .int .i64 a0_13]) (t := 33) ?_; intro gb110 hg w15 hbox hb; have BK110 := asd (hbox); have GW110 := bz HB hg; have GE110 := bz HB hg; replace HB := bs HB hb; clear hb hbox hg) | ((with_reducible refine gate_dst (N := 3) rfl ?_); refine bx (N := 3) (cs := #[.int .i64 a1_0, .int .i64 a1_1, .int .u64 a1_2, .int .i64 a1_3, .int .i64 a1_4, .int .i64 a1_5, .int .i64 a1_6, .int .i64 a1_7, .int .u16 a1_8, .int .i64 a1_9, .int .i64 a1_10, .slice A1_11 l1_11.length c1_11, .bool a1_12, .int .i64 a1_13]) (t := 33) ?_; intro gb111 hg w16 hbox hb; have BK111 := asd (hbox); have GW111 := bz HB hg; have GE111 := bz HB hg; have NB110_111 := nl BK110 hg; have NB111_110 := nr BK110 hg; replace BK110 := bb BK110 hb; replace HB := bs HB hb; clear hb hbox hg; have hnb17 := NB110_111.out; have hnc17 := NB111_110.out; have hcz18 := cf14 BK110; have hcz19 := cf14 BK111) | ((with_reducible refine gate_callee (f := 47) rfl ?_); refine gL (some 10) Try.func47 #[.slice A0_11 l0_11.length c0_11, .slice A1_11 l1_11.length c1_11] ?_; (with_reducible refine (slices_Equal_int64_int64.calls k _ _ l0_11 _ _ l1_11 false _ ?side1 ?side2 ?side3 ?side4 A3.out).mono ?_); (case side1 => exact cb HR0_11 HB); (case side2 => exact HC0_11.out); (case side3 => exact cb HR1_11 HB); (case side4 => exact HC1_11.out); rintro e w' ⟨rfl, ⟨nd, rfl⟩⟩; refine ⟨_, rfl, ?_⟩))
  go_ret
  exact ⟨by first | rfl | (simp [errW_none, errW_some] <;> rfl) | (simp [*, errW_none, errW_some] <;> rfl), bse HB⟩

end Go.Proofs.Ytcofclkgfandfaa.Print
