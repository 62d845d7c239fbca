/- What is garbled, no frame or its own changes no node, and is answered by nothing; a node that is off or frozen hears nothing at all; whatever is heard comes to an end. Conditions: none but the kinds of the values. This is the row of the law NodeDeaf, out of its statement over numbers and lists (Pure) and the printed walk: printed by a program of this session (row2.py). -/
import Derived.Test.YtcofclkgfandfaaGreatRows
import Derived.Test.YtcofclkgfandfaaGreatPrint36
import Derived.Test.YtcofclkgfandfaaGreatPureNodeDeaf
import Derived.Test.YtcofclkgfandfaaGreatOpens
import Derived.WalkKit
import Derived.ProofKit
import Derived.OpenShut
import Derived.ShutString
import Derived.ChangeOld
import Derived.Below
import Derived.SizedLaws
set_option linter.unusedVariables false
set_option linter.unusedSimpArgs false
namespace Go.Proofs.YtcofclkgfandfaaGreat.nodeDeaf
open Go.ChangeShapes Go.WideShapes Go.ChangeAt Go.RowKit
open Go.ChangeMaps (open_string shut_string)
open Go.Proofs.YtcofclkgfandfaaGreat.Print Go.Proofs.YtcofclkgfandfaaGreatX Go.Proofs.YtcofclkgfandfaaGreat.Opens Go.Proofs.YtcofclkgfandfaaGreatW.PrintWords
theorem own : ownKnob Tryz.prog.godebug = none := by kernel_rfl
theorem laidOut : laidOutB Tryz.prog = true := by kernel_rfl
set_option maxRecDepth 100000 in
set_option maxHeartbeats 4000000 in
theorem lifted (os : Os) (started : os.Started) (H : Type) (enc : TypeId × Value → H) :
    ReturnsInHanded {} Tryz.checked os 3 .any (Rows.nodeDeafSpec.pre6 enc Tryz.prog Tryz.f3 Rows.nodeDeafRow.domain false) (Rows.nodeDeafSpec.post enc Tryz.prog Tryz.f3 false true false false) := by
  refine returnsInHanded_of_change_sized (C := Tryz.checked) own started (by kernel_rfl) Tryz.func3
    (ChangeSpec.witness6 (enc := enc) (C := Tryz.checked) false ⟨#[], #[.agg #[.int .i64 0, .int .i64 0, .int .i64 0, .int .i64 0, .int .i64 0], .agg #[.int .i64 0, .int .i64 0, .int .u64 0, .int .i64 0, .int .i64 0, .int .i64 0, .int .i64 0, .int .i64 0, .int .u16 0, .int .i64 0, .int .i64 0, .slice none 0 0, .bool false, .int .i64 0], .int .i64 0, .int .i64 0, .slice none 0 0], []⟩ 8 (by kernel_rfl) (by kernel_rfl) (by kernel_rfl) (by kernel_rfl)) ?_
  intro W base args ds gs before hval0 hW hcnd hsz0 _
  have hsz : (DataW.weightsEach Tryz.prog (Tryz.f3.params.toList ++ Rows.nodeDeafSpec.plain.varTypes Tryz.prog) (ds ++ gs)).all (· ≤ reachBytes) = true := hsz0
  have hval : ∀ (j : Nat) t v, Tryz.f3.params[j]? = some t → args[j]? = some v → Value.okWide Tryz.prog W .any base t v := hval0
  have hW' := hW
  obtain ⟨p, q, hA0, hV, rfl, hfz, hnd⟩ := hW
  have hA : DataW.TrodAll enc Tryz.prog W 0 (fun _ => true) true Tryz.f3.params.toList args.toList ds p := hA0
  rw [Tryz.params3] at hA hval hsz
  obtain ⟨v0, vs0, d0, ds0, p0, q0, hargs, rfl, rfl, h0, r0⟩ := trodAll_cons hA
  obtain ⟨v1, vs1, d1, ds1, p1, q1, rfl, rfl, rfl, h1, r1⟩ := trodAll_cons r0
  obtain ⟨v2, vs2, d2, ds2, p2, q2, rfl, rfl, rfl, h2, r2⟩ := trodAll_cons r1
  obtain ⟨v3, vs3, d3, ds3, p3, q3, rfl, rfl, rfl, h3, r3⟩ := trodAll_cons r2
  obtain ⟨v4, vs4, d4, ds4, p4, q4, rfl, rfl, rfl, h4, r4⟩ := trodAll_cons r3
  obtain ⟨rfl, rfl, rfl⟩ := trodAll_nil r4
  obtain rfl : args = #[v0, v1, v2, v3, v4] := by cases args; simp_all
  obtain ⟨rfl, rfl⟩ := trodVars_none hV
  obtain ⟨c0, rfl, _⟩ := okWide_struct Tryz.underlying23 (hval 0 23 v0 rfl rfl)
  have k0_ := h0
  have lt0 : ∀ x ∈ p0, x.block < W.heap.size := by obtain ⟨m, hm⟩ := k0_; exact DataW.trod_lt m _ _ _ hm
  obtain ⟨x0, hK0, w0⟩ := Rd.open_ rd23 h0
  have e0 := k23_open hK0
  obtain rfl := agg_of e0
  obtain ⟨c1, rfl, _⟩ := okWide_struct Tryz.underlying32 (hval 1 32 v1 rfl rfl)
  have k1_ := h1
  have lt1 : ∀ x ∈ p1, x.block < W.heap.size := by obtain ⟨m, hm⟩ := k1_; exact DataW.trod_lt m _ _ _ hm
  obtain ⟨x1, hK1, w1⟩ := Rd.open_ rd32 h1
  obtain ⟨A1_11, c1_11, e1, l1_11, g1_11⟩ := k32_open hK1
  obtain rfl := agg_of e1
  obtain ⟨a2, rfl, rfl, rfl, w2⟩ := open_int Tryz.underlying2 (hval 2 2 v2 rfl rfl) h2
  obtain ⟨a3, rfl, rfl, rfl, w3⟩ := open_int Tryz.underlying2 (hval 3 2 v3 rfl rfl) h3
  obtain ⟨a4, len4, cap4, rfl⟩ := okWide_slice Tryz.underlying33 (hval 4 33 v4 rfl rfl)
  have k4_ := h4
  have lt4 : ∀ x ∈ p4, x.block < W.heap.size := by obtain ⟨m, hm⟩ := k4_; exact DataW.trod_lt m _ _ _ hm
  obtain ⟨x4, ⟨A4, c4, e4, l4, g4⟩, w4⟩ := Rd.open_ (Rd.slice Tryz.underlying33 (by kernel_rfl) (Rd.int Tryz.underlying5)) h4
  have y4 : len4 * 1 ≤ 140737488351232 := sized_any hsz (j := 4) (t := 33) rfl rfl Tryz.underlying33 (by kernel_rfl) h4
  have e4 := slice_of e4
  injection e4 with e4 _
  injection e4 with e4a e4b e4c
  subst e4a e4b e4c
  clear hA0 hval0 hsz0 hsz
  obtain ⟨k, h⟩ := Pure.NodeDeaf x0.f0 x0.f1 x0.f2 x0.f3 x0.f4 x1.f0 x1.f1 x1.f2 x1.f3 x1.f4.f0 x1.f4.f1 x1.f4.f2 x1.f5 x1.f6 x1.f7.f0 x1.f7.f1 x1.f8 x1.f9 x1.f10 a2 a3 x4 w0.1 w0.2.1 w0.2.2.1 w0.2.2.2.1 w0.2.2.2.2 w1.1 w1.2.1 w1.2.2.1 w1.2.2.2.1 w1.2.2.2.2.1.1 w1.2.2.2.2.1.2.1 w1.2.2.2.2.1.2.2 w1.2.2.2.2.2.1 w1.2.2.2.2.2.2.1 w1.2.2.2.2.2.2.2.1.1 w1.2.2.2.2.2.2.2.1.2 w1.2.2.2.2.2.2.2.2.1.1 w1.2.2.2.2.2.2.2.2.1.2 w1.2.2.2.2.2.2.2.2.2.2 w2 w3 w4.1 y4 w4.2
  refine (palletlaw13_NodeDeaf.calls k x0.f0 x0.f1 x0.f2 x0.f3 x0.f4 x1.f0 x1.f1 x1.f2 x1.f3 x1.f4.f0 x1.f4.f1 x1.f4.f2 x1.f5 x1.f6 x1.f7.f0 x1.f7.f1 _ _ x1.f8 x1.f9 x1.f10 a2 a3 _ _ x4 true W g1_11 l1_11 g4 l4 ⟨rfl⟩ h).mono fun e W' ⟨he, bel0⟩ => ?_
  have bel : Below W.heap.size W W' := bel0
  subst he
  exact ⟨_, rfl, _, _, _, [], _, [], hW', trodAll_mk1 (shut_bool Tryz.underlying4 _), (trodAll_cons_mk (Below.trod laidOut (by kernel_rfl) (of_decide_eq_true (by kernel_rfl)) k0_ bel lt0) (trodAll_cons_mk (Below.trod laidOut (by kernel_rfl) (of_decide_eq_true (by kernel_rfl)) k1_ bel lt1) (trodAll_cons_mk (shut_int Tryz.underlying2 w2) (trodAll_cons_mk (shut_int Tryz.underlying2 w3) (trodAll_cons_mk (Below.trod laidOut (by kernel_rfl) (of_decide_eq_true (by kernel_rfl)) k4_ bel lt4) trodAll_mk0))))), rfl, bel.frame _, fun h => by cases h⟩
theorem over : Rows.nodeDeafRow.holds Tryz.pinned (OpenSpec.ofChange Rows.nodeDeafSpec) :=
  OpenClaim.holds_of_wide 3 Tryz.f3 rfl rfl rfl rfl rfl rfl rfl ⟨rfl, rfl, rfl, rfl, rfl⟩ rfl rfl rfl rfl rfl (by kernel_rfl) Tryz.func3 (by kernel_rfl)
    (of_decide_eq_true (by kernel_rfl)) (by unfold Func.isWrapper; first | (rw [if_pos (by decide +kernel)]; kernel_rfl) | (rw [if_neg (by decide +kernel)]; exact ⟨rfl, rfl⟩))
    (fun os started H enc _ => lifted os started H enc)
theorem proved : Rows.NodeDeafSaid := over
#print axioms proved
end Go.Proofs.YtcofclkgfandfaaGreat.nodeDeaf
namespace Go.Proofs.YtcofclkgfandfaaGreat
/-- The row, under a short name, for the claim. -/
theorem nodeDeaf_holds : Rows.NodeDeafSaid := nodeDeaf.proved
end Go.Proofs.YtcofclkgfandfaaGreat
