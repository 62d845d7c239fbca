/- This is the row of the law FrameWrites, out of its statement over numbers and lists (Pure) and the printed walk: printed by a program of this session (row2.py). -/
import Derived.Test.YtogdelhofdelgaaRows
import Derived.Test.YtogdelhofdelgaaPrint22
import Derived.Test.YtogdelhofdelgaaPureFrameWrites
import Derived.Test.YtogdelhofdelgaaOpens
import Derived.WalkKit
import Derived.ProofKit
import Derived.OpenShut
import Derived.ShutString
import Derived.ChangeOld
import Derived.Below
import Derived.SizedLaws
set_option linter.unusedVariables false
set_option linter.unusedSimpArgs false
namespace Go.Proofs.Ytogdelhofdelgaa.frameWrites
open Go.ChangeShapes Go.WideShapes Go.ChangeAt Go.RowKit
open Go.ChangeMaps (open_string shut_string)
open Go.Proofs.Ytogdelhofdelgaa.Print Go.Proofs.YtogdelhofdelgaaX Go.Proofs.Ytogdelhofdelgaa.Opens Go.Proofs.YtogdelhofdelgaaW.PrintWords
theorem own : ownKnob Try.prog.godebug = none := by kernel_rfl
theorem laidOut : laidOutB Try.prog = true := by kernel_rfl
set_option maxRecDepth 100000 in
set_option maxHeartbeats 4000000 in
theorem lifted (os : Os) (started : os.Started) (H : Type) (enc : TypeId × Value → H) :
    ReturnsInHanded {} Try.checked os 6 .any (Rows.frameWritesSpec.pre6 enc Try.prog Try.f6 Rows.frameWritesRow.domain false) (Rows.frameWritesSpec.post enc Try.prog Try.f6 false true false false) := by
  refine returnsInHanded_of_change_sized (C := Try.checked) own started (by kernel_rfl) Try.func6
    (ChangeSpec.witness6 (enc := enc) (C := Try.checked) false ⟨#[], #[.agg #[.int .i64 0, .int .i64 0, .int .u64 0, .int .u16 0], .slice none 0 0], []⟩ 8 (by kernel_rfl) (by kernel_rfl) (by kernel_rfl) (by kernel_rfl)) ?_
  intro W base args ds gs before hval0 hW hcnd hsz0 _
  have hsz : (DataW.weightsEach Try.prog (Try.f6.params.toList ++ Rows.frameWritesSpec.plain.varTypes Try.prog) (ds ++ gs)).all (· ≤ reachBytes) = true := hsz0
  have hval : ∀ (j : Nat) t v, Try.f6.params[j]? = some t → args[j]? = some v → Value.okWide Try.prog W .any base t v := hval0
  have hW' := hW
  obtain ⟨p, q, hA0, hV, rfl, hfz, hnd⟩ := hW
  have hA : DataW.TrodAll enc Try.prog W 0 (fun _ => true) true Try.f6.params.toList args.toList ds p := hA0
  rw [Try.params6] at hA hval hsz
  obtain ⟨v0, vs0, d0, ds0, p0, q0, hargs, rfl, rfl, h0, r0⟩ := trodAll_cons hA
  obtain ⟨v1, vs1, d1, ds1, p1, q1, rfl, rfl, rfl, h1, r1⟩ := trodAll_cons r0
  obtain ⟨rfl, rfl, rfl⟩ := trodAll_nil r1
  obtain rfl : args = #[v0, v1] := by cases args; simp_all
  obtain ⟨rfl, rfl⟩ := trodVars_none hV
  obtain ⟨c0, rfl, _⟩ := okWide_struct Try.underlying25 (hval 0 25 v0 rfl rfl)
  have k0_ := h0
  have lt0 : ∀ x ∈ p0, x.block < W.heap.size := by obtain ⟨m, hm⟩ := k0_; exact DataW.trod_lt m _ _ _ hm
  obtain ⟨x0, hK0, w0⟩ := Rd.open_ rd25 h0
  have e0 := k25_open hK0
  obtain rfl := agg_of e0
  obtain ⟨a1, len1, cap1, rfl⟩ := okWide_slice Try.underlying27 (hval 1 27 v1 rfl rfl)
  have k1_ := h1
  have lt1 : ∀ x ∈ p1, x.block < W.heap.size := by obtain ⟨m, hm⟩ := k1_; exact DataW.trod_lt m _ _ _ hm
  obtain ⟨x1, ⟨A1, c1, e1, l1, g1⟩, w1⟩ := Rd.open_ (Rd.slice Try.underlying27 (by kernel_rfl) (Rd.int Try.underlying5)) h1
  have y1 : len1 * 1 ≤ 140737488351232 := sized_any hsz (j := 1) (t := 27) rfl rfl Try.underlying27 (by kernel_rfl) h1
  have e1 := slice_of e1
  injection e1 with e1 _
  injection e1 with e1a e1b e1c
  subst e1a e1b e1c
  clear hA0 hval0 hsz0 hsz
  obtain ⟨k, h⟩ := Pure.FrameWrites x0.f0 x0.f1 x0.f2 x0.f3 x1 w0.1 w0.2.1 w0.2.2.1 w0.2.2.2 w1.1 y1 w1.2
  refine (palletlaw08_FrameWrites.calls k x0.f0 x0.f1 x0.f2 x0.f3 _ _ x1 true W g1 l1 ⟨rfl⟩ h).mono fun e W' ⟨he, bel0⟩ => ?_
  have bel : Below W.heap.size W W' := bel0
  subst he
  exact ⟨_, rfl, _, _, _, [], _, [], hW', trodAll_mk1 (shut_bool Try.underlying4 _), (trodAll_cons_mk (Below.trod laidOut (by kernel_rfl) (of_decide_eq_true (by kernel_rfl)) k0_ bel lt0) (trodAll_cons_mk (Below.trod laidOut (by kernel_rfl) (of_decide_eq_true (by kernel_rfl)) k1_ bel lt1) trodAll_mk0)), rfl, bel.frame _, fun h => by cases h⟩
theorem over : Rows.frameWritesRow.holds Try.pinned (OpenSpec.ofChange Rows.frameWritesSpec) :=
  OpenClaim.holds_of_wide 6 Try.f6 rfl rfl rfl rfl rfl rfl rfl ⟨rfl, rfl, rfl, rfl, rfl⟩ rfl rfl rfl rfl rfl (by kernel_rfl) Try.func6 (by kernel_rfl)
    (of_decide_eq_true (by kernel_rfl)) (by unfold Func.isWrapper; first | (rw [if_pos (by decide +kernel)]; kernel_rfl) | (rw [if_neg (by decide +kernel)]; exact ⟨rfl, rfl⟩))
    (fun os started H enc _ => lifted os started H enc)
theorem proved : Rows.FrameWritesSaid := over
#print axioms proved
end Go.Proofs.Ytogdelhofdelgaa.frameWrites
namespace Go.Proofs.Ytogdelhofdelgaa
/-- The row, under a short name, for the claim. -/
theorem frameWrites_holds : Rows.FrameWritesSaid := frameWrites.proved
end Go.Proofs.Ytogdelhofdelgaa
