/- This is the row of the law FtaLies, out of its statement over numbers and lists (Pure) and the printed walk: printed by a program of this session (row2.py). -/
import Derived.Test.YticlckhgobegnaaRows
import Derived.Test.YticlckhgobegnaaPrint12
import Derived.Test.YticlckhgobegnaaPureFtaLies
import Derived.Test.YticlckhgobegnaaOpens
import Derived.WalkKit
import Derived.ProofKit
import Derived.OpenShut
import Derived.ShutString
import Derived.ChangeOld
import Derived.Below
import Derived.SizedLaws
set_option linter.unusedVariables false
set_option linter.unusedSimpArgs false
namespace Go.Proofs.Yticlckhgobegnaa.ftaLies
open Go.ChangeShapes Go.WideShapes Go.ChangeAt Go.RowKit
open Go.ChangeMaps (open_string shut_string)
open Go.Proofs.Yticlckhgobegnaa.Print Go.Proofs.YticlckhgobegnaaX Go.Proofs.Yticlckhgobegnaa.Opens Go.Proofs.YticlckhgobegnaaW.PrintWords
theorem own : ownKnob Try.prog.godebug = none := by kernel_rfl
theorem laidOut : laidOutB Try.prog = true := by kernel_rfl
set_option maxRecDepth 100000 in
set_option maxHeartbeats 4000000 in
theorem lifted (os : Os) (started : os.Started) (H : Type) (enc : TypeId × Value → H) :
    ReturnsInHanded {} Try.checked os 4 .any (Rows.ftaLiesSpec.pre6 enc Try.prog Try.f4 Rows.ftaLiesRow.domain false) (Rows.ftaLiesSpec.post enc Try.prog Try.f4 false true false false) := by
  refine returnsInHanded_of_change_sized (C := Try.checked) own started (by kernel_rfl) Try.func4
    (ChangeSpec.witness6 (enc := enc) (C := Try.checked) false ⟨#[], #[.slice none 0 0, .slice none 0 0, .slice none 0 0, .int .i64 0, .int .i64 0], []⟩ 8 (by kernel_rfl) (by kernel_rfl) (by kernel_rfl) (by kernel_rfl)) ?_
  intro W base args ds gs before hval0 hW hcnd hsz0 _
  have hsz : (DataW.weightsEach Try.prog (Try.f4.params.toList ++ Rows.ftaLiesSpec.plain.varTypes Try.prog) (ds ++ gs)).all (· ≤ reachBytes) = true := hsz0
  have hval : ∀ (j : Nat) t v, Try.f4.params[j]? = some t → args[j]? = some v → Value.okWide Try.prog W .any base t v := hval0
  have hW' := hW
  obtain ⟨p, q, hA0, hV, rfl, hfz, hnd⟩ := hW
  have hA : DataW.TrodAll enc Try.prog W 0 (fun _ => true) true Try.f4.params.toList args.toList ds p := hA0
  rw [Try.params4] at hA hval hsz
  obtain ⟨v0, vs0, d0, ds0, p0, q0, hargs, rfl, rfl, h0, r0⟩ := trodAll_cons hA
  obtain ⟨v1, vs1, d1, ds1, p1, q1, rfl, rfl, rfl, h1, r1⟩ := trodAll_cons r0
  obtain ⟨v2, vs2, d2, ds2, p2, q2, rfl, rfl, rfl, h2, r2⟩ := trodAll_cons r1
  obtain ⟨v3, vs3, d3, ds3, p3, q3, rfl, rfl, rfl, h3, r3⟩ := trodAll_cons r2
  obtain ⟨v4, vs4, d4, ds4, p4, q4, rfl, rfl, rfl, h4, r4⟩ := trodAll_cons r3
  obtain ⟨rfl, rfl, rfl⟩ := trodAll_nil r4
  obtain rfl : args = #[v0, v1, v2, v3, v4] := by cases args; simp_all
  obtain ⟨rfl, rfl⟩ := trodVars_none hV
  obtain ⟨a0, len0, cap0, rfl⟩ := okWide_slice Try.underlying29 (hval 0 29 v0 rfl rfl)
  have k0_ := h0
  have lt0 : ∀ x ∈ p0, x.block < W.heap.size := by obtain ⟨m, hm⟩ := k0_; exact DataW.trod_lt m _ _ _ hm
  obtain ⟨x0, ⟨A0, c0, e0, l0, g0⟩, w0⟩ := Rd.open_ (Rd.slice Try.underlying29 (by kernel_rfl) (Rd.int Try.underlying21)) h0
  have y0 : len0 * 4 ≤ 140737488351232 := sized_any hsz (j := 0) (t := 29) rfl rfl Try.underlying29 (by kernel_rfl) h0
  have e0 := slice_of e0
  injection e0 with e0 _
  injection e0 with e0a e0b e0c
  subst e0a e0b e0c
  obtain ⟨a1, len1, cap1, rfl⟩ := okWide_slice Try.underlying30 (hval 1 30 v1 rfl rfl)
  have k1_ := h1
  have lt1 : ∀ x ∈ p1, x.block < W.heap.size := by obtain ⟨m, hm⟩ := k1_; exact DataW.trod_lt m _ _ _ hm
  obtain ⟨x1, ⟨A1, c1, e1, l1, g1⟩, w1⟩ := Rd.open_ (Rd.slice Try.underlying30 (by kernel_rfl) (Rd.int Try.underlying31)) h1
  have y1 : len1 * 2 ≤ 140737488351232 := sized_any hsz (j := 1) (t := 30) rfl rfl Try.underlying30 (by kernel_rfl) h1
  have e1 := slice_of e1
  injection e1 with e1 _
  injection e1 with e1a e1b e1c
  subst e1a e1b e1c
  obtain ⟨a2, len2, cap2, rfl⟩ := okWide_slice Try.underlying30 (hval 2 30 v2 rfl rfl)
  have k2_ := h2
  have lt2 : ∀ x ∈ p2, x.block < W.heap.size := by obtain ⟨m, hm⟩ := k2_; exact DataW.trod_lt m _ _ _ hm
  obtain ⟨x2, ⟨A2, c2, e2, l2, g2⟩, w2⟩ := Rd.open_ (Rd.slice Try.underlying30 (by kernel_rfl) (Rd.int Try.underlying31)) h2
  have y2 : len2 * 2 ≤ 140737488351232 := sized_any hsz (j := 2) (t := 30) rfl rfl Try.underlying30 (by kernel_rfl) h2
  have e2 := slice_of e2
  injection e2 with e2 _
  injection e2 with e2a e2b e2c
  subst e2a e2b e2c
  obtain ⟨a3, rfl, rfl, rfl, w3⟩ := open_int Try.underlying2 (hval 3 2 v3 rfl rfl) h3
  obtain ⟨a4, rfl, rfl, rfl, w4⟩ := open_int Try.underlying2 (hval 4 2 v4 rfl rfl) h4
  clear hA0 hval0 hsz0 hsz
  obtain ⟨k, h⟩ := Pure.FtaLies x0 x1 x2 a3 a4 w0.1 y0 w0.2 w1.1 y1 w1.2 w2.1 y2 w2.2 w3 w4
  refine (palletlaw09_FtaLies.calls k _ _ x0 _ _ x1 _ _ x2 a3 a4 true W g0 l0 g1 l1 g2 l2 ⟨rfl⟩ h).mono fun e W' ⟨he, bel0⟩ => ?_
  have bel : Below W.heap.size W W' := bel0
  subst he
  exact ⟨_, rfl, _, _, _, [], _, [], hW', trodAll_mk1 (shut_bool Try.underlying4 _), (trodAll_cons_mk (Below.trod laidOut (by kernel_rfl) (of_decide_eq_true (by kernel_rfl)) k0_ bel lt0) (trodAll_cons_mk (Below.trod laidOut (by kernel_rfl) (of_decide_eq_true (by kernel_rfl)) k1_ bel lt1) (trodAll_cons_mk (Below.trod laidOut (by kernel_rfl) (of_decide_eq_true (by kernel_rfl)) k2_ bel lt2) (trodAll_cons_mk (shut_int Try.underlying2 w3) (trodAll_cons_mk (shut_int Try.underlying2 w4) trodAll_mk0))))), rfl, bel.frame _, fun h => by cases h⟩
theorem over : Rows.ftaLiesRow.holds Try.pinned (OpenSpec.ofChange Rows.ftaLiesSpec) :=
  OpenClaim.holds_of_wide 4 Try.f4 rfl rfl rfl rfl rfl rfl rfl ⟨rfl, rfl, rfl, rfl, rfl⟩ rfl rfl rfl rfl rfl (by kernel_rfl) Try.func4 (by kernel_rfl)
    (of_decide_eq_true (by kernel_rfl)) (by unfold Func.isWrapper; first | (rw [if_pos (by decide +kernel)]; kernel_rfl) | (rw [if_neg (by decide +kernel)]; exact ⟨rfl, rfl⟩))
    (fun os started H enc _ => lifted os started H enc)
theorem proved : Rows.FtaLiesSaid := over
#print axioms proved
end Go.Proofs.Yticlckhgobegnaa.ftaLies
namespace Go.Proofs.Yticlckhgobegnaa
/-- The row, under a short name, for the claim. -/
theorem ftaLies_holds : Rows.FtaLiesSaid := ftaLies.proved
end Go.Proofs.Yticlckhgobegnaa
