/- Two logs are equal just if their bytes are the same; else the longest beginning that both have is told. Conditions: none but that each number is of its kind, and each list's length a slice's. This is the row of the law DiffEqual, out of its statement over numbers and lists (Pure) and the printed walk: printed by a program of this session (row2.py). -/
import Derived.Test.YtcbjbgleflbpmaaDoorRows
import Derived.Test.YtcbjbgleflbpmaaDoorCards
import Derived.Test.YtcbjbgleflbpmaaDoorTie
import Derived.Test.YtcbjbgleflbpmaaDoorPrint22
import Derived.Test.YtcbjbgleflbpmaaDoorPureDiffEqual
import Derived.Test.YtcbjbgleflbpmaaDoorOpens
import Derived.WalkKit
import Derived.ProofKit
import Derived.OpenShut
import Derived.ShutString
import Derived.ChangeOld
import Derived.Below
import Derived.SizedLaws
import Derived.LaidLaws
import Derived.SevenTiedAt
import Derived.ChangeSame
import Derived.ChangeVars
import Derived.JoinedOf
import Derived.JoinedAt
import Derived.RowKit3
import Derived.RowKitTokens
set_option linter.unusedVariables false
set_option linter.unusedSimpArgs false
namespace Go.Proofs.YtcbjbgleflbpmaaDoor.diffEqual
open Go.ChangeShapes Go.WideShapes Go.ChangeAt Go.RowKit
open Go.ChangeMaps (open_string shut_string)
open Go.Proofs.YtcbjbgleflbpmaaDoor.Print Go.Proofs.YtcbjbgleflbpmaaDoorX Go.Proofs.YtcbjbgleflbpmaaDoor.Opens Go.Proofs.YtcbjbgleflbpmaaDoorW.PrintWords
theorem own : ownKnob Tryd.prog.godebug = none := by kernel_rfl
theorem laidOut : laidOutB Tryd.prog = true := by kernel_rfl
/-- What the sentinel says. -/
abbrev tooLarge : ByteArray := ⟨#[98, 121, 116, 101, 115, 46, 66, 117, 102, 102, 101, 114, 58, 32, 116, 111, 111, 32, 108, 97, 114, 103, 101]⟩
/-- So many blocks has the settled world. -/
noncomputable def low : Nat := (World.holding Tryd.prog default ⟨#[], #[], []⟩).heap.size
/-- The settled world with one block more, an errors.errorString; bytes.ErrTooLarge (block 0) holds a pointer to it. -/
noncomputable def laidWorld (os : Os) : World :=
  let w0 := World.holding Tryd.prog os ⟨#[.cells #[.string tooLarge] 126], #[], []⟩
  { w0 with heap := w0.heap.modify 0 fun
      | .cells _ t frozen => .cells #[.iface 110 (.pointer (some ⟨low, 0, none⟩))] t frozen
      | o => o }
theorem laidWorld_met (os : Os) (args : Array Value) : laidMet Tryd.prog [("bytes.ErrTooLarge", Rows.laid_bytes_ErrTooLarge)] ((laidWorld os).forCall (fun _ _ => 0) ⟨#[], args, []⟩).memory :=
  laidMet_of_run (ps := [.cell 0 0, .cell low 0]) 8 (by kernel_rfl) (by kernel_rfl) (by kernel_rfl)
set_option maxRecDepth 100000 in
set_option maxHeartbeats 4000000 in
theorem lifted (os : Os) (started : os.Started) (H : Type) (enc : TypeId × Value → H) :
    ReturnsInHanded {} Tryd.checked os 9 .any (fun w args => (Rows.diffEqualSpec.pre enc Tryd.prog Tryd.f9 Rows.diffEqualRow.domain false w args ∧ laidMet Tryd.prog [("bytes.ErrTooLarge", Rows.laid_bytes_ErrTooLarge)] w) ∧ sizedMet enc Tryd.prog Tryd.f9 (OpenSpec.ofChange Rows.diffEqualSpec) false w args) (Rows.diffEqualSpec.post enc Tryd.prog Tryd.f9 false true false false) := by
  refine returnsInHanded_of_change_and (C := Tryd.checked) (X := fun w _ => laidMet Tryd.prog [("bytes.ErrTooLarge", Rows.laid_bytes_ErrTooLarge)] w) (fun _ _ _ hh h => h.of_heap hh) own started (by kernel_rfl) Tryd.func9
    (ChangeSpec.witness_at (enc := enc) (C := Tryd.checked) (os := os) (X := fun w _ => laidMet Tryd.prog [("bytes.ErrTooLarge", Rows.laid_bytes_ErrTooLarge)] w) false (laidWorld os) #[.slice none 0 0, .slice none 0 0] 8 rfl (by kernel_rfl) (by kernel_rfl) (by kernel_rfl) (by kernel_rfl) (by kernel_rfl) (laidWorld_met os _)) ?_
  intro W base args ds gs before hval0 hW hcnd hsz0 _ _
  have hsz : (DataW.weightsEach Tryd.prog (Tryd.f9.params.toList ++ Rows.diffEqualSpec.plain.varTypes Tryd.prog) (ds ++ gs)).all (· ≤ reachBytes) = true := hsz0
  have hval : ∀ (j : Nat) t v, Tryd.f9.params[j]? = some t → args[j]? = some v → Value.okWide Tryd.prog W .any base t v := hval0
  have hW' := hW
  obtain ⟨p, q, hA0, hV, rfl, hfz, hnd⟩ := hW
  have hA : DataW.TrodAll enc Tryd.prog W 0 (fun _ => true) true Tryd.f9.params.toList args.toList ds p := hA0
  rw [Tryd.params9] at hA hval hsz
  obtain ⟨v0, vs0, d0, ds0, p0, q0, hargs, rfl, rfl, h0, r0⟩ := trodAll_cons hA
  obtain ⟨v1, vs1, d1, ds1, p1, q1, rfl, rfl, rfl, h1, r1⟩ := trodAll_cons r0
  obtain ⟨rfl, rfl, rfl⟩ := trodAll_nil r1
  obtain rfl : args = #[v0, v1] := by cases args; simp_all
  obtain ⟨rfl, rfl⟩ := trodVars_none hV
  obtain ⟨a0, len0, cap0, rfl⟩ := okWide_slice Tryd.underlying22 (hval 0 22 v0 rfl rfl)
  have k0_ := h0
  have lt0 : ∀ x ∈ p0, x.block < W.heap.size := by obtain ⟨m, hm⟩ := k0_; exact DataW.trod_lt m _ _ _ hm
  obtain ⟨x0, ⟨A0, c0, e0, l0, g0⟩, w0⟩ := Rd.open_ (Rd.slice Tryd.underlying22 (by kernel_rfl) rd30) h0
  have y0 : len0 * 40 ≤ 140737488351232 := sized_any hsz (j := 0) (t := 22) rfl rfl Tryd.underlying22 (by kernel_rfl) h0
  have e0 := slice_of e0
  injection e0 with e0 _
  injection e0 with e0a e0b e0c
  subst e0a e0b e0c
  obtain ⟨a1, len1, cap1, rfl⟩ := okWide_slice Tryd.underlying22 (hval 1 22 v1 rfl rfl)
  have k1_ := h1
  have lt1 : ∀ x ∈ p1, x.block < W.heap.size := by obtain ⟨m, hm⟩ := k1_; exact DataW.trod_lt m _ _ _ hm
  obtain ⟨x1, ⟨A1, c1, e1, l1, g1⟩, w1⟩ := Rd.open_ (Rd.slice Tryd.underlying22 (by kernel_rfl) rd30) h1
  have y1 : len1 * 40 ≤ 140737488351232 := sized_any hsz (j := 1) (t := 22) rfl rfl Tryd.underlying22 (by kernel_rfl) h1
  have e1 := slice_of e1
  injection e1 with e1 _
  injection e1 with e1a e1b e1c
  subst e1a e1b e1c
  clear hA0 hval0 hsz0 hsz
  obtain ⟨k, h⟩ := Pure.DiffEqual x0 x1 w0.1 y0 w0.2 w1.1 y1 w1.2
  refine (palletlaw23_DiffEqual.calls k _ _ x0 _ _ x1 true W g0 l0 g1 l1 ⟨rfl⟩ h).mono fun e W' ⟨he, bel0⟩ => ?_
  have bel : Below W.heap.size W W' := bel0
  subst he
  exact ⟨_, rfl, _, _, _, [], _, [], hW', trodAll_mk1 (shut_bool Tryd.underlying4 _), (trodAll_cons_mk (Below.trod laidOut (by kernel_rfl) (of_decide_eq_true (by kernel_rfl)) k0_ bel lt0) (trodAll_cons_mk (Below.trod laidOut (by kernel_rfl) (of_decide_eq_true (by kernel_rfl)) k1_ bel lt1) trodAll_mk0)), rfl, bel.frame _, fun h => by cases h⟩
theorem over : Rows.diffEqualRow.holds Tryd.pinned (OpenSpec.ofChange Rows.diffEqualSpec) :=
  OpenClaim.holds_of_wide 9 Tryd.f9 rfl rfl rfl rfl rfl rfl rfl ⟨rfl, rfl, rfl, rfl, rfl⟩ rfl rfl rfl rfl rfl (by kernel_rfl) Tryd.func9 (by kernel_rfl)
    (of_decide_eq_true (by kernel_rfl)) (by unfold Func.isWrapper; first | (rw [if_pos (by decide +kernel)]; kernel_rfl) | (rw [if_neg (by decide +kernel)]; exact ⟨rfl, rfl⟩))
    (fun os started H enc _ => lifted os started H enc)
theorem proved : Rows.DiffEqualSaid := over
#print axioms proved
end Go.Proofs.YtcbjbgleflbpmaaDoor.diffEqual
namespace Go.Proofs.YtcbjbgleflbpmaaDoor
set_option maxRecDepth 100000 in
/-- The card: the row, its listed variable tied to the program's text. -/
theorem diffEqual_holds : Rows.DiffEqualCardSaid :=
  Claim7.holds_tied_plain_at .later [] [.sentinel] true (true, "b4886805f2849d125dcb281d73eff66bb5bb43ce625bc835bed442e40e7c7e5b") false
    diffEqual.proved (fun _ h => by cases h) (by kernel_rfl) (fun _ h => by cases h) diffEqual_row_tie rfl ⟨rfl, rfl⟩ (by kernel_rfl) rfl
    (fun f fn hf hfn => by
      obtain rfl : f = 9 := Option.some.inj ((show Tryd.prog.funcNamed Rows.diffEqualRow.func = some 9 by kernel_rfl).symm.trans hf) |>.symm
      obtain rfl : fn = Tryd.f9 := (Option.some.inj (Tryd.func9.symm.trans hfn)).symm
      refine ⟨by kernel_rfl, fun j t ht => ?_⟩
      have hall : (Tryd.f9.params.toList.all fun t => !Tryd.prog.wantsStandIn t) = true := by kernel_rfl
      have hm : t ∈ Tryd.f9.params.toList := by
        obtain ⟨hlt, rfl⟩ := Array.getElem?_eq_some_iff.1 ht
        exact Array.mem_toList_iff.2 (Array.getElem_mem hlt)
      have := List.all_eq_true.1 hall t hm
      exact (show Tryd.prog.wantsStandIn t = false by simpa using this))
    (by kernel_rfl)
#print axioms diffEqual_holds
end Go.Proofs.YtcbjbgleflbpmaaDoor
