/- Frames read (layer 8): the document's reading, told by the same function. -/
import Derived.Test.YtogdelhofdelgaaRead08
import Derived.Test.YtogdelhofdelgaaPrint0
import Derived.Test.YtogdelhofdelgaaPrint20
import Derived.Test.YtogdelhofdelgaaPrint21
set_option linter.unusedVariables false
set_option linter.unusedSimpArgs false
namespace Go.Proofs.Ytogdelhofdelgaa.Frame08
open Go Go.RowKit Go.Proofs.Ytogdelhofdelgaa.Print Go.Proofs.YtogdelhofdelgaaW.PrintWords Go.Proofs.YtogdelhofdelgaaW.PrintLast Go.Proofs.YtogdelhofdelgaaW.PrintMore Go.Proofs.Ytogdelhofdelgaa.Wire Go.Proofs.Ytogdelhofdelgaa.WireSpec Go.Proofs.Ytogdelhofdelgaa.Wire2 Go.Proofs.Ytogdelhofdelgaa.Wire3 Go.Proofs.Ytogdelhofdelgaa.Wire4 Go.Proofs.Ytogdelhofdelgaa.Set08
theorem RRead_eq {k : Nat} (l : List Nat) (hl : By l) (hn : l.length ≤ 10000) (hk : 20000000 ≤ k) : palletref08_Read.f k (cs l) = some (rdF l) := by
  obtain ⟨k, rfl⟩ : ∃ m, k = m + 1 := ⟨k - 1, by omega⟩
  unfold palletref08_Read.f rdF
  rw [show palletref03_Open24.f (k + 1) (cs l) = some (CrcFn.op24 l) from CrcFn.ROpen24_eq l hl (by omega) (by omega), Option.bind_some]
  by_cases h0 : (CrcFn.op24 l).2 = 0
  case neg => rw [if_neg h0, if_neg h0]
  obtain ⟨e, h3, h4, gd⟩ := op_ok h0
  have hgd := CrcFn.good24_take h3 gd
  rw [if_pos h0, if_pos h0, e]
  have hol : (l.take (l.length - 3)).length ≤ 10000 := by rw [List.length_take]; omega
  have ho : By (l.take (l.length - 3)) := hl.take _
  generalize l.take (l.length - 3) = o at *
  show (if ((cs o).length : Int) < 3 then some (0, 0, 0, 0, 4) else ((palletref02_TakeVary.f (k + 1) (cs o) 3).bind fun bt319 => (if bt319.2.2 = 0 then (palletref08_Read.j0 (k + 1) (cs l) (cs o) bt319.1 bt319.2.1 (((cs o).length : Int) != (wrap64 (bt319.2.1 + 2)))) else (palletref08_Read.j0 (k + 1) (cs l) (cs o) bt319.1 bt319.2.1 true)))) = some (F o)
  have nf : ¬ FOK o → some (F o) = some (0, 0, 0, 0, 4) := by
    intro h
    unfold F
    rw [if_neg h]
  have jt : ∀ a b, palletref08_Read.j0 (k + 1) (cs l) (cs o) a b true = some (0, 0, 0, 0, 4) := by
    intro a b
    rw [palletref08_Read.j0, if_pos rfl]
  rw [cs_len]
  by_cases h5 : 3 ≤ o.length
  case neg =>
    have hf : ¬ FOK o := fun q => by have := q.1; omega
    rw [if_pos (by omega), nf hf]
  rw [if_neg (by omega), show palletref02_TakeVary.f (k + 1) (cs o) 3 = _ from RTakeVary_eq (k := k + 1) o ho (by omega) 3 h5 (by omega), Option.bind_some]
  unfold res
  by_cases hd : (dv 0 0 (o.drop 3)).2.2 = 0
  case neg =>
    have hf : ¬ FOK o := fun q => hd q.2.1
    rw [if_neg hd, if_neg (by show ¬ ((dv 0 0 (o.drop 3)).2.2 : Int) = 0; omega), jt, nf hf]
  rw [if_pos hd, if_pos rfl]
  obtain ⟨b1, b2, b3, b4⟩ := dv_back (o.drop 3) (ho.drop 3) (dv 0 0 (o.drop 3)).1 (dv 0 0 (o.drop 3)).2.1 (Prod.ext rfl (Prod.ext rfl hd))
  rw [List.length_drop] at b3
  show palletref08_Read.j0 (k + 1) (cs l) (cs o) (((dv 0 0 (o.drop 3)).1 : Nat) : Int) (((3 : Nat) : Int) + ((dv 0 0 (o.drop 3)).2.1 : Int)) ((o.length : Int) != wrap64 (((3 : Nat) : Int) + ((dv 0 0 (o.drop 3)).2.1 : Int) + 2)) = _
  rw [Set08.w64 (by omega) (by omega)]
  by_cases h6 : o.length = 3 + (dv 0 0 (o.drop 3)).2.1 + 2
  case neg =>
    have hf : ¬ FOK o := fun q => h6 q.2.2.1
    rw [show ((o.length : Int) != ((3 : Nat) : Int) + ((dv 0 0 (o.drop 3)).2.1 : Int) + 2) = true from bne_iff_ne.mpr (by omega), jt, nf hf]
  rw [show ((o.length : Int) != ((3 : Nat) : Int) + ((dv 0 0 (o.drop 3)).2.1 : Int) + 2) = false from bne_eq_false_iff_eq.mpr (by omega)]
  have hdl : (o.drop (3 + (dv 0 0 (o.drop 3)).2.1)).length = 2 := by rw [List.length_drop]; omega
  obtain ⟨g1, g2⟩ := bv2 (ho.drop (3 + (dv 0 0 (o.drop 3)).2.1)) hdl
  have q0 := getD_by ho (3 + (dv 0 0 (o.drop 3)).2.1)
  have q1 := getD_by ho (3 + (dv 0 0 (o.drop 3)).2.1 + 1)
  have egv' : ∀ a, a + 2 = o.length → bv (o.drop a) = o.getD a 0 * 256 + o.getD (a + 1) 0 := by
    intro a ha
    rw [drop_cons o a (by omega), drop_cons o (a + 1) (by omega), List.drop_of_length_le (by omega)]
    show (0 * 256 + o.getD a 0) * 256 + o.getD (a + 1) 0 = _
    omega
  have egv := egv' (3 + (dv 0 0 (o.drop 3)).2.1) (by omega)
  rw [palletref08_Read.j0, if_neg (by decide), cs_len, if_pos (by omega), if_pos (by omega), if_pos (by omega), if_pos (by omega), Set08.w64 (x := ((3 : Nat) : Int) + ((dv 0 0 (o.drop 3)).2.1 : Int) + 1) (by omega) (by omega), if_pos (by omega), if_pos (by omega), show (((3 : Nat) : Int) + ((dv 0 0 (o.drop 3)).2.1 : Int)) = ((3 + (dv 0 0 (o.drop 3)).2.1 : Nat) : Int) by omega, show (((3 + (dv 0 0 (o.drop 3)).2.1 : Nat) : Int) + 1) = ((3 + (dv 0 0 (o.drop 3)).2.1 + 1 : Nat) : Int) by omega, cs_rd, cs_rd, show rd (cs o) 1 = ((o.getD 1 0 : Nat) : Int) from cs_rd o 1, show rd (cs o) 2 = ((o.getD 2 0 : Nat) : Int) from cs_rd o 2, getD_wrap o ho 1, getD_wrap o ho 2]
  have eg : IntKind.u16.wrap (IntKind.u16.wrap (IntKind.u16.wrap ((o.getD (3 + (dv 0 0 (o.drop 3)).2.1) 0 : Nat) : Int) * 256) + IntKind.u16.wrap ((o.getD (3 + (dv 0 0 (o.drop 3)).2.1 + 1) 0 : Nat) : Int)) = ((bv (o.drop (3 + (dv 0 0 (o.drop 3)).2.1)) : Nat) : Int) := by
    rw [Bits16.u16_in (x := ((o.getD (3 + (dv 0 0 (o.drop 3)).2.1) 0 : Nat) : Int)) (by omega) (by omega), Bits16.u16_in (x := ((o.getD (3 + (dv 0 0 (o.drop 3)).2.1) 0 : Nat) : Int) * 256) (by omega) (by omega), Bits16.u16_in (x := ((o.getD (3 + (dv 0 0 (o.drop 3)).2.1 + 1) 0 : Nat) : Int)) (by omega) (by omega), Bits16.u16_in (by omega) (by omega), egv]
    omega
  rw [eg, RWrite_eq (by omega) _ _ _ _ b4 g1, Option.bind_some]
  by_cases h8 : Fok ((o.getD 1 0 : Nat) : Int) ((o.getD 2 0 : Nat) : Int) (((dv 0 0 (o.drop 3)).1 : Nat) : Int)
  case neg =>
    have hf : ¬ FOK o := fun q => h8 q.2.2.2.2
    rw [if_neg h8, if_neg (by decide), nf hf]
  rw [if_pos h8, if_pos rfl, Int.toNat_natCast, Int.toNat_natCast]
  have w1 := fw_by (n := (dv 0 0 (o.drop 3)).1) (g := bv (o.drop (3 + (dv 0 0 (o.drop 3)).2.1))) (getD_by ho 1) (getD_by ho 2)
  rw [same_eq _ _ w1 hl, Option.bind_some]
  by_cases h7 : o.getD 0 0 = 161
  · have hf : FOK o := ⟨h5, hd, h6, h7, h8⟩
    have ef := (FOK_fb ho hf).1
    have : fw (o.getD 1 0) (o.getD 2 0) (dv 0 0 (o.drop 3)).1 (bv (o.drop (3 + (dv 0 0 (o.drop 3)).2.1))) = l := by
      unfold fw
      rw [← ef]
      exact hgd.symm
    unfold F
    rw [decide_eq_true this, if_pos rfl, if_pos hf]
  · have hf : ¬ FOK o := fun q => h7 q.2.2.2.1
    have : ¬ fw (o.getD 1 0) (o.getD 2 0) (dv 0 0 (o.drop 3)).1 (bv (o.drop (3 + (dv 0 0 (o.drop 3)).2.1))) = l := by
      intro q
      rw [hgd] at q
      have := congrArg (fun m => m.getD 0 0) q
      apply h7
      rw [head3 h5] at this
      exact this.symm
    rw [decide_eq_false this, if_neg (by decide), nf hf]
end Go.Proofs.Ytogdelhofdelgaa.Frame08
