/- Frames written (layer 8), as printed: which, and their bytes. -/
import Derived.Test.YtogdelhofdelgaaSet08
import Derived.Test.YtogdelhofdelgaaWire4
import Derived.Test.YtogdelhofdelgaaCrcRef
import Derived.Test.YtogdelhofdelgaaPrint0
import Derived.Test.YtogdelhofdelgaaPrint2
import Derived.Test.YtogdelhofdelgaaPrint7
import Derived.Test.YtogdelhofdelgaaPrint8
set_option linter.unusedVariables false
set_option linter.unusedSimpArgs false
namespace Go.Proofs.Ytogdelhofdelgaa.Frame08
open Go Go.RowKit Go.Proofs.Ytogdelhofdelgaa.Print Go.Proofs.YtogdelhofdelgaaW.PrintWords Go.Proofs.YtogdelhofdelgaaW.PrintLast Go.Proofs.YtogdelhofdelgaaW.PrintMore Go.Proofs.Ytogdelhofdelgaa.Wire Go.Proofs.Ytogdelhofdelgaa.WireSpec Go.Proofs.Ytogdelhofdelgaa.Wire2 Go.Proofs.Ytogdelhofdelgaa.Wire3 Go.Proofs.Ytogdelhofdelgaa.Wire4 Go.Proofs.Ytogdelhofdelgaa.Set08
/-- A frame's bytes ahead of its seal, and all. -/
def fb (kd fr n g : Nat) : List Nat := [161, kd, fr] ++ vb n ++ fx 2 g
def fw (kd fr n g : Nat) : List Nat := fb kd fr n g ++ CrcFn.b3 (Crc.r24 (fb kd fr n g))
theorem fb_by {kd fr n g : Nat} (h1 : kd < 256) (h2 : fr < 256) : By (fb kd fr n g) := by
  unfold fb
  refine ((By.cons (by decide) (By.cons h1 (By.cons h2 By.nil))).append (vb_by n)).append (fx_by 2 g)
theorem fw_by {kd fr n g : Nat} (h1 : kd < 256) (h2 : fr < 256) : By (fw kd fr n g) := (fb_by h1 h2).append (CrcFn.b3_by _)
theorem fb_len (kd fr n g : Nat) : (fb kd fr n g).length = 5 + (vb n).length := by
  unfold fb
  rw [List.length_append, List.length_append, fx_len 2 g (by decide)]
  show 3 + (vb n).length + 2 = _
  omega
theorem fw_len (kd fr n g : Nat) : (fw kd fr n g).length = 8 + (vb n).length := by
  unfold fw
  rw [List.length_append, fb_len]
  show _ + 3 = _
  omega
theorem vb_app {n n' : Nat} (h : n < 18446744073709551616) (h' : n' < 18446744073709551616) {r r' : List Nat} (e : vb n ++ r = vb n' ++ r') : n = n' ∧ r = r' := by
  have a := dv_vb n h r
  have b := dv_vb n' h' r'
  rw [e, b] at a
  have e1 : n' = n := (Prod.mk.inj a).1
  subst e1
  exact ⟨rfl, List.append_cancel_left e⟩
theorem fb_inj {kd fr n g kd' fr' n' g' : Nat} (hn : n < 18446744073709551616) (hn' : n' < 18446744073709551616) (hg : g < 65536) (hg' : g' < 65536) {r r' : List Nat} (e : fb kd fr n g ++ r = fb kd' fr' n' g' ++ r') : kd = kd' ∧ fr = fr' ∧ n = n' ∧ g = g' := by
  unfold fb at e
  rw [List.append_assoc, List.append_assoc, List.append_assoc, List.append_assoc] at e
  simp only [List.cons_append, List.nil_append, List.cons.injEq, true_and] at e
  obtain ⟨e1, e2, e3⟩ := e
  obtain ⟨e4, e5⟩ := vb_app hn hn' e3
  have e6 : fx 2 g = fx 2 g' := List.append_inj_left e5 (by rw [fx_len 2 _ (by decide), fx_len 2 _ (by decide)])
  have e7 := congrArg bv e6
  rw [bv_fx 2 g (by decide) (by omega), bv_fx 2 g' (by decide) (by omega)] at e7
  exact ⟨e1, e2, e4, e7⟩
theorem seal_eq (l : List Nat) (h : By l) (hn : l.length ≤ 1048576) : crc_Seal24.f (cs l) = some (cs (l ++ CrcFn.b3 (Crc.r24 l)), 0) := by
  have := CrcFn.Seal24_sl l h (by omega)
  unfold CrcFn.sl24 at this
  rw [if_neg (by omega)] at this
  exact this
theorem Write_eq {k : Nat} (hk : 60 ≤ k) (kd fr : Int) (n g : Nat) (hn : n < 18446744073709551616) (hg : g < 65536) :
    frame_Write.f k kd fr (n : Int) (g : Int) = some (if Fok kd fr (n : Int) then (cs (fw kd.toNat fr.toNat n g), 0) else ([], 1)) := by
  unfold frame_Write.f
  rw [fcheck_eq (by omega), Option.bind_some]
  by_cases h : Fok kd fr (n : Int)
  · have h' := h
    unfold Fok at h'
    have e : [(161 : Int), kd % 256, fr % 256] = cs [161, kd.toNat, fr.toNat] := by
      show _ = [((161 : Nat) : Int), ((kd.toNat : Nat) : Int), ((fr.toNat : Nat) : Int)]
      rw [show kd % 256 = ((kd.toNat : Nat) : Int) by omega, show fr % 256 = ((fr.toNat : Nat) : Int) by omega]
      rfl
    have hv := vb_len10 hn
    have e2 : (([161, kd.toNat, fr.toNat] : List Nat) ++ vbs [n]) = [161, kd.toNat, fr.toNat] ++ vb n := by
      rw [vbs_cons]
      show _ ++ (_ ++ []) = _
      rw [List.append_nil]
    have hl : (([161, kd.toNat, fr.toNat] : List Nat) ++ vb n).length ≤ 20 := by
      rw [List.length_append]
      show 3 + _ ≤ _
      omega
    have ok : fxOk 2 g := ⟨by decide, by decide, by show g < 256 ^ 2; omega⟩
    have q := Vary_eq (k := k) [161, kd.toNat, fr.toNat] [n] (fun m hm => by rw [List.mem_singleton.1 hm]; exact hn) (by show 1 ≤ _; omega) (by show 3 ≤ _; omega) (by show 1 + 50 ≤ _; omega)
    rw [if_pos h, if_pos rfl, if_pos h, e, show [(n : Int)] = cs [n] from rfl, q, Option.bind_some, e2, u64_in (by omega) (by omega), Fixed_eq _ 2 g (by omega) (by omega) (by omega), if_pos ok, Option.bind_some, if_pos rfl]
    have hb := fb_by (n := n) (g := g) (show kd.toNat < 256 by omega) (show fr.toNat < 256 by omega)
    have := seal_eq (fb kd.toNat fr.toNat n g) hb (by rw [fb_len]; omega)
    show (crc_Seal24.f (cs (fb kd.toNat fr.toNat n g))).bind _ = _
    rw [this]
    rfl
  · rw [if_neg h, if_neg h, if_neg (by decide)]
theorem live8 : palletlaw08_live.f 100 = some true := by decide +kernel
theorem u16_of {a : Int} (h : (Lit.int .u16 a).wf = true) : ∃ m : Nat, a = m ∧ m < 65536 := by
  have : 0 ≤ a ∧ a ≤ 65535 := by simpa [Lit.wf, IntKind.min, IntKind.max, IntKind.signed, IntKind.bits] using h
  exact ⟨a.toNat, by omega, by omega⟩
theorem u64_of {a : Int} (h : (Lit.int .u64 a).wf = true) : ∃ m : Nat, a = m ∧ m < 18446744073709551616 := by
  have : 0 ≤ a ∧ a ≤ 18446744073709551615 := by simpa [Lit.wf, IntKind.min, IntKind.max, IntKind.signed, IntKind.bits] using h
  exact ⟨a.toNat, by omega, by omega⟩
theorem i64_of {a : Int} (h : (Lit.int .i64 a).wf = true) : -9223372036854775808 ≤ a ∧ a ≤ 9223372036854775807 := by
  simpa [Lit.wf, IntKind.min, IntKind.max, IntKind.signed, IntKind.bits] using h
end Go.Proofs.Ytogdelhofdelgaa.Frame08
