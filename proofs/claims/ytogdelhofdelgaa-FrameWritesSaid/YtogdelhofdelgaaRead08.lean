/- Frames written (layer 8), as printed: which, and their bytes. -/
import Derived.Test.YtogdelhofdelgaaSet08
import Derived.Test.YtogdelhofdelgaaWire
import Derived.Test.YtogdelhofdelgaaCrc
import Derived.Test.YtogdelhofdelgaaPrint0
import Derived.Test.YtogdelhofdelgaaPrint2
import Derived.Test.YtogdelhofdelgaaPrint3
import Derived.Test.YtogdelhofdelgaaPrint7
import Derived.Test.YtogdelhofdelgaaPrint8
import Derived.Test.YtogdelhofdelgaaPrint14
import Derived.Test.YtogdelhofdelgaaPrint15
import Derived.Test.YtogdelhofdelgaaPrint16
import Derived.Test.YtogdelhofdelgaaPrint18
import Derived.Test.YtogdelhofdelgaaPrint19
import Derived.Test.YtogdelhofdelgaaPrint20
set_option linter.unusedVariables false
set_option linter.unusedSimpArgs false
namespace Go.Proofs.Ytogdelhofdelgaa.Frame08
open Go Go.RowKit Go.Proofs.Ytogdelhofdelgaa.Print Go.Proofs.YtogdelhofdelgaaW.PrintWords Go.Proofs.YtogdelhofdelgaaW.PrintLast Go.Proofs.YtogdelhofdelgaaW.PrintMore Go.Proofs.Ytogdelhofdelgaa.Wire Go.Proofs.Ytogdelhofdelgaa.WireSpec Go.Proofs.Ytogdelhofdelgaa.Wire2 Go.Proofs.Ytogdelhofdelgaa.Wire3 Go.Proofs.Ytogdelhofdelgaa.Wire4 Go.Proofs.Ytogdelhofdelgaa.Set08
/-- A frame's bytes ahead of its seal, and all. -/
def fb (kd fr n g : Nat) : List Nat := [161, kd, fr] ++ vb n ++ fx 2 g
def fw (kd fr n g : Nat) : List Nat := fb kd fr n g ++ CrcFn.b3 (Crc.r24 (fb kd fr n g))
theorem fb_by {kd fr n g : Nat} (h1 : kd < 256) (h2 : fr < 256) : By (fb kd fr n g) := by
  unfold fb
  refine ((By.cons (by decide) (By.cons h1 (By.cons h2 By.nil))).append (vb_by n)).append (fx_by 2 g)
theorem fw_by {kd fr n g : Nat} (h1 : kd < 256) (h2 : fr < 256) : By (fw kd fr n g) := (fb_by h1 h2).append (CrcFn.b3_by _)
theorem fb_len (kd fr n g : Nat) : (fb kd fr n g).length = 5 + (vb n).length := by
  unfold fb
  rw [List.length_append, List.length_append, fx_len 2 g (by decide)]
  show 3 + (vb n).length + 2 = _
  omega
theorem fw_len (kd fr n g : Nat) : (fw kd fr n g).length = 8 + (vb n).length := by
  unfold fw
  rw [List.length_append, fb_len]
  show _ + 3 = _
  omega
theorem vb_app {n n' : Nat} (h : n < 18446744073709551616) (h' : n' < 18446744073709551616) {r r' : List Nat} (e : vb n ++ r = vb n' ++ r') : n = n' ∧ r = r' := by
  have a := dv_vb n h r
  have b := dv_vb n' h' r'
  rw [e, b] at a
  have e1 : n' = n := (Prod.mk.inj a).1
  subst e1
  exact ⟨rfl, List.append_cancel_left e⟩
theorem fb_inj {kd fr n g kd' fr' n' g' : Nat} (hn : n < 18446744073709551616) (hn' : n' < 18446744073709551616) (hg : g < 65536) (hg' : g' < 65536) {r r' : List Nat} (e : fb kd fr n g ++ r = fb kd' fr' n' g' ++ r') : kd = kd' ∧ fr = fr' ∧ n = n' ∧ g = g' := by
  unfold fb at e
  rw [List.append_assoc, List.append_assoc, List.append_assoc, List.append_assoc] at e
  simp only [List.cons_append, List.nil_append, List.cons.injEq, true_and] at e
  obtain ⟨e1, e2, e3⟩ := e
  obtain ⟨e4, e5⟩ := vb_app hn hn' e3
  have e6 : fx 2 g = fx 2 g' := List.append_inj_left e5 (by rw [fx_len 2 _ (by decide), fx_len 2 _ (by decide)])
  have e7 := congrArg bv e6
  rw [bv_fx 2 g (by decide) (by omega), bv_fx 2 g' (by decide) (by omega)] at e7
  exact ⟨e1, e2, e4, e7⟩
theorem seal_eq (l : List Nat) (h : By l) (hn : l.length ≤ 1048576) : crc_Seal24.f (cs l) = some (cs (l ++ CrcFn.b3 (Crc.r24 l)), 0) := by
  have := CrcFn.Seal24_sl l h (by omega)
  unfold CrcFn.sl24 at this
  rw [if_neg (by omega)] at this
  exact this
theorem Write_eq {k : Nat} (hk : 60 ≤ k) (kd fr : Int) (n g : Nat) (hn : n < 18446744073709551616) (hg : g < 65536) :
    frame_Write.f k kd fr (n : Int) (g : Int) = some (if Fok kd fr (n : Int) then (cs (fw kd.toNat fr.toNat n g), 0) else ([], 1)) := by
  unfold frame_Write.f
  rw [fcheck_eq (by omega), Option.bind_some]
  by_cases h : Fok kd fr (n : Int)
  · have h' := h
    unfold Fok at h'
    have e : [(161 : Int), kd % 256, fr % 256] = cs [161, kd.toNat, fr.toNat] := by
      show _ = [((161 : Nat) : Int), ((kd.toNat : Nat) : Int), ((fr.toNat : Nat) : Int)]
      rw [show kd % 256 = ((kd.toNat : Nat) : Int) by omega, show fr % 256 = ((fr.toNat : Nat) : Int) by omega]
      rfl
    have hv := vb_len10 hn
    have e2 : (([161, kd.toNat, fr.toNat] : List Nat) ++ vbs [n]) = [161, kd.toNat, fr.toNat] ++ vb n := by
      rw [vbs_cons]
      show _ ++ (_ ++ []) = _
      rw [List.append_nil]
    have hl : (([161, kd.toNat, fr.toNat] : List Nat) ++ vb n).length ≤ 20 := by
      rw [List.length_append]
      show 3 + _ ≤ _
      omega
    have ok : fxOk 2 g := ⟨by decide, by decide, by show g < 256 ^ 2; omega⟩
    have q := Vary_eq (k := k) [161, kd.toNat, fr.toNat] [n] (fun m hm => by rw [List.mem_singleton.1 hm]; exact hn) (by show 1 ≤ _; omega) (by show 3 ≤ _; omega) (by show 1 + 50 ≤ _; omega)
    rw [if_pos h, if_pos rfl, if_pos h, e, show [(n : Int)] = cs [n] from rfl, q, Option.bind_some, e2, u64_in (by omega) (by omega), Fixed_eq _ 2 g (by omega) (by omega) (by omega), if_pos ok, Option.bind_some, if_pos rfl]
    have hb := fb_by (n := n) (g := g) (show kd.toNat < 256 by omega) (show fr.toNat < 256 by omega)
    have := seal_eq (fb kd.toNat fr.toNat n g) hb (by rw [fb_len]; omega)
    show (crc_Seal24.f (cs (fb kd.toNat fr.toNat n g))).bind _ = _
    rw [this]
    rfl
  · rw [if_neg h, if_neg h, if_neg (by decide)]
theorem live8 : palletlaw08_live.f 100 = some true := by decide +kernel
theorem u16_of {a : Int} (h : (Lit.int .u16 a).wf = true) : ∃ m : Nat, a = m ∧ m < 65536 := by
  have : 0 ≤ a ∧ a ≤ 65535 := by simpa [Lit.wf, IntKind.min, IntKind.max, IntKind.signed, IntKind.bits] using h
  exact ⟨a.toNat, by omega, by omega⟩
theorem u64_of {a : Int} (h : (Lit.int .u64 a).wf = true) : ∃ m : Nat, a = m ∧ m < 18446744073709551616 := by
  have : 0 ≤ a ∧ a ≤ 18446744073709551615 := by simpa [Lit.wf, IntKind.min, IntKind.max, IntKind.signed, IntKind.bits] using h
  exact ⟨a.toNat, by omega, by omega⟩
theorem i64_of {a : Int} (h : (Lit.int .i64 a).wf = true) : -9223372036854775808 ≤ a ∧ a ≤ 9223372036854775807 := by
  simpa [Lit.wf, IntKind.min, IntKind.max, IntKind.signed, IntKind.bits] using h
end Go.Proofs.Ytogdelhofdelgaa.Frame08
/- Frames read (layer 8), as printed: by the code and by the document, one and the same answer. -/
namespace Go.Proofs.Ytogdelhofdelgaa.Frame08
open Go Go.RowKit Go.Proofs.Ytogdelhofdelgaa.Print Go.Proofs.YtogdelhofdelgaaW.PrintWords Go.Proofs.YtogdelhofdelgaaW.PrintLast Go.Proofs.YtogdelhofdelgaaW.PrintMore Go.Proofs.Ytogdelhofdelgaa.Wire Go.Proofs.Ytogdelhofdelgaa.WireSpec Go.Proofs.Ytogdelhofdelgaa.Wire2 Go.Proofs.Ytogdelhofdelgaa.Wire3 Go.Proofs.Ytogdelhofdelgaa.Wire4 Go.Proofs.Ytogdelhofdelgaa.Set08
theorem getD_by {l : List Nat} (h : By l) (i : Nat) : l.getD i 0 < 256 := CrcFn.getD_lt h i
theorem RTakeVary_l0 (l : List Nat) (hl : By l) (hn : l.length ≤ 1000000000000) (a : Nat) (d : Nat) : ∀ (k i n : Nat), a ≤ i → i ≤ l.length → l.length - i = d → n < 18446744073709551616 → 2 * d + 2 ≤ k → palletref02_TakeVary.l0 k (cs l) (a : Int) (n : Int) (i : Int) = some (res a (dv n (i - a) (l.drop i))) := by
  induction d with
  | zero =>
    intro k i n hai hil hd hnn hk
    obtain ⟨k, rfl⟩ : ∃ m, k = m + 1 := ⟨k - 1, by omega⟩
    rw [palletref02_TakeVary.l0, cs_len, if_neg (by omega), List.drop_of_length_le (by omega), dv_nil]
    rfl
  | succ d ih =>
    intro k i n hai hil hd hnn hk
    obtain ⟨k, rfl⟩ : ∃ m, k = (m + 1) + 1 := ⟨k - 2, by omega⟩
    have hc := getD_by hl i
    have bad : palletref02_TakeVary.j1 (k + 1) (cs l) (a : Int) (n : Int) (i : Int) true = some (0, 0, 4) := by
      rw [palletref02_TakeVary.j1, if_pos rfl]
    have good : ¬ (i - a = 0 ∧ l.getD i 0 = 128 ∨ 144115188075855872 ≤ n) → palletref02_TakeVary.j1 (k + 1) (cs l) (a : Int) (n : Int) (i : Int) false = some (res a (dv n (i - a) (l.drop i))) := by
      intro hb
      have hb2 : n < 144115188075855872 := by omega
      rw [palletref02_TakeVary.j1, if_neg (by decide), if_pos (by omega), cs_len, if_pos (by omega), cs_rd, Int.tmod_eq_emod_of_nonneg (by omega)]
      have e1 : IntKind.u64.wrap (IntKind.u64.wrap ((n : Int) * 128) + IntKind.u64.wrap (((l.getD i 0 : Nat) : Int) % 128)) = ((n * 128 + l.getD i 0 % 128 : Nat) : Int) := by
        rw [u64_in (x := (n : Int) * 128) (by omega) (by omega), u64_in (x := ((l.getD i 0 : Nat) : Int) % 128) (by omega) (by omega), u64_in (by omega) (by omega)]
        omega
      rw [e1, Set08.w64 (by omega) (by omega), drop_cons l i (by omega)]
      by_cases h : l.getD i 0 < 128
      · rw [if_pos (by omega), dv_end hb h, Nat.mod_eq_of_lt h]
        unfold res
        rw [if_pos rfl]
        simp only
        rw [show (i : Int) + 1 = (a : Int) + ((i - a + 1 : Nat) : Int) by omega]
      · rw [if_neg (by omega), dv_more hb h, show (i : Int) + 1 = ((i + 1 : Nat) : Int) by omega, ih k (i + 1) _ (by omega) (by omega) (by omega) (by omega) (by omega), show i + 1 - a = i - a + 1 by omega, show l.getD i 0 % 128 = l.getD i 0 - 128 by omega]
    have e57 : ((n : Int) / 144115188075855872 > 0) ↔ 144115188075855872 ≤ n := by omega
    rw [palletref02_TakeVary.l0, cs_len, if_pos (by omega)]
    by_cases hb : i - a = 0 ∧ l.getD i 0 = 128 ∨ 144115188075855872 ≤ n
    · have hres : some (res (a : Int) (dv n (i - a) (l.drop i))) = some (0, 0, 4) := by
        rw [drop_cons l i (by omega), dv_bad hb]
        rfl
      rw [hres]
      by_cases h1 : (i : Int) = a
      · rw [if_pos h1, if_pos (by omega), cs_rd]
        by_cases h2 : ((l.getD i 0 : Nat) : Int) = 128
        · rw [if_pos h2]
          exact bad
        · rw [if_neg h2, decide_eq_true (e57.2 (by omega))]
          exact bad
      · rw [if_neg h1, decide_eq_true (e57.2 (by omega))]
        exact bad
    · have g := good hb
      rw [← g]
      by_cases h1 : (i : Int) = a
      · rw [if_pos h1, if_pos (by omega), cs_rd, if_neg (by omega), decide_eq_false (fun q => hb (Or.inr (e57.1 q)))]
      · rw [if_neg h1, decide_eq_false (fun q => hb (Or.inr (e57.1 q)))]
theorem RTakeVary_eq {k : Nat} (l : List Nat) (hl : By l) (hn : l.length ≤ 1000000000000) (a : Nat) (ha : a ≤ l.length) (hk : 2 * l.length + 20 ≤ k) : palletref02_TakeVary.f k (cs l) (a : Int) = some (res a (dv 0 0 (l.drop a))) := by
  unfold palletref02_TakeVary.f
  have := RTakeVary_l0 l hl hn a (l.length - a) k a 0 (Nat.le_refl _) ha rfl (by decide) (by omega)
  rw [Nat.sub_self] at this
  rw [if_neg (by omega)]
  exact this
theorem RCheck_eq (kd fr sl g : Int) : palletref08_Check.f kd fr sl g = some (if Fok kd fr sl then 0 else 1) := by
  unfold palletref08_Check.f
  by_cases h1 : kd = 1
  · rw [if_pos h1]
    by_cases h3 : fr < 0
    · rw [if_pos h3, if_neg (show ¬ Fok kd fr sl by unfold Fok; omega)]
    rw [if_neg h3]
    by_cases h4 : fr > 15
    · rw [if_pos h4, if_neg (show ¬ Fok kd fr sl by unfold Fok; omega)]
    rw [if_neg h4]
    by_cases h5 : sl > 4294967296
    · rw [if_pos h5, if_neg (show ¬ Fok kd fr sl by unfold Fok; omega)]
    rw [if_neg h5, if_pos (show Fok kd fr sl by unfold Fok; omega)]
  rw [if_neg h1]
  by_cases h2 : kd = 2
  · rw [if_pos h2]
    by_cases h3 : fr < 0
    · rw [if_pos h3, if_neg (show ¬ Fok kd fr sl by unfold Fok; omega)]
    rw [if_neg h3]
    by_cases h4 : fr > 15
    · rw [if_pos h4, if_neg (show ¬ Fok kd fr sl by unfold Fok; omega)]
    rw [if_neg h4]
    by_cases h5 : sl > 4294967296
    · rw [if_pos h5, if_neg (show ¬ Fok kd fr sl by unfold Fok; omega)]
    rw [if_neg h5, if_pos (show Fok kd fr sl by unfold Fok; omega)]
  rw [if_neg h2, if_neg (show ¬ Fok kd fr sl by unfold Fok; omega)]
theorem fx2 (g : Nat) : fx 2 g = [g / 256 % 256, g % 256] := by
  show [g / 256 % 256 + 0, g % 256 + 0] = _
  rfl
theorem rseal_eq {k : Nat} (l : List Nat) (h : By l) (hn : l.length ≤ 1000) (hk : 20000 ≤ k) : palletref03_Seal24.f k (cs l) = some (cs (l ++ CrcFn.b3 (Crc.r24 l)), 0) := by
  have := CrcFn.RSeal24_eq (k := k) l h (by omega) (by omega)
  unfold CrcFn.sl24 at this
  rw [if_neg (by omega)] at this
  exact this
theorem RWrite_eq {k : Nat} (hk : 20000 ≤ k) (kd fr : Int) (n g : Nat) (hn : n < 18446744073709551616) (hg : g < 65536) :
    palletref08_Write.f k kd fr (n : Int) (g : Int) = some (if Fok kd fr (n : Int) then (cs (fw kd.toNat fr.toNat n g), 0) else ([], 1)) := by
  unfold palletref08_Write.f
  rw [RCheck_eq, Option.bind_some]
  by_cases h : Fok kd fr (n : Int)
  · have h' := h
    unfold Fok at h'
    have e : [(161 : Int), kd % 256, fr % 256] = cs [161, kd.toNat, fr.toNat] := by
      show _ = [((161 : Nat) : Int), ((kd.toNat : Nat) : Int), ((fr.toNat : Nat) : Int)]
      rw [show kd % 256 = ((kd.toNat : Nat) : Int) by omega, show fr % 256 = ((fr.toNat : Nat) : Int) by omega]
      rfl
    have hv := vb_len10 hn
    have e2 : (([161, kd.toNat, fr.toNat] : List Nat) ++ vbs [n]) = [161, kd.toNat, fr.toNat] ++ vb n := by
      rw [vbs_cons]
      show _ ++ (_ ++ []) = _
      rw [List.append_nil]
    have hl : (([161, kd.toNat, fr.toNat] : List Nat) ++ vb n).length ≤ 20 := by
      rw [List.length_append]
      show 3 + _ ≤ _
      omega
    have q := RVary_eq (k := k) [161, kd.toNat, fr.toNat] [n] (fun m hm => by rw [List.mem_singleton.1 hm]; exact hn) (by show 1 ≤ _; omega) (by show 3 ≤ _; omega) (by show 1 + _ ≤ _; omega)
    have e3 : [(IntKind.u16.wrap (Int.tdiv (g : Int) 256)) % 256, (Int.tmod (g : Int) 256) % 256] = cs (fx 2 g) := by
      rw [fx2, Int.tdiv_eq_ediv_of_nonneg (by omega), Int.tmod_eq_emod_of_nonneg (by omega), Bits16.u16_in (by omega) (by omega)]
      show _ = [((g / 256 % 256 : Nat) : Int), ((g % 256 : Nat) : Int)]
      rw [show (g : Int) / 256 % 256 = ((g / 256 % 256 : Nat) : Int) by omega, show (g : Int) % 256 % 256 = ((g % 256 : Nat) : Int) by omega]
    rw [if_pos h, if_pos rfl, if_pos h, e, show [(n : Int)] = cs [n] from rfl, q, Option.bind_some, e2, e3, Option.bind_some, cs_len, cs_len, fx2, if_pos (by show _ + 2 < _; omega), ← fx2, ← cs_append]
    have hb := fb_by (n := n) (g := g) (show kd.toNat < 256 by omega) (show fr.toNat < 256 by omega)
    show (palletref03_Seal24.f k (cs (fb kd.toNat fr.toNat n g))).bind _ = _
    rw [rseal_eq (fb kd.toNat fr.toNat n g) hb (by rw [fb_len]; omega) hk]
    rfl
  · rw [if_neg h, if_neg h, if_neg (by decide)]
/-! ### What a frame's bytes are, read -/
theorem tf1 (o : List Nat) (a : Nat) : tf o (a : Int) 1 = if a + 1 ≤ o.length then (((o.getD a 0 : Nat) : Int), ((a + 1 : Nat) : Int), 0) else (0, 0, 3) := by
  unfold tf
  rw [if_neg (by omega)]
  by_cases h : a + 1 ≤ o.length
  · rw [if_pos h, if_neg (by omega), show ((a : Int) + 1).toNat = a + 1 by omega, Int.toNat_natCast]
    have e : (o.take (a + 1)).drop a = [o.getD a 0] := by
      rw [List.drop_take, show a + 1 - a = 1 by omega, drop_cons o a (by omega)]
      rfl
    rw [e]
    show (((0 * 256 + o.getD a 0 : Nat) : Int), (a : Int) + 1, (0 : Int)) = _
    rw [Nat.zero_mul, Nat.zero_add, show (a : Int) + 1 = ((a + 1 : Nat) : Int) by omega]
  · rw [if_neg h, if_pos (by omega)]
theorem tf2 (o : List Nat) (a : Nat) : tf o (a : Int) 2 = if a + 2 ≤ o.length then (((bv ((o.take (a + 2)).drop a) : Nat) : Int), ((a + 2 : Nat) : Int), 0) else (0, 0, 3) := by
  unfold tf
  rw [if_neg (by omega)]
  by_cases h : a + 2 ≤ o.length
  · rw [if_pos h, if_neg (by omega), show ((a : Int) + 2).toNat = a + 2 by omega, Int.toNat_natCast, show (a : Int) + 2 = ((a + 2 : Nat) : Int) by omega]
  · rw [if_neg h, if_pos (by omega)]
def FOK (o : List Nat) : Prop := 3 ≤ o.length ∧ (dv 0 0 (o.drop 3)).2.2 = 0 ∧ o.length = 3 + (dv 0 0 (o.drop 3)).2.1 + 2 ∧ o.getD 0 0 = 161 ∧ Fok ((o.getD 1 0 : Nat) : Int) ((o.getD 2 0 : Nat) : Int) (((dv 0 0 (o.drop 3)).1 : Nat) : Int)
instance (o : List Nat) : Decidable (FOK o) := by unfold FOK; infer_instance
def F (o : List Nat) : Int × Int × Int × Int × Int := if FOK o then (((o.getD 1 0 : Nat) : Int), ((o.getD 2 0 : Nat) : Int), (((dv 0 0 (o.drop 3)).1 : Nat) : Int), ((bv (o.drop (3 + (dv 0 0 (o.drop 3)).2.1)) : Nat) : Int), 0) else (0, 0, 0, 0, 4)
def rdF (l : List Nat) : Int × Int × Int × Int × Int := if (CrcFn.op24 l).2 = 0 then F (l.take (l.length - 3)) else (0, 0, 0, 0, (CrcFn.op24 l).2)
theorem op_ok {l : List Nat} (h : (CrcFn.op24 l).2 = 0) : CrcFn.op24 l = (cs (l.take (l.length - 3)), 0) ∧ 3 ≤ l.length ∧ l.length ≤ 1048579 ∧ CrcFn.good24 l := by
  unfold CrcFn.op24 at h ⊢
  by_cases h1 : l.length < 3
  · rw [if_pos h1] at h
    exact absurd h (by decide)
  rw [if_neg h1] at h ⊢
  by_cases h2 : 1048579 < l.length
  · rw [if_pos h2] at h
    exact absurd h (by decide)
  rw [if_neg h2] at h ⊢
  by_cases h3 : CrcFn.good24 l
  · rw [if_pos h3]
    exact ⟨rfl, by omega, by omega, h3⟩
  · rw [if_neg h3] at h
    exact absurd h (by decide)
theorem bv2 {l : List Nat} (h : By l) (h2 : l.length = 2) : bv l < 65536 ∧ fx 2 (bv l) = l := by
  match l, h2 with
  | [x, y], _ =>
    have hx := h x (by simp)
    have hy := h y (by simp)
    have e : bv [x, y] = x * 256 + y := by
      show (0 * 256 + x) * 256 + y = _
      omega
    rw [e, fx2]
    refine ⟨by omega, ?_⟩
    rw [show (x * 256 + y) / 256 % 256 = x by omega, show (x * 256 + y) % 256 = y by omega]
/-- The three first bytes, and the rest. -/
theorem head3 {o : List Nat} (h : 3 ≤ o.length) : o = [o.getD 0 0, o.getD 1 0, o.getD 2 0] ++ o.drop 3 := by
  match o, h with
  | a :: b :: c :: r, _ => rfl
theorem FOK_fb {o : List Nat} (ho : By o) (h : FOK o) : o = fb (o.getD 1 0) (o.getD 2 0) (dv 0 0 (o.drop 3)).1 (bv (o.drop (3 + (dv 0 0 (o.drop 3)).2.1))) ∧ bv (o.drop (3 + (dv 0 0 (o.drop 3)).2.1)) < 65536 ∧ (dv 0 0 (o.drop 3)).1 < 18446744073709551616 := by
  obtain ⟨h3, hd, hl, h0, hf⟩ := h
  obtain ⟨b1, b2, b3, b4⟩ := dv_back (o.drop 3) (ho.drop 3) (dv 0 0 (o.drop 3)).1 (dv 0 0 (o.drop 3)).2.1 (Prod.ext rfl (Prod.ext rfl hd))
  have hdl : (o.drop (3 + (dv 0 0 (o.drop 3)).2.1)).length = 2 := by rw [List.length_drop]; omega
  obtain ⟨g1, g2⟩ := bv2 (ho.drop _) hdl
  refine ⟨?_, g1, b4⟩
  unfold fb
  rw [g2, ← b1, ← h0, List.append_assoc, ← List.drop_drop, List.take_append_drop]
  exact head3 h3
theorem fb_F {kd fr n g : Nat} (hk : Fok (kd : Int) (fr : Int) (n : Int)) (hn : n < 18446744073709551616) (hg : g < 65536) : F (fb kd fr n g) = ((kd : Int), (fr : Int), (n : Int), (g : Int), 0) := by
  have e3 : (fb kd fr n g).drop 3 = vb n ++ fx 2 g := rfl
  have ed := dv_vb n hn (fx 2 g)
  have hl := fb_len kd fr n g
  have ok : FOK (fb kd fr n g) := by
    unfold FOK
    rw [e3, ed]
    exact ⟨by omega, rfl, by show _ = 3 + (vb n).length + 2; omega, rfl, hk⟩
  unfold F
  rw [if_pos ok, e3, ed]
  have e4 : (fb kd fr n g).drop (3 + (vb n).length) = fx 2 g := by
    rw [← List.drop_drop, e3, List.drop_left]
  show (((kd : Nat) : Int), ((fr : Nat) : Int), (n : Int), ((bv ((fb kd fr n g).drop (3 + (vb n).length)) : Nat) : Int), (0 : Int)) = _
  rw [e4, bv_fx 2 g (by decide) (by omega)]
theorem fw_op {kd fr n g : Nat} (h1 : kd < 256) (h2 : fr < 256) (hn : n < 18446744073709551616) : CrcFn.op24 (fw kd fr n g) = (cs (fb kd fr n g), 0) := by
  have hb := fb_by (n := n) (g := g) h1 h2
  have hv := vb_len10 hn
  have hl := fb_len kd fr n g
  have hw := fw_len kd fr n g
  unfold CrcFn.op24
  have gd : CrcFn.good24 (fw kd fr n g) := CrcFn.sealed24 hb
  rw [if_neg (by omega), if_neg (by omega), if_pos gd]
  have e : (fw kd fr n g).take ((fw kd fr n g).length - 3) = fb kd fr n g := by
    rw [hw, show 8 + (vb n).length - 3 = (fb kd fr n g).length by omega]
    unfold fw
    exact List.take_left
  rw [e]
  rfl
theorem fw_rdF {kd fr n g : Nat} (hk : Fok (kd : Int) (fr : Int) (n : Int)) (hn : n < 18446744073709551616) (hg : g < 65536) : rdF (fw kd fr n g) = ((kd : Int), (fr : Int), (n : Int), (g : Int), 0) := by
  have hk' := hk
  unfold Fok at hk'
  have e := fw_op (kd := kd) (fr := fr) (n := n) (g := g) (by omega) (by omega) hn
  unfold rdF
  rw [e, if_pos rfl]
  have hl := fb_len kd fr n g
  have hw := fw_len kd fr n g
  have e2 : (fw kd fr n g).take ((fw kd fr n g).length - 3) = fb kd fr n g := by
    rw [hw, show 8 + (vb n).length - 3 = (fb kd fr n g).length by omega]
    unfold fw
    exact List.take_left
  rw [e2]
  exact fb_F hk hn hg
theorem rdF_ok {l : List Nat} (hl : By l) (h : (rdF l).2.2.2.2 = 0) : ∃ kd fr n g : Nat, rdF l = ((kd : Int), (fr : Int), (n : Int), (g : Int), 0) ∧ Fok (kd : Int) (fr : Int) (n : Int) ∧ n < 18446744073709551616 ∧ g < 65536 ∧ l = fw kd fr n g := by
  unfold rdF at h ⊢
  by_cases h0 : (CrcFn.op24 l).2 = 0
  · obtain ⟨e, h3, h4, gd⟩ := op_ok h0
    rw [if_pos h0] at h ⊢
    have ho : By (l.take (l.length - 3)) := hl.take _
    by_cases hf : FOK (l.take (l.length - 3))
    · obtain ⟨q1, q2, q3⟩ := FOK_fb ho hf
      refine ⟨_, _, _, _, ?_, hf.2.2.2.2, q3, q2, ?_⟩
      · unfold F
        rw [if_pos hf]
      · unfold fw
        rw [← q1]
        exact CrcFn.good24_take h3 gd
    · unfold F at h
      rw [if_neg hf] at h
      exact absurd h (by decide)
  · rw [if_neg h0] at h
    exact absurd h h0
end Go.Proofs.Ytogdelhofdelgaa.Frame08
/- Frames read (layer 8): the code's walk and the document's, told by one function. -/
namespace Go.Proofs.Ytogdelhofdelgaa.Frame08
open Go Go.RowKit Go.Proofs.Ytogdelhofdelgaa.Print Go.Proofs.YtogdelhofdelgaaW.PrintWords Go.Proofs.YtogdelhofdelgaaW.PrintLast Go.Proofs.YtogdelhofdelgaaW.PrintMore Go.Proofs.Ytogdelhofdelgaa.Wire Go.Proofs.Ytogdelhofdelgaa.WireSpec Go.Proofs.Ytogdelhofdelgaa.Wire2 Go.Proofs.Ytogdelhofdelgaa.Wire3 Go.Proofs.Ytogdelhofdelgaa.Wire4 Go.Proofs.Ytogdelhofdelgaa.Set08
theorem inner_ok {k : Nat} (o : List Nat) (ho : By o) (hn : o.length ≤ 1000000000000) (p w : Int) (hk : 20 ≤ k) : frame_Read_1.f k (cs o) 0 p w = some (tf o p w) := by
  unfold frame_Read_1.f
  rw [if_pos rfl, TakeFixed_eq o ho hn p w hk]
theorem inner_no {k : Nat} (o : List Int) (e p w : Int) (h : e ≠ 0) : frame_Read_1.f k o e p w = some (0, p, e) := by
  unfold frame_Read_1.f
  rw [if_neg h]
theorem getD_wrap (o : List Nat) (ho : By o) (i : Nat) : wrap64 ((o.getD i 0 : Nat) : Int) = ((o.getD i 0 : Nat) : Int) := by
  have := getD_by ho i
  exact Set08.w64 (by omega) (by omega)
/-- What the code does behind the seal. -/
theorem code_F {k : Nat} (o : List Nat) (ho : By o) (hn : o.length ≤ 1000000) (hk : 2 * o.length + 100 ≤ k) : ((frame_Read_1.f k (cs o) 0 0 1).bind fun h => (frame_Read_1.f k (cs o) h.2.2 h.2.1 1).bind fun a => (frame_Read_1.f k (cs o) a.2.2 a.2.1 1).bind fun b => (if b.2.2 = 0 then wire_TakeVary.f k (cs o) b.2.1 else some (0, b.2.1, b.2.2)).bind fun v => (frame_Read_1.f k (cs o) v.2.2 v.2.1 2).bind fun m => if m.2.2 = 0 ∧ h.1 = 161 ∧ m.2.1 = ((cs o).length : Int) then ((frame_Check.f k (wrap64 a.1) (wrap64 b.1) v.1 (IntKind.u16.wrap m.1)).bind fun c => some (if c = 0 then (wrap64 a.1, wrap64 b.1, v.1, IntKind.u16.wrap m.1, 0) else (0, 0, 0, 0, 4))) else some (0, 0, 0, 0, 4)) = some (F o) := by
  have t0 := tf1 o 0
  have t1 := tf1 o 1
  have t2 := tf1 o 2
  have nf : ¬ FOK o → some (F o) = some (0, 0, 0, 0, 4) := by
    intro h
    unfold F
    rw [if_neg h]
  have bad : ∀ (h0 x y z p e : Int), e ≠ 0 → ¬ FOK o → ((frame_Read_1.f k (cs o) e p 2).bind fun m => if m.2.2 = 0 ∧ h0 = 161 ∧ m.2.1 = ((cs o).length : Int) then ((frame_Check.f k x y z (IntKind.u16.wrap m.1)).bind fun c => some (if c = 0 then (x, y, z, IntKind.u16.wrap m.1, 0) else (0, 0, 0, 0, 4))) else some (0, 0, 0, 0, 4)) = some (F o) := by
    intro h0 x y z p e he hf
    rw [inner_no _ _ _ _ he, Option.bind_some, if_neg (fun q => he q.1), nf hf]
  by_cases h1 : 1 ≤ o.length
  case neg =>
    have hf : ¬ FOK o := fun q => by have := q.1; omega
    rw [if_neg (by omega)] at t0
    rw [inner_ok o ho (by omega) 0 1 (by omega), show tf o 0 1 = (0, 0, 3) from t0, Option.bind_some, inner_no _ _ _ _ (show (3 : Int) ≠ 0 by decide), Option.bind_some, inner_no _ _ _ _ (show (3 : Int) ≠ 0 by decide), Option.bind_some, if_neg (show ¬ (3 : Int) = 0 by decide), Option.bind_some]
    exact bad _ _ _ _ _ 3 (by decide) hf
  rw [if_pos (by omega)] at t0
  rw [inner_ok o ho (by omega) 0 1 (by omega), show tf o 0 1 = _ from t0, Option.bind_some]
  by_cases h2 : 2 ≤ o.length
  case neg =>
    have hf : ¬ FOK o := fun q => by have := q.1; omega
    rw [if_neg (by omega)] at t1
    show ((frame_Read_1.f k (cs o) 0 1 1).bind _) = _
    rw [inner_ok o ho (by omega) 1 1 (by omega), show tf o 1 1 = (0, 0, 3) from t1, Option.bind_some, inner_no _ _ _ _ (show (3 : Int) ≠ 0 by decide), Option.bind_some, if_neg (show ¬ (3 : Int) = 0 by decide), Option.bind_some]
    exact bad _ _ _ _ _ 3 (by decide) hf
  rw [if_pos (by omega)] at t1
  show ((frame_Read_1.f k (cs o) 0 1 1).bind _) = _
  rw [inner_ok o ho (by omega) 1 1 (by omega), show tf o 1 1 = _ from t1, Option.bind_some]
  by_cases h3 : 3 ≤ o.length
  case neg =>
    have hf : ¬ FOK o := fun q => by have := q.1; omega
    rw [if_neg (by omega)] at t2
    show ((frame_Read_1.f k (cs o) 0 2 1).bind _) = _
    rw [inner_ok o ho (by omega) 2 1 (by omega), show tf o 2 1 = (0, 0, 3) from t2, Option.bind_some, if_neg (show ¬ (3 : Int) = 0 by decide), Option.bind_some]
    exact bad _ _ _ _ _ 3 (by decide) hf
  rw [if_pos (by omega)] at t2
  show ((frame_Read_1.f k (cs o) 0 2 1).bind _) = _
  rw [inner_ok o ho (by omega) 2 1 (by omega), show tf o 2 1 = _ from t2, Option.bind_some, if_pos rfl]
  have tv := TakeVary_eq (k := k) o ho (by omega) 3 (by omega)
  rw [show wire_TakeVary.f k (cs o) ((((o.getD 2 0 : Nat) : Int), ((2 + 1 : Nat) : Int), (0 : Int)).2.1) = _ from tv, Option.bind_some]
  unfold res
  by_cases hd : (dv 0 0 (o.drop 3)).2.2 = 0
  case neg =>
    have hf : ¬ FOK o := fun q => hd q.2.1
    rw [if_neg hd]
    exact bad _ _ _ _ _ _ (by show ((dv 0 0 (o.drop 3)).2.2 : Int) ≠ 0; omega) hf
  rw [if_pos hd]
  have ew : wrap64 ((o.getD 1 0 : Nat) : Int) = _ := getD_wrap o ho 1
  have ew2 : wrap64 ((o.getD 2 0 : Nat) : Int) = _ := getD_wrap o ho 2
  show ((frame_Read_1.f k (cs o) 0 ((3 : Nat) + ((dv 0 0 (o.drop 3)).2.1 : Int)) 2).bind fun m => if m.2.2 = 0 ∧ ((o.getD 0 0 : Nat) : Int) = 161 ∧ m.2.1 = ((cs o).length : Int) then ((frame_Check.f k (wrap64 ((o.getD 1 0 : Nat) : Int)) (wrap64 ((o.getD 2 0 : Nat) : Int)) (((dv 0 0 (o.drop 3)).1 : Nat) : Int) (IntKind.u16.wrap m.1)).bind fun c => some (if c = 0 then (wrap64 ((o.getD 1 0 : Nat) : Int), wrap64 ((o.getD 2 0 : Nat) : Int), (((dv 0 0 (o.drop 3)).1 : Nat) : Int), IntKind.u16.wrap m.1, 0) else (0, 0, 0, 0, 4))) else some (0, 0, 0, 0, 4)) = some (F o)
  rw [ew, ew2, show (((3 : Nat) : Int) + ((dv 0 0 (o.drop 3)).2.1 : Int)) = ((3 + (dv 0 0 (o.drop 3)).2.1 : Nat) : Int) by omega, inner_ok o ho (by omega) _ 2 (by omega), tf2, Option.bind_some, cs_len]
  by_cases h5 : 3 + (dv 0 0 (o.drop 3)).2.1 + 2 ≤ o.length
  case neg =>
    have hf : ¬ FOK o := fun q => by have := q.2.2.1; omega
    rw [if_neg h5, if_neg (fun q => absurd q.1 (by decide)), nf hf]
  rw [if_pos h5]
  by_cases h6 : o.length = 3 + (dv 0 0 (o.drop 3)).2.1 + 2
  case neg =>
    have hf : ¬ FOK o := fun q => h6 q.2.2.1
    rw [if_neg (fun q => h6 (by have : ((3 + (dv 0 0 (o.drop 3)).2.1 + 2 : Nat) : Int) = (o.length : Int) := q.2.2; omega)), nf hf]
  by_cases h7 : o.getD 0 0 = 161
  case neg =>
    have hf : ¬ FOK o := fun q => h7 q.2.2.2.1
    rw [if_neg (fun q => h7 (by have := q.2.1; omega)), nf hf]
  have edrop : (o.take (3 + (dv 0 0 (o.drop 3)).2.1 + 2)).drop (3 + (dv 0 0 (o.drop 3)).2.1) = o.drop (3 + (dv 0 0 (o.drop 3)).2.1) := by
    rw [← h6, List.take_length]
  have hdl : (o.drop (3 + (dv 0 0 (o.drop 3)).2.1)).length = 2 := by rw [List.length_drop]; omega
  obtain ⟨g1, g2⟩ := bv2 (ho.drop (3 + (dv 0 0 (o.drop 3)).2.1)) hdl
  rw [edrop, if_pos ⟨rfl, by omega, by show ((3 + (dv 0 0 (o.drop 3)).2.1 + 2 : Nat) : Int) = _; omega⟩]
  simp only []
  rw [Bits16.u16_in (by omega) (by omega), fcheck_eq (by omega), Option.bind_some]
  by_cases h8 : Fok ((o.getD 1 0 : Nat) : Int) ((o.getD 2 0 : Nat) : Int) (((dv 0 0 (o.drop 3)).1 : Nat) : Int)
  · have hf : FOK o := ⟨h3, hd, h6, h7, h8⟩
    unfold F
    rw [if_pos h8, if_pos rfl, if_pos hf]
  · have hf : ¬ FOK o := fun q => h8 q.2.2.2.2
    rw [if_neg h8, if_neg (by decide), nf hf]
theorem Read_eq {k : Nat} (l : List Nat) (hl : By l) (hn : l.length ≤ 10000) (hk : 30000 ≤ k) : frame_Read.f k (cs l) = some (rdF l) := by
  unfold frame_Read.f rdF
  rw [show crc_Open24.f (cs l) = some (CrcFn.op24 l) from CrcFn.Open24_eq l hl (by omega), Option.bind_some]
  by_cases h0 : (CrcFn.op24 l).2 = 0
  · obtain ⟨e, h3, h4, gd⟩ := op_ok h0
    rw [if_pos h0, if_pos h0, e]
    exact code_F (l.take (l.length - 3)) (hl.take _) (by rw [List.length_take]; omega) (by rw [List.length_take]; omega)
  · rw [if_neg h0, if_neg h0]
end Go.Proofs.Ytogdelhofdelgaa.Frame08
