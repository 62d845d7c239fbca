/- What is written is read as it was; what is read is written as it stood there; with some turned of 24 bits beside one another it is no frame. Conditions: none but the kinds of the values. -/
import Derived.Test.YtogdelhofdelgaaRead08
import Derived.Test.YtogdelhofdelgaaPrint0
import Derived.Test.YtogdelhofdelgaaPrint3
import Derived.Test.YtogdelhofdelgaaPrint7
import Derived.Test.YtogdelhofdelgaaPrint8
import Derived.Test.YtogdelhofdelgaaPrint19
import Derived.Test.YtogdelhofdelgaaPrint23
import Derived.Test.YtogdelhofdelgaaPrint24
set_option linter.unusedVariables false
set_option linter.unusedSimpArgs false
namespace Go.Proofs.Ytogdelhofdelgaa.Pure
open Go Go.RowKit Go.Proofs.Ytogdelhofdelgaa.Print Go.Proofs.YtogdelhofdelgaaW.PrintWords Go.Proofs.YtogdelhofdelgaaW.PrintLast Go.Proofs.YtogdelhofdelgaaW.PrintMore Go.Proofs.Ytogdelhofdelgaa.Wire Go.Proofs.Ytogdelhofdelgaa.WireSpec Go.Proofs.Ytogdelhofdelgaa.Wire2 Go.Proofs.Ytogdelhofdelgaa.Wire3 Go.Proofs.Ytogdelhofdelgaa.Wire4 Go.Proofs.Ytogdelhofdelgaa.Set08 Go.Proofs.Ytogdelhofdelgaa.Frame08
theorem live8' : palletlaw08_live.f 100000 = some true := by decide +kernel
def mt (sel : Nat → Bool) : Nat → Bool
  | 0 => false
  | j + 1 => mt sel j || sel j
theorem mt_iff (sel : Nat → Bool) (J : Nat) : mt sel J = false ↔ ∀ i, i < J → sel i = false := by
  induction J with
  | zero => exact ⟨fun _ i hi => by omega, fun _ => rfl⟩
  | succ J ih =>
    rw [mt, Bool.or_eq_false_iff, ih]
    constructor
    · rintro ⟨h, h2⟩ i hi
      by_cases e : i = J
      · rw [e]; exact h2
      · exact h i (by omega)
    · intro h
      exact ⟨fun i hi => h i (by omega), h J (by omega)⟩
theorem bit1_of {P i : Nat} (hP : P < 2 ^ 32) (hi : i < 24) : (Go.bits .and .u32 (shr .u32 (P : Int) (i : Int)) 1 = 1) ↔ P.testBit i = true := by
  have e : shr .u32 (P : Int) (i : Int) = ((P >>> i : Nat) : Int) := by
    unfold shr
    rw [Int.toNat_natCast, Nat.min_eq_left (show i ≤ IntKind.u32.bits by show i ≤ 32; omega), Nat.shiftRight_eq_div_pow]
    simp
  have hl : P >>> i < 2 ^ 32 := by
    rw [Nat.shiftRight_eq_div_pow]
    exact Nat.lt_of_le_of_lt (Nat.div_le_self _ _) hP
  rw [e, show (1 : Int) = ((1 : Nat) : Int) from rfl, CrcFn.and32 hl (by decide), Nat.and_one_is_mod, Nat.testBit_eq_decide_div_mod_eq, decide_eq_true_iff, Nat.shiftRight_eq_div_pow]
  omega
theorem err24 {l : List Nat} (h3 : 3 ≤ l.length) (h : l.length ≤ 1048579) : (CrcFn.op24 l).2 = if CrcFn.good24 l then 0 else 5 := by
  unfold CrcFn.op24
  rw [if_neg (by omega), if_neg (by omega)]
  split <;> rfl
/-- The error that a reading ends with is that of the sum just if the sum is wrong. -/
theorem rdF_err {l : List Nat} (h3 : 3 ≤ l.length) (h : l.length ≤ 1048579) : ((rdF l).2.2.2.2 == 5) = !decide (CrcFn.good24 l) := by
  have e := err24 h3 h
  unfold rdF
  by_cases g : CrcFn.good24 l
  · rw [if_pos g] at e
    rw [if_pos e, decide_eq_true g]
    unfold F
    split <;> rfl
  · rw [if_neg g] at e
    rw [if_neg (by rw [e]; decide), decide_eq_false g, e]
    rfl
theorem fb_l0 (p P : Nat) (hP : P < 2 ^ 32) (s : List Nat) (hs : By s) (hl : 3 ≤ s.length) (hl2 : s.length ≤ 5000) (hp : p < 8 * s.length) (gs : Crc.r24 s = 0) (sel : Nat → Bool) (hsel : sel = fun i => P.testBit i && decide (p + i < 8 * s.length)) (d : Nat) :
    ∀ (k j : Nat), j ≤ 24 → 24 - j = d → 2 * d + 40000 ≤ k → palletlaw08_FrameBack.l0 k (p : Int) (P : Int) true (cs (Crc.tn sel p s j)) (8 * (s.length : Int)) (mt sel j) (j : Int) = some true := by
  have hh : ∀ i, i < 24 → sel i = true → p + i < 8 * s.length := by
    intro i _ h
    rw [hsel, Bool.and_eq_true, decide_eq_true_eq] at h
    exact h.2
  induction d with
  | zero =>
    intro k j hj hd hk
    obtain ⟨k, rfl⟩ : ∃ m, k = m + 1 := ⟨k - 1, by omega⟩
    obtain rfl : j = 24 := by omega
    have b1 : By (Crc.tn sel p s 24) := Crc.tn_by sel p hs 24
    have l1 := Crc.tn_len sel p s 24
    rw [palletlaw08_FrameBack.l0, if_neg (by omega), Read_eq _ b1 (by omega) (by omega), Option.bind_some, if_pos rfl, rdF_err (by omega) (by omega)]
    have i1 : CrcFn.good24 (Crc.tn sel p s 24) ↔ mt sel 24 = false := by
      rw [CrcFn.good24_iff b1 (by omega), mt_iff, ← Crc.shows24 sel p 24 (Nat.le_refl _) hp hh, gs]
    cases e : mt sel 24 with
    | false => rw [decide_eq_true (i1.2 e)]; rfl
    | true => rw [decide_eq_false (fun c => by rw [i1.1 c] at e; cases e)]; rfl
  | succ d ih =>
    intro k j hj hd hk
    obtain ⟨k, rfl⟩ : ∃ m, k = (m + 1) + 1 := ⟨k - 2, by omega⟩
    have b1 : By (Crc.tn sel p s j) := Crc.tn_by sel p hs j
    have l1 := Crc.tn_len sel p s j
    rw [palletlaw08_FrameBack.l0, if_pos (by omega), if_pos (by omega), Set08.w64 (x := (p : Int) + (j : Int)) (by omega) (by omega)]
    have skip : sel j = false → palletlaw08_FrameBack.j3 (k + 1) (p : Int) (P : Int) true (cs (Crc.tn sel p s j)) (8 * (s.length : Int)) (mt sel j) (j : Int) (j : Int) false = some true := by
      intro h
      rw [palletlaw08_FrameBack.j3, if_neg (by decide), Set08.w64 (by omega) (by omega), show (j : Int) + 1 = ((j + 1 : Nat) : Int) by omega]
      have := ih k (j + 1) (by omega) (by omega) (by omega)
      rw [Crc.tn, mt, h, if_neg (by decide), Bool.or_false] at this
      exact this
    by_cases hb : P.testBit j = true
    case neg =>
      rw [if_neg (fun c => hb ((bit1_of hP (by omega)).1 c))]
      refine skip ?_
      rw [hsel]
      simp only
      rw [Bool.not_eq_true] at hb
      rw [hb, Bool.false_and]
    rw [if_pos ((bit1_of hP (by omega)).2 hb)]
    by_cases hr : p + j < 8 * s.length
    · have hS : sel j = true := by
        rw [hsel]
        simp only
        rw [hb, decide_eq_true hr, Bool.true_and]
      have t1 : CrcFn.tr (Crc.tn sel p s j) ((p : Int) + (j : Int)) = (cs (Crc.tn sel p s (j + 1)), 0) := by
        unfold CrcFn.tr
        rw [if_neg (by omega), Crc.tn, if_pos hS, show ((p : Int) + (j : Int)).toNat = p + j by omega]
        rfl
      have tq : crc_Turn.f (cs (Crc.tn sel p s j)) ((p : Int) + (j : Int)) = some (CrcFn.tr (Crc.tn sel p s j) ((p : Int) + (j : Int))) := CrcFn.Turn_eq _ b1 (by omega) _ (by omega)
      rw [decide_eq_true (by omega), palletlaw08_FrameBack.j3, if_pos rfl, Set08.w64 (x := (p : Int) + (j : Int)) (by omega) (by omega), tq, Option.bind_some, t1, if_pos rfl]
      have m1 : mt sel (j + 1) = true := by rw [mt, hS, Bool.or_true]
      rw [Set08.w64 (by omega) (by omega), show (j : Int) + 1 = ((j + 1 : Nat) : Int) by omega]
      have := ih k (j + 1) (by omega) (by omega) (by omega)
      rw [m1] at this
      exact this
    · rw [decide_eq_false (by omega)]
      refine skip ?_
      rw [hsel]
      simp only
      rw [decide_eq_false hr, Bool.and_false]
theorem back_j0 (a0 a1 : Int) (n g : Nat) (hn : n < 18446744073709551616) (hg : g < 65536) (a2 : Int) (P : Nat) (hP : P < 2 ^ 32) {k : Nat} (hk : 90000 ≤ k) : palletlaw08_FrameBack.j0 k a2 (P : Int) true a0 a1 (n : Int) (g : Int) = some true := by
  obtain ⟨k, rfl⟩ : ∃ m, k = (m + 1) + 1 := ⟨k - 2, by omega⟩
  rw [palletlaw08_FrameBack.j0, Write_eq (by omega) a0 a1 n g hn hg, Option.bind_some]
  by_cases h : Fok a0 a1 (n : Int)
  case neg =>
    rw [if_neg h, if_neg (by decide), if_pos rfl, fcheck_eq (by omega), Option.bind_some, if_neg h]
    rfl
  have h' := h
  unfold Fok at h'
  rw [if_pos h, if_pos rfl]
  have e0 : ((a0.toNat : Nat) : Int) = a0 := by omega
  have e1 : ((a1.toNat : Nat) : Int) = a1 := by omega
  have w1 : By (fw a0.toNat a1.toNat n g) := fw_by (by omega) (by omega)
  have hv := vb_len10 hn
  have hlen := fw_len a0.toNat a1.toNat n g
  have rq := fw_rdF (kd := a0.toNat) (fr := a1.toNat) (n := n) (g := g) (by rw [e0, e1]; exact h) hn hg
  rw [e0, e1] at rq
  have rr := Read_eq (k := k + 1) (fw a0.toNat a1.toNat n g) w1 (by omega) (by omega)
  rw [rq] at rr
  show ((frame_Read.f (k + 1) (cs (fw a0.toNat a1.toNat n g))).bind _) = _
  rw [rr, Option.bind_some]
  rw [if_neg (show ¬ (!(a0 == a0) || (!(a1 == a1) || (!((n : Int) == (n : Int)) || (!((g : Int) == (g : Int)))))) = true by simp), if_pos rfl]
  show palletlaw08_FrameBack.j1 (k + 1) a2 (P : Int) true (cs (fw a0.toNat a1.toNat n g)) (((cs (fw a0.toNat a1.toNat n g)).length : Int) == 0) = some true
  rw [cs_len, show (((fw a0.toNat a1.toNat n g).length : Int) == 0) = false from beq_eq_false_iff_ne.mpr (by omega), palletlaw08_FrameBack.j1, if_neg (by decide), cs_len, Set08.w64 (x := 8 * ((fw a0.toNat a1.toNat n g).length : Int)) (by omega) (by omega), if_neg (by omega)]
  have gd : CrcFn.good24 (fw a0.toNat a1.toNat n g) := CrcFn.sealed24 (fb_by (by omega) (by omega))
  have g0 := (CrcFn.good24_iff w1 (by omega)).1 gd
  generalize fw a0.toNat a1.toNat n g = s at *
  have q1 := Int.tmod_lt_of_pos a2 (show 0 < 8 * (s.length : Int) by omega)
  have q2 := Int.lt_tmod_of_pos a2 (show 0 < 8 * (s.length : Int) by omega)
  rw [Set08.w64 (by omega) (by omega), Int.tmod_eq_emod_of_nonneg (by omega)]
  obtain ⟨p, hp⟩ : ∃ p : Nat, (Int.tmod a2 (8 * (s.length : Int)) + 8 * (s.length : Int)) % (8 * (s.length : Int)) = (p : Int) := ⟨_, (Int.toNat_of_nonneg (Int.emod_nonneg _ (by omega))).symm⟩
  have hp2 : (p : Int) < 8 * (s.length : Int) := by
    rw [← hp]
    exact Int.emod_lt_of_pos _ (by omega)
  rw [hp]
  exact fb_l0 p P hP s w1 (by omega) (by omega) (by omega) g0 _ rfl 24 k 0 (by omega) (by omega) (by omega)
theorem FrameBack : ∀ (a0_0 : Int) (a0_1 : Int) (a0_2 : Int) (a0_3 : Int) (l1 : List Int) (a2 : Int) (a3 : Int), (Lit.int .i64 a0_0).wf = true → (Lit.int .i64 a0_1).wf = true → (Lit.int .u64 a0_2).wf = true → (Lit.int .u16 a0_3).wf = true → l1.length ≤ maxLen → l1.length * 1 ≤ 140737488351232 → (∀ y ∈ l1, (Lit.int .u8 y).wf = true) → (Lit.int .i64 a2).wf = true → (Lit.int .u32 a3).wf = true → ∃ k, palletlaw08_FrameBack.f k a0_0 a0_1 a0_2 a0_3 l1 a2 a3 = some true := by
  intro a0 a1 a2 a3 l1 b2 b3 h0 h1 h2 h3 hm hb hy i2 i3
  obtain ⟨n, rfl, hn⟩ := u64_of h2
  obtain ⟨g, rfl, hg⟩ := u16_of h3
  obtain ⟨l, rfl, hl⟩ := CrcFn.bytes_of hy
  have hl : By l := hl
  have hP : 0 ≤ b3 ∧ b3 ≤ 4294967295 := by simpa [Lit.wf, IntKind.min, IntKind.max, IntKind.signed, IntKind.bits] using i3
  obtain ⟨P, rfl⟩ : ∃ P : Nat, b3 = P := ⟨b3.toNat, by omega⟩
  refine ⟨100000, ?_⟩
  have J := back_j0 a0 a1 n g hn hg b2 P (by omega) (k := 100000) (by omega)
  unfold palletlaw08_FrameBack.f
  have el : ((CrcFn.cs l).length : Int) = (l.length : Int) := by rw [CrcFn.cs_len]
  rw [live8', Option.bind_some, if_pos rfl, el]
  by_cases h : (l.length : Int) > 2000
  · rw [if_pos h]
  have r1 : frame_Read.f 100000 (CrcFn.cs l) = some (rdF l) := Read_eq l hl (by omega) (by omega)
  rw [if_neg h, r1, Option.bind_some]
  by_cases e : (rdF l).2.2.2.2 = 0
  case neg => rw [if_neg e]; exact J
  obtain ⟨kd, fr, m, q, eq, hf, hm2, hq, rfl⟩ := rdF_ok hl e
  rw [if_pos e, eq]
  have w1 := Write_eq (k := 100000) (by omega) (kd : Int) (fr : Int) m q hm2 hq
  rw [if_pos hf, Int.toNat_natCast, Int.toNat_natCast] at w1
  show ((frame_Write.f 100000 (kd : Int) (fr : Int) (m : Int) (q : Int)).bind _) = _
  rw [w1, Option.bind_some, if_pos rfl]
  have s1 : palletref02_Same.f (cs (fw kd fr m q), (0 : Int)).1 (CrcFn.cs (fw kd fr m q)) = some true := same_self _
  rw [s1, Option.bind_some, if_pos rfl]
  show ((frame_Check.f 100000 (kd : Int) (fr : Int) (m : Int) (q : Int)).bind _) = _
  rw [fcheck_eq (by omega), if_pos hf, Option.bind_some, if_pos rfl]
  exact J
end Go.Proofs.Ytogdelhofdelgaa.Pure
