/- Any text sealed opens as it was, and bits turned within 24 places beside one another are always found, with either sum. Conditions: none but the kinds of the values. -/
import Derived.Test.YtjohinenaamdcaaCrcRef
import Derived.Test.YtjohinenaamdcaaPrint0
import Derived.Test.YtjohinenaamdcaaPrint2
import Derived.Test.YtjohinenaamdcaaPrint15
set_option linter.unusedVariables false
set_option linter.unusedSimpArgs false
namespace Go.Proofs.Ytjohinenaamdcaa.Pure
open Go Go.RowKit Go.Proofs.Ytjohinenaamdcaa.Print Go.Proofs.YtjohinenaamdcaaW.PrintWords Go.Proofs.YtjohinenaamdcaaW.PrintLast Go.Proofs.YtjohinenaamdcaaW.PrintMore Go.Proofs.Ytjohinenaamdcaa.Crc Go.Proofs.Ytjohinenaamdcaa.CrcFn
theorem live3 : palletlaw03_live.f = some true := by decide +kernel
def mt (sel : Nat → Bool) : Nat → Bool
  | 0 => false
  | j + 1 => mt sel j || sel j
theorem mt_iff (sel : Nat → Bool) (J : Nat) : mt sel J = false ↔ ∀ i, i < J → sel i = false := by
  induction J with
  | zero => exact ⟨fun _ i hi => by omega, fun _ => rfl⟩
  | succ J ih =>
    rw [mt, Bool.or_eq_false_iff, ih]
    constructor
    · rintro ⟨h, h2⟩ i hi
      by_cases e : i = J
      · rw [e]; exact h2
      · exact h i (by omega)
    · intro h
      exact ⟨fun i hi => h i (by omega), h J (by omega)⟩
theorem bit_of {P i : Nat} (hP : P < 2 ^ 32) (hi : i < 24) : (Go.bits .and .u32 (shr .u32 (P : Int) (i : Int)) 1 = 0) ↔ P.testBit i = false := by
  have e : shr .u32 (P : Int) (i : Int) = ((P >>> i : Nat) : Int) := by
    unfold shr
    rw [Int.toNat_natCast, Nat.min_eq_left (show i ≤ IntKind.u32.bits by show i ≤ 32; omega), Nat.shiftRight_eq_div_pow]
    simp
  have hl : P >>> i < 2 ^ 32 := by
    rw [Nat.shiftRight_eq_div_pow]
    exact Nat.lt_of_le_of_lt (Nat.div_le_self _ _) hP
  rw [e, show (1 : Int) = ((1 : Nat) : Int) from rfl, and32 hl (by decide), Nat.and_one_is_mod, Nat.testBit_eq_decide_div_mod_eq, decide_eq_false_iff_not, Nat.shiftRight_eq_div_pow]
  omega
theorem err24 {l : List Nat} (h3 : 3 ≤ l.length) (h : l.length ≤ 1048579) : (op24 l).2 = if good24 l then 0 else 5 := by
  unfold op24
  rw [if_neg (by omega), if_neg (by omega)]
  split <;> rfl
theorem err32 {l : List Nat} (h3 : 4 ≤ l.length) (h : l.length ≤ 1048580) : (op32 l).2 = if good32 l then 0 else 5 := by
  unfold op32
  rw [if_neg (by omega), if_neg (by omega)]
  split <;> rfl
theorem bu_l0 (p P : Nat) (hP : P < 2 ^ 32) (s t : List Nat) (hs : By s) (ht : By t) (hl : 3 ≤ s.length) (hl2 : s.length ≤ 5000) (hlt : t.length = s.length + 1) (hp : p < 8 * s.length) (gs : r24 s = 0) (gt : r32 t = res32) (sel : Nat → Bool) (hsel : sel = fun i => P.testBit i && decide (p + i < 8 * s.length)) (d : Nat) :
    ∀ (k j : Nat), j ≤ 24 → 24 - j = d → 2 * d + 1 ≤ k → palletlaw03_CrcBursts.l0 k (p : Int) (P : Int) true (cs (tn sel p s j)) (cs (tn sel p t j)) (mt sel j) (j : Int) = some true := by
  have hh : ∀ i, i < 24 → sel i = true → p + i < 8 * s.length := by
    intro i _ h
    rw [hsel, Bool.and_eq_true, decide_eq_true_eq] at h
    exact h.2
  induction d with
  | zero =>
    intro k j hj hd hk
    obtain ⟨k, rfl⟩ : ∃ m, k = m + 1 := ⟨k - 1, by omega⟩
    obtain rfl : j = 24 := by omega
    have b1 := tn_by sel p hs 24
    have b2 := tn_by sel p ht 24
    have l1 := tn_len sel p s 24
    have l2 := tn_len sel p t 24
    rw [palletlaw03_CrcBursts.l0, if_neg (by omega), Open24_eq _ b1 (by omega), Option.bind_some, Open32_eq _ b2 (by omega), Option.bind_some, if_pos rfl, err24 (by omega) (by omega), err32 (by omega) (by omega)]
    have i1 : good24 (tn sel p s 24) ↔ mt sel 24 = false := by
      rw [good24_iff b1 (by omega), mt_iff, ← shows24 sel p 24 (Nat.le_refl _) hp hh, gs]
    have i2 : good32 (tn sel p t 24) ↔ mt sel 24 = false := by
      rw [good32_iff b2 (by omega), mt_iff, ← shows32 sel p (s := t) 24 (by omega) (by omega) (fun i hi h => by have := hh i hi h; omega), gt]
    cases e : mt sel 24 with
    | false => rw [if_pos (i1.2 e), if_pos (i2.2 e)]; rfl
    | true => rw [if_neg (show ¬ good24 (tn sel p s 24) from fun c => by rw [i1.1 c] at e; cases e), if_neg (show ¬ good32 (tn sel p t 24) from fun c => by rw [i2.1 c] at e; cases e)]; rfl
  | succ d ih =>
    intro k j hj hd hk
    obtain ⟨k, rfl⟩ : ∃ m, k = (m + 1) + 1 := ⟨k - 2, by omega⟩
    have e1 : (cs (tn sel p s j)).length = s.length := by rw [cs_len, tn_len]
    have b1 := tn_by sel p hs j
    have b2 := tn_by sel p ht j
    have l1 := tn_len sel p s j
    have l2 := tn_len sel p t j
    rw [palletlaw03_CrcBursts.l0, if_pos (by omega), if_pos (by omega), e1, w64 (x := (p : Int) + (j : Int)) (by omega) (by omega), w64 (x := 8 * (s.length : Int)) (by omega) (by omega)]
    have skip : sel j = false → palletlaw03_CrcBursts.j2 (k + 1) (p : Int) (P : Int) true (cs (tn sel p s j)) (cs (tn sel p t j)) (mt sel j) (j : Int) (j : Int) true = some true := by
      intro h
      rw [palletlaw03_CrcBursts.j2, if_pos rfl, w64 (by omega) (by omega), show (j : Int) + 1 = ((j + 1 : Nat) : Int) by omega]
      have := ih k (j + 1) (by omega) (by omega) (by omega)
      rw [tn, tn, mt, h, if_neg (by decide), if_neg (by decide), Bool.or_false] at this
      exact this
    by_cases hb : P.testBit j = false
    · rw [if_pos ((bit_of hP (by omega)).2 hb)]
      refine skip ?_
      rw [hsel]
      simp only
      rw [hb, Bool.false_and]
    rw [if_neg (fun c => hb ((bit_of hP (by omega)).1 c))]
    rw [Bool.not_eq_false] at hb
    by_cases hr : p + j < 8 * s.length
    · have hS : sel j = true := by
        rw [hsel]
        simp only
        rw [hb, decide_eq_true hr, Bool.true_and]
      rw [decide_eq_false (by omega), palletlaw03_CrcBursts.j2, if_neg (by decide), w64 (x := (p : Int) + (j : Int)) (by omega) (by omega), Turn_eq _ b1 (by omega) _ (by omega), Option.bind_some, Turn_eq _ b2 (by omega) _ (by omega), Option.bind_some]
      have t1 : tr (tn sel p s j) ((p : Int) + (j : Int)) = (cs (tn sel p s (j + 1)), 0) := by
        unfold tr
        rw [if_neg (by omega), tn, if_pos hS, show ((p : Int) + (j : Int)).toNat = p + j by omega]
      have t2 : tr (tn sel p t j) ((p : Int) + (j : Int)) = (cs (tn sel p t (j + 1)), 0) := by
        unfold tr
        rw [if_neg (by omega), tn, if_pos hS, show ((p : Int) + (j : Int)).toNat = p + j by omega]
      have m1 : mt sel (j + 1) = true := by rw [mt, hS, Bool.or_true]
      rw [t1, t2, if_pos rfl, if_pos rfl, w64 (by omega) (by omega), show (j : Int) + 1 = ((j + 1 : Nat) : Int) by omega]
      have := ih k (j + 1) (by omega) (by omega) (by omega)
      rw [m1] at this
      exact this
    · rw [decide_eq_true (by omega)]
      refine skip ?_
      rw [hsel]
      simp only
      rw [decide_eq_false hr, Bool.and_false]
theorem CrcBursts : ∀ (l0 : List Int) (a1 : Int) (a2 : Int), l0.length ≤ maxLen → l0.length * 1 ≤ 140737488351232 → (∀ y ∈ l0, (Lit.int .u8 y).wf = true) → (Lit.int .i64 a1).wf = true → (Lit.int .u32 a2).wf = true → ∃ k, palletlaw03_CrcBursts.f k l0 a1 a2 = some true := by
  intro l0 a1 a2 _ _ h0 h1 h2
  obtain ⟨l, rfl, hl⟩ := bytes_of h0
  refine ⟨100, ?_⟩
  have hA := i64_le h1
  have hP : 0 ≤ a2 ∧ a2 ≤ 4294967295 := by simpa [Lit.wf, IntKind.min, IntKind.max, IntKind.signed, IntKind.bits] using h2
  obtain ⟨P, rfl⟩ : ∃ P : Nat, a2 = P := ⟨a2.toNat, by omega⟩
  unfold palletlaw03_CrcBursts.f
  rw [live3, Option.bind_some, if_pos rfl, cs_len]
  by_cases h : (l.length : Int) > 3000
  · rw [if_pos h]
  have b1 : By (l ++ b3 (r24 l)) := By.append hl (b3_by _)
  have b2 : By (l ++ b4 (0xffffffff ^^^ r32 l)) := By.append hl (b4_by _)
  have l1 : (l ++ b3 (r24 l)).length = l.length + 3 := by rw [List.length_append]; rfl
  have l2 : (l ++ b4 (0xffffffff ^^^ r32 l)).length = l.length + 4 := by rw [List.length_append]; rfl
  have e1 : sl24 l = (cs (l ++ b3 (r24 l)), 0) := by
    unfold sl24
    rw [if_neg (by omega)]
  have e2 : sl32 l = (cs (l ++ b4 (0xffffffff ^^^ r32 l)), 0) := by
    unfold sl32
    rw [if_neg (by omega)]
  have o1 : op24 (l ++ b3 (r24 l)) = (cs l, 0) := by
    unfold op24
    rw [if_neg (by omega), if_neg (by omega), if_pos (sealed24 hl), l1, Nat.add_sub_cancel, List.take_left]
  have o2 : op32 (l ++ b4 (0xffffffff ^^^ r32 l)) = (cs l, 0) := by
    unfold op32
    rw [if_neg (by omega), if_neg (by omega), if_pos (sealed32 hl), l2, Nat.add_sub_cancel, List.take_left]
  have g1 := (good24_iff b1 (by omega)).1 (sealed24 hl)
  have g2 := (good32_iff b2 (by omega)).1 (sealed32 hl)
  rw [if_neg h, Seal24_sl l hl (by omega), Option.bind_some, e1, Seal32_sl l hl (by omega)]
  rw [Open24_eq _ b1 (by omega), Option.bind_some, Option.bind_some, e2]
  rw [Open32_eq _ b2 (by omega), Option.bind_some, o1, o2, if_pos rfl, if_pos rfl, if_pos rfl, if_pos rfl, Same_self, Option.bind_some, if_pos rfl, Option.bind_some, if_pos rfl]
  show (if ((cs (l ++ b3 (r24 l))).length : Int) = _ then palletlaw03_CrcBursts.j0 100 a1 P true (cs (l ++ b3 (r24 l))) (cs (l ++ b4 (0xffffffff ^^^ r32 l))) (((cs (l ++ b4 (0xffffffff ^^^ r32 l))).length : Int) != wrap64 ((l.length : Int) + 4)) else _) = _
  rw [cs_len, cs_len, l1, l2, w64 (by omega) (by omega), if_pos (by omega), w64 (by omega) (by omega), show ((l.length + 4 : Nat) : Int) = (l.length : Int) + 4 by omega, bne_self_eq_false]
  rw [show (100 : Nat) = 99 + 1 from rfl, palletlaw03_CrcBursts.j0, if_neg (by decide), cs_len, l1]
  rw [w64 (x := 8 * ((l.length + 3 : Nat) : Int)) (by omega) (by omega), if_neg (by omega)]
  have r1 : -(8 * ((l.length + 3 : Nat) : Int)) < Int.tmod a1 (8 * ((l.length + 3 : Nat) : Int)) ∧ Int.tmod a1 (8 * ((l.length + 3 : Nat) : Int)) < 8 * ((l.length + 3 : Nat) : Int) := by
    have q1 := Int.tmod_lt_of_pos a1 (show 0 < 8 * ((l.length + 3 : Nat) : Int) by omega)
    have q2 := Int.lt_tmod_of_pos a1 (show 0 < 8 * ((l.length + 3 : Nat) : Int) by omega)
    omega
  rw [w64 (by omega) (by omega), Int.tmod_eq_emod_of_nonneg (by omega)]
  obtain ⟨p, hp⟩ : ∃ p : Nat, (Int.tmod a1 (8 * ((l.length + 3 : Nat) : Int)) + 8 * ((l.length + 3 : Nat) : Int)) % (8 * ((l.length + 3 : Nat) : Int)) = (p : Int) := ⟨_, (Int.toNat_of_nonneg (Int.emod_nonneg _ (by omega))).symm⟩
  have hp2 : (p : Int) < 8 * ((l.length + 3 : Nat) : Int) := by
    rw [← hp]
    exact Int.emod_lt_of_pos _ (by omega)
  rw [hp]
  exact bu_l0 p P (by omega) (l ++ b3 (r24 l)) (l ++ b4 (0xffffffff ^^^ r32 l)) b1 b2 (by omega) (by omega) (by omega) (by omega) g1 g2 _ rfl 24 99 0 (by omega) (by omega) (by omega)
end Go.Proofs.Ytjohinenaamdcaa.Pure
