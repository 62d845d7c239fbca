/- A log with some turned of 25 bits beside one another is none; cut off anywhere, or with bytes behind, it is none either, unless its last four bytes happen to be the sum of those ahead. Conditions: none but that each number is of its kind, and each list's length a slice's. -/
import Derived.Test.YtcbjbgleflbpmaaDoorBaseEventSpoilt
import Derived.Test.YtcbjbgleflbpmaaDoorPrint0
import Derived.Test.YtcbjbgleflbpmaaDoorPrint29
import Derived.Test.YtcbjbgleflbpmaaDoorPrint35
set_option linter.unusedVariables false
set_option linter.unusedSimpArgs false
namespace Go.Proofs.YtcbjbgleflbpmaaDoor.Pure
open Go Go.RowKit Go.Proofs.YtcbjbgleflbpmaaDoor.Print Go.Proofs.YtcbjbgleflbpmaaDoorW.PrintWords Go.Proofs.YtcbjbgleflbpmaaDoorW.PrintLast Go.Proofs.YtcbjbgleflbpmaaDoorW.PrintMore Go.Proofs.YtcbjbgleflbpmaaDoor.Ev19 Go.Proofs.YtcbjbgleflbpmaaDoor.Wire Go.Proofs.YtcbjbgleflbpmaaDoor.Wire2 Go.Proofs.YtcbjbgleflbpmaaDoor.WireSpec
def mt (sel : Nat → Bool) : Nat → Bool
  | 0 => false
  | j + 1 => mt sel j || sel j
theorem mt_iff (sel : Nat → Bool) (J : Nat) : mt sel J = false ↔ ∀ i, i < J → sel i = false := by
  induction J with
  | zero => exact ⟨fun _ i hi => by omega, fun _ => rfl⟩
  | succ J ih =>
    rw [mt, Bool.or_eq_false_iff, ih]
    constructor
    · rintro ⟨h, h2⟩ i hi
      by_cases e : i = J
      · rw [e]; exact h2
      · exact h i (by omega)
    · intro h
      exact ⟨fun i hi => h i (by omega), h J (by omega)⟩
theorem bit_one {P i : Nat} (hP : P < 2 ^ 32) (hi : i < 25) : (Go.bits .and .u32 (shr .u32 (P : Int) (i : Int)) 1 = 1) ↔ P.testBit i = true := by
  have e : shr .u32 (P : Int) (i : Int) = ((P >>> i : Nat) : Int) := by
    unfold shr
    rw [Int.toNat_natCast, Nat.min_eq_left (show i ≤ IntKind.u32.bits by show i ≤ 32; omega), Nat.shiftRight_eq_div_pow]
    simp
  have hl : P >>> i < 2 ^ 32 := by
    rw [Nat.shiftRight_eq_div_pow]
    exact Nat.lt_of_le_of_lt (Nat.div_le_self _ _) hP
  rw [e, show (1 : Int) = ((1 : Nat) : Int) from rfl, CrcFn.and32 hl (by decide), Nat.and_one_is_mod, Nat.testBit_eq_decide_div_mod_eq, decide_eq_true_eq, Nat.shiftRight_eq_div_pow]
  omega
theorem op_of_dc {x : List Nat} (h : (dc x).2.2 = 0) : (CrcFn.op32 x).2 = 0 := by
  unfold dc at h
  unfold CrcFn.op32
  by_cases h1 : x.length < 4
  · rw [if_pos h1] at h
    simp at h
  rw [if_neg h1] at h ⊢
  by_cases h2 : 1048580 < x.length
  · rw [if_pos h2] at h
    simp at h
  rw [if_neg h2] at h ⊢
  by_cases h3 : CrcFn.good32 x
  · rw [if_pos h3]
  · rw [if_neg h3] at h
    simp at h
theorem dc_bad {x : List Nat} (h4 : 4 ≤ x.length) (hn : x.length ≤ 1048580) (h : ¬ CrcFn.good32 x) : dc x = ([], 0, 5) := by
  unfold dc
  rw [if_neg (by omega), if_neg (by omega), if_neg h]
theorem spoilt_l0 (l : List E) (ho : okL l = true) (hw : Ws l) (p P : Nat) (hP : P < 2 ^ 32) (hp : p < 8 * (enc l).length) (sel : Nat → Bool) (hsel : sel = fun i => P.testBit i && decide (p + i < 8 * (enc l).length)) (d : Nat) :
    ∀ (k j : Nat), j ≤ 25 → 25 - j = d → 2 * d + 11000010 ≤ k → palletlaw19_EventSpoilt.l0 k (p : Int) (P : Int) true (cs (Crc.tn sel p (enc l) j)) ((8 * (enc l).length : Nat) : Int) (mt sel j) (j : Int) = some true := by
  obtain ⟨o1, o2, o3⟩ := okL_iff.1 ho
  have hB := enc_by o2
  have hL := lbody_len o2 hw o1
  have hE := enc_len l
  have hh : ∀ i, i < 25 → sel i = true → p + i < 8 * (enc l).length := by
    intro i _ h
    rw [hsel, Bool.and_eq_true, decide_eq_true_eq] at h
    exact h.2
  have gt : Crc.r32 (enc l) = CrcFn.res32 := (CrcFn.good32_iff hB (by omega)).1 (CrcFn.sealed32 (lbody_by o2))
  induction d with
  | zero =>
    intro k j hj hd hk
    obtain ⟨k, rfl⟩ : ∃ m, k = m + 1 := ⟨k - 1, by omega⟩
    obtain rfl : j = 25 := by omega
    have b2 := Crc.tn_by sel p hB 25
    have l2 := Crc.tn_len sel p (enc l) 25
    rw [palletlaw19_EventSpoilt.l0, if_neg (by omega), Decode_eq _ b2 (by omega) (by omega), Option.bind_some, if_pos rfl]
    have i2 : CrcFn.good32 (Crc.tn sel p (enc l) 25) ↔ mt sel 25 = false := by
      rw [CrcFn.good32_iff b2 (by omega), mt_iff, ← Crc.shows32 sel p (s := enc l) 25 (by omega) (by omega) hh, gt]
    cases e : mt sel 25 with
    | false =>
      have hz : Crc.tn sel p (enc l) 25 = enc l := by
        have q : ∀ J, J ≤ 25 → Crc.tn sel p (enc l) J = enc l := by
          intro J
          induction J with
          | zero => intro _; rfl
          | succ J ih =>
            intro hJ
            rw [Crc.tn, (mt_iff sel 25).1 e J (by omega), if_neg (by decide)]
            exact ih (by omega)
        exact q 25 (Nat.le_refl _)
      rw [hz, dc_enc ho hw]
      rfl
    | true =>
      rw [dc_bad (by omega) (by omega) (fun c => by rw [i2.1 c] at e; cases e), if_pos (by decide), if_pos rfl]
  | succ d ih =>
    intro k j hj hd hk
    obtain ⟨k, rfl⟩ : ∃ m, k = (m + 1) + 1 := ⟨k - 2, by omega⟩
    have b2 := Crc.tn_by sel p hB j
    have l2 := Crc.tn_len sel p (enc l) j
    rw [palletlaw19_EventSpoilt.l0, if_pos (by omega), if_pos (by omega), i64 (x := (p : Int) + (j : Int)) (by omega) (by omega)]
    have skip : sel j = false → palletlaw19_EventSpoilt.j6 (k + 1) (p : Int) (P : Int) true (cs (Crc.tn sel p (enc l) j)) ((8 * (enc l).length : Nat) : Int) (mt sel j) (j : Int) (j : Int) false = some true := by
      intro h
      rw [palletlaw19_EventSpoilt.j6, if_neg (by decide), i64 (by omega) (by omega), show (j : Int) + 1 = ((j + 1 : Nat) : Int) by omega]
      have := ih k (j + 1) (by omega) (by omega) (by omega)
      rw [Crc.tn, mt, h, if_neg (by decide), Bool.or_false] at this
      exact this
    by_cases hb : P.testBit j = true
    case neg =>
      rw [if_neg (fun c => hb ((bit_one hP (by omega)).1 c))]
      refine skip ?_
      rw [hsel]
      simp only
      rw [Bool.not_eq_true] at hb
      rw [hb, Bool.false_and]
    rw [if_pos ((bit_one hP (by omega)).2 hb)]
    by_cases hr : p + j < 8 * (enc l).length
    · have hS : sel j = true := by
        rw [hsel]
        simp only
        rw [hb, decide_eq_true hr, Bool.true_and]
      rw [decide_eq_true (by omega), palletlaw19_EventSpoilt.j6, if_pos rfl, i64 (x := (p : Int) + (j : Int)) (by omega) (by omega), show cs (Crc.tn sel p (enc l) j) = CrcFn.cs (Crc.tn sel p (enc l) j) from rfl, CrcFn.Turn_eq _ b2 (by omega) _ (by omega), Option.bind_some]
      have t2 : CrcFn.tr (Crc.tn sel p (enc l) j) ((p : Int) + (j : Int)) = (CrcFn.cs (Crc.tn sel p (enc l) (j + 1)), 0) := by
        unfold CrcFn.tr
        rw [if_neg (by omega), Crc.tn, if_pos hS, show ((p : Int) + (j : Int)).toNat = p + j by omega]
      have m1 : mt sel (j + 1) = true := by rw [mt, hS, Bool.or_true]
      rw [t2, if_pos rfl, i64 (by omega) (by omega), show (j : Int) + 1 = ((j + 1 : Nat) : Int) by omega]
      have := ih k (j + 1) (by omega) (by omega) (by omega)
      rw [m1] at this
      exact this
    · rw [decide_eq_false (by omega)]
      refine skip ?_
      rw [hsel]
      simp only
      rw [decide_eq_false hr, Bool.and_false]
theorem EventSpoilt : ∀ (l0 : List (S30)) (a1 : Int) (a2 : Int) (a3 : Int) (l4 : List Int), l0.length ≤ maxLen → l0.length * 40 ≤ 140737488351232 → (∀ y ∈ l0, ((Lit.int .i64 y.f0).wf = true) ∧ (((Lit.int .i64 y.f1).wf = true) ∧ (((Lit.int .i64 y.f2).wf = true) ∧ (((Lit.int .i64 y.f3).wf = true) ∧ (((Lit.int .i64 y.f4).wf = true)))))) → (Lit.int .i64 a1).wf = true → (Lit.int .u32 a2).wf = true → (Lit.int .i64 a3).wf = true → l4.length ≤ maxLen → l4.length * 1 ≤ 140737488351232 → (∀ y ∈ l4, (Lit.int .u8 y).wf = true) → ∃ k, palletlaw19_EventSpoilt.f k l0 a1 a2 a3 l4 = some true := by
  intro l a1 a2 a3 m hl1 hl2 hl h1 h2 h3 hm1 hm2 hm
  obtain ⟨m, rfl, hM⟩ := bytes_of hm
  have hw := ws_of hl
  have hA := CrcFn.i64_le h1
  have hC := CrcFn.i64_le h3
  have hP : 0 ≤ a2 ∧ a2 ≤ 4294967295 := by simpa [Lit.wf, IntKind.min, IntKind.max, IntKind.signed, IntKind.bits] using h2
  obtain ⟨P, rfl⟩ : ∃ P : Nat, a2 = P := ⟨a2.toNat, by omega⟩
  obtain ⟨k, hk⟩ : ∃ k : Nat, k = 11000100 := ⟨11000100, rfl⟩
  refine ⟨k + 5, ?_⟩
  have J : ∀ q : Bool, (q = false → l.length ≤ 300 ∧ m.length ≤ 300) → palletlaw19_EventSpoilt.j0 (k + 5) l a1 (P : Int) a3 (cs m) true q = some true := by
    intro q hq
    rw [palletlaw19_EventSpoilt.j0]
    cases q with
    | true => rw [if_pos rfl]
    | false =>
      obtain ⟨nl, nm⟩ := hq rfl
      rw [if_neg (by decide), Encode_eq l hw (by omega) (by omega), Option.bind_some]
      by_cases ho : okL l = true
      case neg => rw [if_neg ho, if_neg (by decide), palletlaw19_EventSpoilt.j1, if_pos rfl, if_pos rfl]; rfl
      obtain ⟨o1, o2, o3⟩ := okL_iff.1 ho
      have hB := enc_by o2
      have hL := lbody_len o2 hw o1
      have hE := enc_len l
      rw [if_pos ho, if_pos rfl]
      dsimp only
      rw [cs_len, show (((enc l).length : Int) == 0) = false by rw [beq_eq_false_iff_ne]; omega, palletlaw19_EventSpoilt.j1, if_neg (by decide), cs_len, if_neg (by omega)]
      have q1 := Int.tmod_lt_of_pos a3 (show 0 < ((enc l).length : Int) by omega)
      have q2 := Int.lt_tmod_of_pos a3 (show 0 < ((enc l).length : Int) by omega)
      rw [i64 (by omega) (by omega), Int.tmod_eq_emod_of_nonneg (by omega)]
      obtain ⟨c, hc⟩ : ∃ c : Nat, (Int.tmod a3 ((enc l).length : Int) + ((enc l).length : Int)) % ((enc l).length : Int) = (c : Int) := ⟨_, (Int.toNat_of_nonneg (Int.emod_nonneg _ (by omega))).symm⟩
      have hc2 : (c : Int) < ((enc l).length : Int) := by
        rw [← hc]
        exact Int.emod_lt_of_pos _ (by omega)
      have L4 : palletlaw19_EventSpoilt.j4 (k + 1) a1 (P : Int) true (cs (enc l)) = some true := by
        rw [palletlaw19_EventSpoilt.j4, cs_len, i64 (x := 8 * ((enc l).length : Int)) (by omega) (by omega), if_neg (by omega)]
        have r1 := Int.tmod_lt_of_pos a1 (show 0 < 8 * ((enc l).length : Int) by omega)
        have r2 := Int.lt_tmod_of_pos a1 (show 0 < 8 * ((enc l).length : Int) by omega)
        rw [i64 (by omega) (by omega), Int.tmod_eq_emod_of_nonneg (by omega)]
        obtain ⟨p, hp⟩ : ∃ p : Nat, (Int.tmod a1 (8 * ((enc l).length : Int)) + 8 * ((enc l).length : Int)) % (8 * ((enc l).length : Int)) = (p : Int) := ⟨_, (Int.toNat_of_nonneg (Int.emod_nonneg _ (by omega))).symm⟩
        have hp2 : (p : Int) < 8 * ((enc l).length : Int) := by
          rw [← hp]
          exact Int.emod_lt_of_pos _ (by omega)
        rw [hp, show (8 * ((enc l).length : Int)) = ((8 * (enc l).length : Nat) : Int) by omega]
        exact spoilt_l0 l ho hw p P (by omega) (by omega) _ rfl 25 k 0 (by omega) (by omega) (by omega)
      have hJ : By (enc l ++ m) := hB.append hM
      have hJl : (enc l ++ m).length = (enc l).length + m.length := List.length_append
      have O : ∀ x : List Nat, By x → x.length ≤ 10000000 → (dc x).2.2 = 0 → crc_Open32.f (cs x) = some (CrcFn.op32 x) ∧ (CrcFn.op32 x).2 = 0 := fun x hx hn h => ⟨CrcFn.Open32_eq x hx (by omega), op_of_dc h⟩
      have L2 : palletlaw19_EventSpoilt.j2 (k + 3) a1 (P : Int) (cs m) true (cs (enc l)) = some true := by
        rw [palletlaw19_EventSpoilt.j2, cs_len, if_pos (by simp only [List.length_nil]; omega), Option.bind_some, List.nil_append, cs_len, cs_len, if_pos (by omega), ← cs_append, Decode_eq _ hJ (by omega) (by omega), Option.bind_some]
        have L3 : ∀ b : Bool, (b = true → (dc (enc l ++ m)).2.2 = 0) → palletlaw19_EventSpoilt.j3 (k + 2) a1 (P : Int) (cs m) true (cs (enc l)) b = some true := by
          intro b hb
          rw [palletlaw19_EventSpoilt.j3]
          cases b with
          | false =>
            rw [if_neg (by decide)]
            exact L4
          | true =>
            obtain ⟨g1, g2⟩ := O _ hJ (by omega) (hb rfl)
            rw [if_pos rfl, cs_len, if_pos (by simp only [List.length_nil]; omega), Option.bind_some, List.nil_append, cs_len, cs_len, if_pos (by omega), ← cs_append, g1, Option.bind_some, if_pos g2]
            exact L4
        by_cases e : (dc (enc l ++ m)).2.2 = 0
        · rw [if_pos e]
          exact L3 _ (fun _ => e)
        · rw [if_neg e]
          exact L3 _ (fun h => by cases h)
      have hT : By ((enc l).take c) := hB.take c
      have hTl : ((enc l).take c).length ≤ (enc l).length := by rw [List.length_take]; omega
      rw [hc, if_pos (by omega), if_pos (by omega), Int.toNat_natCast, cs_take, Decode_eq _ hT (by omega) (by omega), Option.bind_some]
      by_cases e : (dc ((enc l).take c)).2.2 = 0
      · obtain ⟨g1, g2⟩ := O _ hT (by omega) e
        rw [if_pos e, g1, Option.bind_some, if_pos g2]
        exact L2
      · rw [if_neg e]
        exact L2
  unfold palletlaw19_EventSpoilt.f
  rw [live_eq (by omega), Option.bind_some, if_pos rfl, cs_len]
  by_cases c1 : (l.length : Int) > 300
  · rw [if_pos c1]
    exact J _ (fun h => by cases h)
  rw [if_neg c1]
  exact J _ (fun h => by have := of_decide_eq_false h; omega)
end Go.Proofs.YtcbjbgleflbpmaaDoor.Pure
