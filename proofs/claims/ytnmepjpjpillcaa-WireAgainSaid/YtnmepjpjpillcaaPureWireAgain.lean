/- What is read is written as it stood there: numbers, signed ones, records, and all of them together. Conditions: none but that each byte is one. -/
import Derived.Test.YtnmepjpjpillcaaFew02
import Derived.Test.YtnmepjpjpillcaaWire5
import Derived.Test.YtnmepjpjpillcaaPrint0
import Derived.Test.YtnmepjpjpillcaaPrint17
set_option linter.unusedVariables false
set_option linter.unusedSimpArgs false
namespace Go.Proofs.Ytnmepjpjpillcaa.Pure
open Go.RowKit Go.Proofs.Ytnmepjpjpillcaa.Print Go.Proofs.YtnmepjpjpillcaaW.PrintWords Go.Proofs.YtnmepjpjpillcaaW.PrintLast Go.Proofs.YtnmepjpjpillcaaW.PrintMore
open Go Go.Proofs.Ytnmepjpjpillcaa.Len64 Go.Proofs.Ytnmepjpjpillcaa.Wire Go.Proofs.Ytnmepjpjpillcaa.WireSpec Go.Proofs.Ytnmepjpjpillcaa.Wire2 Go.Proofs.Ytnmepjpjpillcaa.Wire3 Go.Proofs.Ytnmepjpjpillcaa.Wire4 Go.Proofs.Ytnmepjpjpillcaa.Wire5 Go.Proofs.Ytnmepjpjpillcaa.Recs
theorem wa_l0 (b : List Nat) (hb : b.length ≤ 3000) (L : List (List Nat)) (hL : ∀ x ∈ L, 2 ≤ x.length) (hf : L.flatten = b) (hn : L.length ≤ 3000) (d : Nat) : ∀ (k i : Nat), i ≤ L.length → L.length - i = d → d < k →
    palletlaw02_WireAgain.l0 k (cs b) true (cs (L.take i).flatten) (L.map cs) (L.length : Int) (i : Int) = some true := by
  induction d with
  | zero =>
    intro k i hi hd hk
    obtain ⟨k, rfl⟩ : ∃ m, k = m + 1 := ⟨k - 1, by omega⟩
    rw [palletlaw02_WireAgain.l0, if_neg (by omega), if_pos rfl, List.take_of_length_le (by omega), hf, same_self]
    rfl
  | succ d ih =>
    intro k i hi hd hk
    obtain ⟨k, rfl⟩ : ∃ m, k = m + 1 := ⟨k - 1, by omega⟩
    have hlt : i < L.length := by omega
    have g1 : rd_L2 (L.map cs) (i : Int) = cs L[i] := by
      unfold rd_L2
      rw [Int.toNat_natCast, List.getD_eq_getElem?_getD, List.getElem?_map, List.getElem?_eq_getElem hlt]
      rfl
    have h2 := hL _ (List.getElem_mem hlt)
    have e1 : (L.take (i + 1)).flatten = (L.take i).flatten ++ L[i] := by
      rw [List.take_succ_eq_append_getElem hlt, List.flatten_append]
      simp
    have e2 : ((L.take (i + 1)).flatten).length ≤ b.length := by
      rw [← hf]
      conv => rhs; rw [← List.take_append_drop (i + 1) L, List.flatten_append, List.length_append]
      omega
    rw [e1, List.length_append] at e2
    rw [palletlaw02_WireAgain.l0, if_pos (by omega), if_pos (by omega), List.length_map, if_pos (by omega), g1, cs_len, cs_len, if_neg (by omega), if_pos (by omega), ← cs_append, ← e1, w64 (by omega) (by omega), show (i : Int) + 1 = ((i + 1 : Nat) : Int) by omega]
    exact ih k (i + 1) (by omega) (by omega) (by omega)
theorem WireAgain : ∀ (l0 : List Int), l0.length ≤ maxLen → l0.length * 1 ≤ 140737488351232 → (∀ y ∈ l0, (Lit.int .u8 y).wf = true) → ∃ k, palletlaw02_WireAgain.f k l0 = some true := by
  intro l0 _ _ h0
  obtain ⟨b, rfl, hB⟩ := bytes_of h0
  obtain ⟨k, hk⟩ : ∃ k : Nat, k = 40000 := ⟨_, rfl⟩
  refine ⟨k + 4, ?_⟩
  unfold palletlaw02_WireAgain.f
  rw [live2 (by omega), Option.bind_some, few1 (by omega), Option.bind_some, cs_len]
  by_cases c : b.length ≤ 3000
  case neg => rw [decide_eq_false c, if_neg (by decide)]
  rw [decide_eq_true c, if_pos rfl]
  have mx0 : ∀ n : Nat, mx (n : Int) 0 = (n : Int) := fun n => by
    unfold mx
    split <;> omega
  -- the records together
  have j2 : palletlaw02_WireAgain.j2 (k + 1) (cs b) true = some true := by
    have r := Records_eq (k := k) b hB (by omega) 0 b.length (by omega) (by omega) (by omega)
    rw [show ((0 : Nat) : Int) = 0 from rfl, List.drop_zero] at r
    rw [palletlaw02_WireAgain.j2, r, Option.bind_some]
    simp only
    by_cases e : (recs b.length b).2 = 0
    · obtain ⟨hf, hL⟩ := recs_flat b.length b hB (Nat.le_refl _) e
      have hcnt : (recs b.length b).1.length ≤ b.length := by
        have key : ∀ L : List (List Nat), (∀ x ∈ L, 2 ≤ x.length) → L.length ≤ L.flatten.length := by
          intro L
          induction L with
          | nil => intro _; simp
          | cons x L ih =>
            intro h
            have h1 := h x (by simp)
            have h2 := ih (fun y hy => h y (by simp [hy]))
            rw [List.flatten_cons, List.length_append, List.length_cons]
            omega
        have := key _ hL
        rw [hf] at this
        exact this
      have w := wa_l0 b c _ hL hf (by omega) _ k 0 (by omega) rfl (by omega)
      rw [if_pos (by omega), List.length_map]
      rw [List.take_zero] at w
      exact w
    · rw [if_neg (by omega), if_pos trivial, recs_err e]
      rfl
  -- a record
  have j1 : palletlaw02_WireAgain.j1 (k + 2) (cs b) true false = some true := by
    have r := TakeRecord_eq (k := k + 1) b hB (by omega) 0 (by omega)
    rw [show ((0 : Nat) : Int) = 0 from rfl] at r
    rw [palletlaw02_WireAgain.j1, if_neg (by decide), r, Option.bind_some]
    unfold tres
    rw [List.drop_zero]
    rcases hs : sp1 b with ⟨h, n, x⟩
    simp only
    by_cases h1 : x = 0
    · subst h1
      obtain ⟨kd, t, e1, e2, h2, h3, h4⟩ := sp1_ok hB hs
      obtain ⟨e3, h5, h6, h7⟩ := dv_back t (by rw [e1] at hB; exact hB.tail) n (h - 1) e2
      rw [e1, List.length_cons] at h4
      have hkd : b.getD 0 0 = kd := by rw [e1]; rfl
      have hbody : ((b.drop (0 + h)).take n).length = n := by rw [List.length_take, List.length_drop, e1, List.length_cons]; omega
      have hrec := Record_eq (k := k + 1) [] kd ((b.drop (0 + h)).take n) (by simp) (by omega)
      rw [hbody, if_neg (by omega), List.nil_append, show cs [] = ([] : List Int) from rfl] at hrec
      have heq : rb kd ((b.drop (0 + h)).take n) = b.take (h + n) := by
        unfold rb
        rw [hbody, ← e3, e1, show 0 + h = (h - 1) + 1 by omega, List.drop_succ_cons, show h + n = (h - 1 + n) + 1 by omega, List.take_succ_cons, List.take_add]
      rw [if_pos rfl]
      simp only [if_true]
      rw [hkd, hrec, Option.bind_some]
      simp only [if_true]
      rw [cs_len, e1, List.length_cons, if_neg (by omega), mx0, if_pos (by omega), if_pos (by omega), Int.toNat_natCast, ← e1, cs_take, show 0 + (h + n) = h + n by omega, heq, same_self, Option.bind_some, if_pos rfl]
      exact j2
    · rw [if_neg h1]
      simp only
      rw [if_neg (by omega)]
      exact j2
  -- a signed number
  have j0 : palletlaw02_WireAgain.j0 (k + 3) (cs b) true false = some true := by
    have r := TakeSign_eq (k := k + 2) b hB (by omega) 0 (by omega)
    rw [show ((0 : Nat) : Int) = 0 from rfl, List.drop_zero] at r
    rw [palletlaw02_WireAgain.j0, if_neg (by decide), r, Option.bind_some]
    unfold ress
    rcases hd : dv 0 0 b with ⟨n, x, e⟩
    simp only
    by_cases h1 : e = 0
    · subst h1
      obtain ⟨e3, h5, h6, h7⟩ := dv_back b hB n x hd
      have u := uz_in h7
      have w := Sign_eq (k := k + 2) [] [uz n] (fun y hy => by simp at hy; subst hy; exact u) (by simp) (by simp) (by simp; omega)
      rw [List.nil_append, show vbs ([uz n].map zz) = vb n by simp [vbs, zz_uz], show cs [] = ([] : List Int) from rfl] at w
      rw [if_pos rfl]
      simp only [if_true]
      rw [cs_len, Int.zero_add, if_neg (by omega), w, Option.bind_some, mx0, if_pos (by omega), if_pos (by omega), Int.toNat_natCast, cs_take, e3, same_self, Option.bind_some]
      exact j1
    · rw [if_neg h1]
      simp only
      rw [if_neg (by omega)]
      exact j1
  -- a number
  have r := TakeVary_eq (k := k + 4) b hB (by omega) 0 (by omega)
  rw [show ((0 : Nat) : Int) = 0 from rfl, List.drop_zero] at r
  rw [r, Option.bind_some]
  unfold res
  rcases hd : dv 0 0 b with ⟨n, x, e⟩
  simp only
  have j0' : palletlaw02_WireAgain.j0 (k + 4) (cs b) true false = some true := (palletlaw02_WireAgain.mono_l (k + 3)).1 _ _ _ _ j0
  by_cases h1 : e = 0
  · subst h1
    obtain ⟨e3, h5, h6, h7⟩ := dv_back b hB n x hd
    have w := Vary_eq (k := k + 4) [] [n] (fun y hy => by simp at hy; omega) (by simp) (by simp) (by simp; omega)
    rw [List.nil_append, show vbs [n] = vb n by simp [vbs], show cs [] = ([] : List Int) from rfl, show cs [n] = [(n : Int)] from rfl] at w
    rw [if_pos rfl]
    simp only [if_true]
    rw [Int.zero_add, if_neg (by omega), w, Option.bind_some, mx0, if_pos (by omega), if_pos (by omega), Int.toNat_natCast, cs_take, e3, same_self, Option.bind_some]
    exact j0'
  · rw [if_neg h1]
    simp only
    rw [if_neg (by omega)]
    exact j0'
end Go.Proofs.Ytnmepjpjpillcaa.Pure
