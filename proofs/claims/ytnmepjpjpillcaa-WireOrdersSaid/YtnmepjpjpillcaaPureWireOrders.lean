/- Of two numbers the greater one has no fewer bytes, and of as many its bytes come later, octet by octet; no number's bytes are another one's beginning; of a width likewise. Conditions: none but that each number is of its kind. -/
import Derived.Test.YtnmepjpjpillcaaWire
import Derived.Test.YtnmepjpjpillcaaLive02
import Derived.Test.YtnmepjpjpillcaaPrint0
import Derived.Test.YtnmepjpjpillcaaPrint3
import Derived.Test.YtnmepjpjpillcaaPrint6
set_option linter.unusedVariables false
set_option linter.unusedSimpArgs false
namespace Go.Proofs.Ytnmepjpjpillcaa.Pure
open Go.RowKit Go.Proofs.Ytnmepjpjpillcaa.Print Go.Proofs.YtnmepjpjpillcaaW.PrintWords Go.Proofs.YtnmepjpjpillcaaW.PrintLast Go.Proofs.YtnmepjpjpillcaaW.PrintMore

open Go Go.Proofs.Ytnmepjpjpillcaa.Wire Go.Proofs.Ytnmepjpjpillcaa.Digits
theorem wfu64n {x : Int} (h : (Lit.int .u64 x).wf = true) : ∃ n : Nat, x = n ∧ n < 18446744073709551616 := by
  have h : 0 ≤ x ∧ x ≤ 18446744073709551615 := by simpa [Lit.wf, IntKind.min, IntKind.max, IntKind.signed, IntKind.bits] using h
  exact ⟨x.toNat, by omega, by omega⟩
theorem cs_len (l : List Nat) : (cs l).length = l.length := by unfold cs; rw [List.length_map]
theorem WireOrders : ∀ (a0 : Int) (a1 : Int), (Lit.int .u64 a0).wf = true → (Lit.int .u64 a1).wf = true → ∃ k, palletlaw02_WireOrders.f k a0 a1 = some true := by
  intro a0 a1 h0 h1
  obtain ⟨a, rfl, ha⟩ := wfu64n h0
  obtain ⟨b, rfl, hb⟩ := wfu64n h1
  obtain ⟨k, hk⟩ : ∃ k : Nat, k = 200 := ⟨200, rfl⟩
  refine ⟨k + 2, ?_⟩
  obtain ⟨i, i9, ei, i1, i2⟩ := vary_one a ha (k := k + 2) (by omega)
  obtain ⟨j, j9, ej, j1, j2⟩ := vary_one b hb (k := k + 2) (by omega)
  have lo : a < b → i ≤ j := by
    intro h
    by_cases c : i ≤ j
    · exact c
    · rcases i2 with h2 | h2
      · omega
      · have := Nat.pow_le_pow_right (n := 128) (by decide) (show j + 1 ≤ i by omega)
        omega
  have fin : decide ((a : Int) < (b : Int)) = Op.bytesLess (strOfNums (cs (G 256 (fun _ => 0) 7 a))).toList (strOfNums (cs (G 256 (fun _ => 0) 7 b))).toList := by
    unfold cs
    rw [less_lx _ _ (G_lt 256 _ zero_lt a 7) (G_lt 256 _ zero_lt b 7), lx_G 256 (by decide), show 256 ^ (7 + 1) = 18446744073709551616 by decide, Nat.mod_eq_of_lt ha, Nat.mod_eq_of_lt hb, decide_eq_decide]
    omega
  have last : palletlaw02_WireOrders.j1 (k + 1) a b true (cs (G 128 off7 i a)) (cs (G 128 off7 j b)) (cs (G 256 (fun _ => 0) 7 a)) (cs (G 256 (fun _ => 0) 7 b)) false = some true := by
    simp only [palletlaw02_WireOrders.j1]
    rw [if_neg (by decide), ← fin, beq_self_eq_true, if_pos trivial]
    by_cases h : (a : Int) = b
    · rw [if_pos h]
    rw [if_neg h, cs_len, cs_len, G_len, G_len]
    by_cases c : ((i + 1 : Nat) : Int) ≤ ((j + 1 : Nat) : Int)
    · rw [if_pos c, if_pos (by omega), Int.toNat_natCast]
      have hne : ¬ ((strOfNums (cs (G 128 off7 i a))).toList == (strOfNums ((cs (G 128 off7 j b)).take (i + 1))).toList) = true := by
        intro q
        rw [beq_iff_eq] at q
        have et : (cs (G 128 off7 j b)).take (i + 1) = cs ((G 128 off7 j b).take (i + 1)) := by unfold cs; rw [List.map_take]
        rw [et] at q
        have e := bytes_inj _ _ (G_lt 128 off7 off7_lt a i) (fun x hx => G_lt 128 off7 off7_lt b j x (List.mem_of_mem_take hx)) q
        by_cases hij : i = j
        · subst hij
          rw [List.take_of_length_le (by rw [G_len]; exact Nat.le_refl _)] at e
          have := G_inj 128 (by decide) off7 a b i e
          rw [Nat.mod_eq_of_lt i1, Nat.mod_eq_of_lt j1] at this
          omega
        · have g1 := G_get 128 off7 a i i (Nat.le_refl _)
          have g2 := G_get 128 off7 b j i (by omega)
          rw [e, List.getD_eq_getElem?_getD, List.getElem?_take_of_lt (by omega), ← List.getD_eq_getElem?_getD, g2] at g1
          rw [Nat.sub_self] at g1
          unfold off7 at g1
          rw [if_neg (by omega), if_pos rfl] at g1
          omega
      unfold palletref02_Same.f
      rw [Option.bind_some, if_neg hne]
    · rw [if_neg c]
  unfold palletlaw02_WireOrders.f
  rw [live2 (by omega)]
  simp only [Option.bind_some, if_true]
  rw [ei, ej, fixed8 a ha (by omega), fixed8 b hb (by omega)]
  simp only [Option.bind_some, if_true]
  rw [cs_len, cs_len, cs_len, cs_len, G_len, G_len, G_len, G_len, if_neg (by omega), if_neg (by omega), if_pos (by decide), show (((7 + 1 : Nat) : Int) != 8) = false by decide]
  simp only [palletlaw02_WireOrders.j0]
  rw [if_neg (by decide)]
  by_cases h : (a : Int) < b
  · have hl := lo (by omega)
    rw [if_pos h, cs_len, cs_len, G_len, G_len, if_neg (by omega)]
    by_cases c : ((i + 1 : Nat) : Int) = ((j + 1 : Nat) : Int)
    · obtain rfl : i = j := by omega
      have e : Op.bytesLess (strOfNums (cs (G 128 off7 i a))).toList (strOfNums (cs (G 128 off7 i b))).toList = true := by
        unfold cs
        rw [less_lx _ _ (G_lt 128 _ off7_lt a i) (G_lt 128 _ off7_lt b i), lx_G 128 (by decide), Nat.mod_eq_of_lt i1, Nat.mod_eq_of_lt j1, decide_eq_true_eq]
        omega
      rw [if_pos c, e]
      exact last
    · rw [if_neg c]
      exact last
  · rw [if_neg h]
    exact last
end Go.Proofs.Ytnmepjpjpillcaa.Pure
