/- Any numbers written behind any text, of any width, as few bytes, and signed, and any record, are as the document says; the text stays as it was. Conditions: none but that each number is of its kind. -/
import Derived.Test.YtnmepjpjpillcaaFew02
import Derived.Test.YtnmepjpjpillcaaPrint0
import Derived.Test.YtnmepjpjpillcaaPrint10
set_option linter.unusedVariables false
set_option linter.unusedSimpArgs false
namespace Go.Proofs.Ytnmepjpjpillcaa.Pure
open Go.RowKit Go.Proofs.Ytnmepjpjpillcaa.Print Go.Proofs.YtnmepjpjpillcaaW.PrintWords Go.Proofs.YtnmepjpjpillcaaW.PrintLast Go.Proofs.YtnmepjpjpillcaaW.PrintMore
open Go Go.Proofs.Ytnmepjpjpillcaa.Len64 Go.Proofs.Ytnmepjpjpillcaa.Wire Go.Proofs.Ytnmepjpjpillcaa.WireSpec Go.Proofs.Ytnmepjpjpillcaa.Wire2 Go.Proofs.Ytnmepjpjpillcaa.Wire3 Go.Proofs.Ytnmepjpjpillcaa.Wire4
theorem ww_l1 (x0 : List Int) (m d : Nat) : ∀ (k i : Nat) (x : List Int), x.length = m → m ≤ 1000000000000 → m - i = d → i ≤ m → d < k → palletlaw02_WireWrites.l1 k x0 true x0 x true (m : Int) (i : Int) = some true := by
  induction d with
  | zero =>
    intro k i x hx hm hd hi hk
    obtain ⟨k, rfl⟩ : ∃ j, k = j + 1 := ⟨k - 1, by omega⟩
    simp only [palletlaw02_WireWrites.l1]
    rw [if_neg (by omega), if_pos trivial, if_pos trivial, same_self]
    rfl
  | succ d ih =>
    intro k i x hx hm hd hi hk
    obtain ⟨k, rfl⟩ : ∃ j, k = j + 1 := ⟨k - 1, by omega⟩
    simp only [palletlaw02_WireWrites.l1]
    rw [if_pos (by omega), if_pos (by omega), if_pos (by omega), w64 (by omega) (by omega), show (i : Int) + 1 = ((i + 1 : Nat) : Int) by omega]
    exact ih k (i + 1) _ (by rw [List.length_set]; exact hx) hm (by omega) (by omega) (by omega)
theorem ww_l0 (b : List Nat) (w : Int) (ns : List Nat) (ss : List Int) (kind : Nat) (body : List Nat) (hb : b.length ≤ 3000) (hB : By b) (hns : ∀ n ∈ ns, n < 18446744073709551616) (hss : ws ss) (hl : ns.length + ss.length ≤ 500) (hk8 : kind < 256) (hbody : By body) (hbl : body.length ≤ 1048586)
    (d : Nat) : ∀ (k i : Nat), i ≤ ns.length → ns.length - i = d → d + 20000 ≤ k → palletlaw02_WireWrites.l0 k (cs b) w (cs ns) ss (kind : Int) (cs body) true (cs b) (cs ns) (ns.length : Int) (i : Int) = some true := by
  induction d with
  | zero =>
    intro k i hi hd hk
    obtain ⟨k, rfl⟩ : ∃ j, k = j + 2 := ⟨k - 2, by omega⟩
    simp only [palletlaw02_WireWrites.l0]
    rw [if_neg (by omega), Record_eq b kind body (by omega) (by omega), RRecord_eq b kind body (by omega) (by omega), Vary_eq b ns hns (by omega) (by omega) (by omega), RVary_eq b ns hns (by omega) (by omega) (by omega), Sign_eq b ss hss (by omega) (by omega) (by omega), RSign_eq b ss hss (by omega) (by omega) (by omega)]
    simp only [Option.bind_some, same_self, if_true]
    have e : palletlaw02_WireWrites.j2 (k + 1) (cs b) true (cs b) (cs (b ++ vbs ns)) true = some true := by
      have hv := vbs_len ns hns
      simp only [palletlaw02_WireWrites.j2]
      rw [cs_len]
      exact ww_l1 (cs b) (b ++ vbs ns).length (b ++ vbs ns).length k 0 (cs (b ++ vbs ns)) (cs_len _) (by rw [List.length_append]; omega) (by omega) (by omega) (by rw [List.length_append]; omega)
    exact e
  | succ d ih =>
    intro k i hi hd hk
    obtain ⟨k, rfl⟩ : ∃ j, k = j + 1 := ⟨k - 1, by omega⟩
    have hlt : i < ns.length := by omega
    have hm := hns _ (getD_mem ns i hlt)
    simp only [palletlaw02_WireWrites.l0]
    rw [if_pos (by omega), if_pos (by omega), cs_len, if_pos (by omega), cs_rd, Fixed_eq b w _ hm (by omega) (by omega), RFixed_eq b w _ hm (by omega) (by omega)]
    simp only [Option.bind_some, same_self, if_true]
    rw [w64 (by omega) (by omega), show (i : Int) + 1 = ((i + 1 : Nat) : Int) by omega]
    exact ih k (i + 1) (by omega) (by omega) (by omega)
theorem WireWrites : ∀ (l0 : List Int) (a1 : Int) (l2 : List Int) (l3 : List Int) (a4 : Int) (l5 : List Int), l0.length ≤ maxLen → l0.length * 1 ≤ 140737488351232 → (∀ y ∈ l0, (Lit.int .u8 y).wf = true) → (Lit.int .i64 a1).wf = true → l2.length ≤ maxLen → l2.length * 8 ≤ 140737488351232 → (∀ y ∈ l2, (Lit.int .u64 y).wf = true) → l3.length ≤ maxLen → l3.length * 8 ≤ 140737488351232 → (∀ y ∈ l3, (Lit.int .i64 y).wf = true) → (Lit.int .u8 a4).wf = true → l5.length ≤ maxLen → l5.length * 1 ≤ 140737488351232 → (∀ y ∈ l5, (Lit.int .u8 y).wf = true) → ∃ k, palletlaw02_WireWrites.f k l0 a1 l2 l3 a4 l5 = some true := by
  intro l0 w l2 l3 a4 l5 h0m h0b h0 hw h2m h2b h2 h3m h3b h3 h4 h5m h5b h5
  obtain ⟨b, rfl, hB⟩ := bytes_of h0
  obtain ⟨ns, rfl, hns⟩ := u64s_of h2
  obtain ⟨body, rfl, hbody⟩ := bytes_of h5
  obtain ⟨kind, rfl, hkind⟩ := u8_of h4
  have hss : ws l3 := fun x hx => i64_of (h3 x hx)
  obtain ⟨k, hk⟩ : ∃ k : Nat, k = 30000 := ⟨30000, rfl⟩
  refine ⟨k + 1, ?_⟩
  have yes : palletlaw02_WireWrites.j0 (k + 1) (cs b) w (cs ns) l3 kind (cs body) true true = some true := by
    simp only [palletlaw02_WireWrites.j0]
    rw [if_pos trivial]
  unfold palletlaw02_WireWrites.f
  rw [live2 (by omega), Option.bind_some, few1 (by omega), Option.bind_some, cs_len, cs_len, cs_len]
  by_cases c1 : b.length ≤ 3000
  case neg => rw [decide_eq_false c1, if_neg (by decide), yes]
  rw [decide_eq_true c1, if_pos rfl]
  by_cases c2 : (body.length : Int) > 1048586
  · rw [if_pos c2, yes]
  rw [cs_len] at h2b
  rw [if_neg c2, w64 (by omega) (by omega)]
  by_cases c3 : ((ns.length : Int) + (l3.length : Int)) > 500
  · rw [decide_eq_true c3, yes]
  rw [decide_eq_false c3]
  simp only [palletlaw02_WireWrites.j0]
  rw [if_neg (by decide), cs_len, cs_len, if_pos (by rw [List.length_nil]; omega), List.nil_append]
  exact ww_l0 b w ns l3 kind body c1 hB hns hss (by omega) hkind hbody (by omega) ns.length k 0 (by omega) (by omega) (by omega)
end Go.Proofs.Ytnmepjpjpillcaa.Pure
