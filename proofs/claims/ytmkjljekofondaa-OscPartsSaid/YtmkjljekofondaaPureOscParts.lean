/- Run in parts, whatever they are, a clock comes to the same as at once: as many picoseconds together, and as much left, exactly. Conditions: none but that each number is of its kind, and the list's length a slice's. -/
import Derived.Test.YtmkjljekofondaaOsc
import Derived.Test.YtmkjljekofondaaPrint0
import Derived.Test.YtmkjljekofondaaPrint8
import Derived.Test.YtmkjljekofondaaPrint9
set_option linter.unusedVariables false
set_option linter.unusedSimpArgs false
namespace Go.Proofs.Ytmkjljekofondaa.Pure
open Go.RowKit Go.Proofs.Ytmkjljekofondaa.Print Go.Proofs.YtmkjljekofondaaW.PrintWords Go.Proofs.YtmkjljekofondaaW.PrintLast Go.Proofs.YtmkjljekofondaaW.PrintMore Go.Proofs.Ytmkjljekofondaa.Medl

open Go.Proofs.Ytmkjljekofondaa.Osc Go.Proofs.Ytmkjljekofondaa.Div64
def sm : List Int → Int
  | [] => 0
  | x :: l => x + sm l
theorem sm_nonneg : ∀ l : List Int, (∀ x ∈ l, 0 ≤ x) → 0 ≤ sm l
  | [], _ => by simp [sm]
  | x :: l, h => by
    have h1 := h x (by simp)
    have h2 := sm_nonneg l (fun y hy => h y (by simp [hy]))
    simp only [sm]
    omega
theorem sm_le (c : Int) (c0 : 0 ≤ c) : ∀ l : List Int, (∀ x ∈ l, x ≤ c) → sm l ≤ c * l.length
  | [], _ => by simp [sm]
  | x :: l, h => by
    have h1 := h x (by simp)
    have h2 := sm_le c c0 l (fun y hy => h y (by simp [hy]))
    simp only [sm, List.length_cons]
    rw [Int.natCast_add, Int.mul_add]
    omega
theorem dr {xs : List Int} {i : Nat} (h : i < xs.length) : xs.drop i = rd xs (i : Int) :: xs.drop (i + 1) := by
  rw [List.drop_eq_getElem_cons h]
  unfold rd
  rw [Int.toNat_natCast, List.getD_eq_getElem?_getD, List.getElem?_eq_getElem h]
  rfl
section
variable {p d : Int}
theorem many_tot (hd : -9223372036854775808 ≤ d ∧ d ≤ 9223372036854775807) (l : List Int) (hl : l.length ≤ 100) : ∀ (n k i : Nat) (r : Int) (x8 : List Int), i ≤ l.length → l.length - i = n → n + 60 ≤ k → x8.length = l.length → ∃ res, osc_Many.l0 k x8 l (l.length : Int) (i : Int) p d r = some res := by
  intro n
  induction n with
  | zero =>
    intro k i r x8 hi hn hk hx
    obtain ⟨k, rfl⟩ : ∃ j, k = j + 1 := ⟨k - 1, by omega⟩
    simp only [osc_Many.l0]
    rw [if_neg (by omega)]
    exact ⟨_, rfl⟩
  | succ n ih =>
    intro k i r x8 hi hn hk hx
    obtain ⟨k, rfl⟩ : ∃ j, k = j + 1 := ⟨k - 1, by omega⟩
    have r0 := fun r y => ih k (i + 1) r (x8.set i y) (by omega) (by omega) (by omega) (by rw [List.length_set]; exact hx)
    simp only [osc_Many.l0]
    rw [if_pos (by omega), if_pos (by omega), if_pos (by omega), run_eq (by omega) hd, Option.bind_some, if_pos (by omega)]
    by_cases h : (run p d r (rd l (i : Int))).2.2.2.2 = 0
    · rw [if_pos h, w64 (by omega) (by omega), Int.toNat_natCast, show (i : Int) + 1 = ((i + 1 : Nat) : Int) by omega]
      have e : (run p d r (rd l (i : Int))).2.1 = p ∧ (run p d r (rd l (i : Int))).2.2.1 = d := by
        generalize rd l (i : Int) = t at h ⊢
        unfold run at h ⊢
        by_cases h1 : Oc p d r ∧ 0 ≤ t ∧ t ≤ 1099511627776
        · rw [if_pos h1] at h ⊢
          by_cases h2 : (rt p d * t + r) / 1000000000 > 1152921504606846976
          · rw [if_pos h2] at h
            exact absurd h (show ¬ (2 : Int) = 0 by decide)
          · rw [if_neg h2]
            exact ⟨rfl, rfl⟩
        · rw [if_neg h1] at h
          exact absurd h (show ¬ (1 : Int) = 0 by decide)
      rw [e.1, e.2]
      exact r0 _ _
    · rw [if_neg h]
      exact ⟨_, rfl⟩
theorem many_ok (h1 : 1 ≤ p ∧ p ≤ 1000000000 ∧ -1000000 ≤ d ∧ d ≤ 1000000) (l : List Int) (hl : l.length ≤ 100) (hall : ∀ x ∈ l, 0 ≤ x ∧ x ≤ 8589934592) : ∀ (n k i : Nat) (r : Int) (done : List Int), i ≤ l.length → l.length - i = n → n + 60 ≤ k → done.length = i → 0 ≤ r → r < 1000000000 → rt p d * sm (l.drop i) + r < 1152921504606846977 * 1000000000 →
    ∃ xs r', osc_Many.l0 k (done ++ List.replicate n 0) l (l.length : Int) (i : Int) p d r = some (done ++ xs, p, d, r', 0) ∧ xs.length = n ∧ 1000000000 * sm xs + r' = rt p d * sm (l.drop i) + r ∧ 0 ≤ r' ∧ r' < 1000000000 ∧ ∀ x ∈ xs, 0 ≤ x := by
  intro n
  induction n with
  | zero =>
    intro k i r done hi hn hk hx r0 r1 hb
    obtain ⟨k, rfl⟩ : ∃ j, k = j + 1 := ⟨k - 1, by omega⟩
    refine ⟨[], r, ?_, rfl, ?_, r0, r1, by simp⟩
    · simp only [osc_Many.l0]
      rw [if_neg (by omega)]
      simp
    · rw [List.drop_of_length_le (by omega)]
      simp [sm]
  | succ n ih =>
    intro k i r done hi hn hk hx r0 r1 hb
    obtain ⟨k, rfl⟩ : ∃ j, k = j + 1 := ⟨k - 1, by omega⟩
    have ed := dr (xs := l) (i := i) (by omega)
    have hv := hall (rd l (i : Int)) (List.mem_of_mem_drop (i := i) (by rw [ed]; simp))
    have hs := sm_nonneg (l.drop (i + 1)) (fun x hx => (hall x (List.mem_of_mem_drop hx)).1)
    have len : (done ++ List.replicate (n + 1) 0).length = l.length := by rw [List.length_append, List.length_replicate]; omega
    have hO : Oc p d r := ⟨h1.1, h1.2.1, h1.2.2.1, h1.2.2.2, r0, r1⟩
    have bd := rt_bound hO
    rw [ed] at hb ⊢
    simp only [sm] at hb ⊢
    rw [Int.mul_add] at hb ⊢
    generalize rd l (i : Int) = t at hv hb ⊢ ed
    have z1 : 0 ≤ rt p d * t := Int.mul_nonneg (by omega) hv.1
    have z2 : 0 ≤ rt p d * sm (l.drop (i + 1)) := Int.mul_nonneg (by omega) hs
    have hr : run p d r t = ((rt p d * t + r) / 1000000000, p, d, (rt p d * t + r) % 1000000000, 0) := by
      have c : Oc p d r ∧ 0 ≤ t ∧ t ≤ 1099511627776 := ⟨hO, hv.1, by omega⟩
      unfold run
      rw [if_pos c, if_neg (by omega)]
    obtain ⟨xs, r', e1, e2, e3, e4, e5, e6⟩ := ih k (i + 1) ((rt p d * t + r) % 1000000000) (done ++ [(rt p d * t + r) / 1000000000]) (by omega) (by omega) (by omega) (by simp [hx]) (by omega) (by omega) (by omega)
    refine ⟨(rt p d * t + r) / 1000000000 :: xs, r', ?_, by simp [e2], ?_, e4, e5, ?_⟩
    · have hrd : rd l (i : Int) = t := by
        have : l.drop i = t :: l.drop (i + 1) := ed
        have q := dr (xs := l) (i := i) (by omega)
        rw [this] at q
        exact (List.cons.inj q).1.symm
      simp only [osc_Many.l0]
      rw [if_pos (by omega), if_pos (by omega), if_pos (by omega), hrd, run_eq (by omega) ⟨by omega, by omega⟩, Option.bind_some, if_pos (by omega), hr]
      simp only
      rw [if_pos trivial, w64 (by omega) (by omega), Int.toNat_natCast, show (i : Int) + 1 = ((i + 1 : Nat) : Int) by omega]
      have es : (done ++ List.replicate (n + 1) 0).set i ((rt p d * t + r) / 1000000000) = (done ++ [(rt p d * t + r) / 1000000000]) ++ List.replicate n 0 := by
        rw [List.replicate_succ, ← hx, List.set_append_right _ _ (Nat.le_refl _), Nat.sub_self, List.set_cons_zero, List.append_assoc]
        rfl
      rw [es, e1, List.append_assoc]
      rfl
    · simp only [sm]
      omega
    · intro x hx2
      rcases List.mem_cons.1 hx2 with rfl | h2
      · exact Int.ediv_nonneg (by omega) (by decide)
      · exact e6 x h2
theorem parts_l1 (l xs : List Int) (hxs : ∀ x ∈ xs, 0 ≤ x) (r' : Int) (hl : xs.length = l.length) (hlen : l.length ≤ 100) (hb : sm xs ≤ 1152921504606846976) : ∀ (n k i : Nat) (acc : Int), i ≤ xs.length → xs.length - i = n → n < k → 0 ≤ acc → acc + sm (xs.drop i) = sm xs →
    palletlaw06_OscParts.l1 k l true xs (sm xs) acc xs (xs.length : Int) (i : Int) p d r' p d r' = some true := by
  intro n
  induction n with
  | zero =>
    intro k i acc hi hn hk h0 h1
    obtain ⟨k, rfl⟩ : ∃ j, k = j + 1 := ⟨k - 1, by omega⟩
    rw [List.drop_of_length_le (by omega)] at h1
    simp only [sm] at h1
    simp only [palletlaw06_OscParts.l1]
    rw [if_neg (by omega), if_pos trivial, if_pos (by omega), if_pos (by omega)]
    simp
  | succ n ih =>
    intro k i acc hi hn hk h0 h1
    obtain ⟨k, rfl⟩ : ∃ j, k = j + 1 := ⟨k - 1, by omega⟩
    have ed := dr (xs := xs) (i := i) (by omega)
    have hv := hxs (rd xs (i : Int)) (List.mem_of_mem_drop (i := i) (by rw [ed]; simp))
    have hs := sm_nonneg (xs.drop (i + 1)) (fun x hx => hxs x (List.mem_of_mem_drop hx))
    rw [ed] at h1
    simp only [sm] at h1
    simp only [palletlaw06_OscParts.l1]
    rw [if_pos (by omega), if_pos (by omega), if_pos (by omega), w64 (x := acc + _) (by omega) (by omega), w64 (by omega) (by omega), show (i : Int) + 1 = ((i + 1 : Nat) : Int) by omega]
    exact ih k (i + 1) _ (by omega) (by omega) (by omega) (by omega) (by omega)
theorem parts_l0 {r : Int} (hO : Oc p d r) (l : List Int) (hl : l.length ≤ 100) : ∀ (n k i : Nat) (acc : Int), i ≤ l.length → l.length - i = n → n + 300 ≤ k → 0 ≤ acc → acc ≤ 8589934592 * i → acc = sm l - sm (l.drop i) → (∀ x ∈ l.take i, 0 ≤ x ∧ x ≤ 8589934592) →
    palletlaw06_OscParts.l0 k l true acc l (l.length : Int) (i : Int) p d r = some true := by
  intro n
  induction n with
  | zero =>
    intro k i acc hi hn hk h0 h1 h2 h3
    obtain ⟨k, rfl⟩ : ∃ j, k = j + 2 := ⟨k - 2, by omega⟩
    obtain rfl : i = l.length := by omega
    rw [List.take_length] at h3
    rw [List.drop_length] at h2
    simp only [sm] at h2
    obtain rfl : acc = sm l := by omega
    obtain ⟨a1, a2, a3, a4, a5, a6⟩ := id hO
    have bd := rt_bound hO
    have z : 0 ≤ rt p d * sm l := Int.mul_nonneg (by omega) h0
    simp only [palletlaw06_OscParts.l0]
    have hd : -9223372036854775808 ≤ d ∧ d ≤ 9223372036854775807 := ⟨by omega, by omega⟩
    have c : Oc p d r ∧ 0 ≤ sm l ∧ sm l ≤ 1099511627776 := ⟨hO, h0, by omega⟩
    have many : osc_Many.f (k + 1) p d r l = osc_Many.l0 (k + 1) ([] ++ List.replicate l.length 0) l (l.length : Int) ((0 : Nat) : Int) p d r := by
      unfold osc_Many.f
      rw [ocheck hd, if_pos hO, Option.bind_some, if_pos rfl, if_pos (by omega), if_pos (by omega), Int.toNat_natCast]
      rfl
    rw [if_neg (by omega), many, run_eq (by omega) hd]
    by_cases hov : (rt p d * sm l + r) / 1000000000 > 1152921504606846976
    · have hr : run p d r (sm l) = (0, 0, 0, 0, 2) := by unfold run; rw [if_pos c, if_pos hov]
      obtain ⟨res, er⟩ := many_tot (p := p) hd l hl l.length (k + 1) 0 r ([] ++ List.replicate l.length 0) (by omega) (by omega) (by omega) (by simp)
      rw [er, hr]
      simp only [Option.bind_some, palletlaw06_OscParts.j2]
      split <;> simp
    · have hr : run p d r (sm l) = ((rt p d * sm l + r) / 1000000000, p, d, (rt p d * sm l + r) % 1000000000, 0) := by unfold run; rw [if_pos c, if_neg hov]
      obtain ⟨xs, r', e1, e2, e3, e4, e5, e6⟩ := many_ok ⟨a1, a2, a3, a4⟩ l hl h3 l.length (k + 1) 0 r [] (by omega) (by omega) (by omega) rfl a5 a6 (by rw [List.drop_zero]; omega)
      rw [List.drop_zero] at e3
      rw [e1, hr]
      simp only [Option.bind_some, List.nil_append, palletlaw06_OscParts.j2]
      have f1 : (rt p d * sm l + r) / 1000000000 = sm xs := by omega
      have f2 : (rt p d * sm l + r) % 1000000000 = r' := by omega
      rw [if_pos trivial, show ((0 : Int) != 0) = false by decide, if_neg (by decide), f1, f2]
      exact parts_l1 l xs e6 r' e2 hl (by omega) xs.length k 0 0 (by omega) (by omega) (by omega) (by omega) (by rw [List.drop_zero]; omega)
  | succ n ih =>
    intro k i acc hi hn hk h0 h1 h2 h3
    obtain ⟨k, rfl⟩ : ∃ j, k = j + 1 := ⟨k - 1, by omega⟩
    have ed := dr (xs := l) (i := i) (by omega)
    simp only [palletlaw06_OscParts.l0]
    rw [if_pos (by omega), if_pos (by omega), if_pos (by omega)]
    by_cases c1 : rd l (i : Int) < 0
    · rw [if_pos c1]
    rw [if_neg c1]
    by_cases c2 : rd l (i : Int) > 8589934592
    · rw [if_pos c2]
    rw [if_neg c2, w64 (x := acc + _) (by omega) (by omega), w64 (by omega) (by omega), show (i : Int) + 1 = ((i + 1 : Nat) : Int) by omega]
    rw [ed] at h2
    simp only [sm] at h2
    refine ih k (i + 1) _ (by omega) (by omega) (by omega) (by omega) (by omega) (by omega) ?_
    intro x hx
    rw [List.take_add_one] at hx
    rcases List.mem_append.1 hx with h | h
    · exact h3 x h
    · have : l[i]? = some (rd l (i : Int)) := by
        unfold rd
        rw [Int.toNat_natCast, List.getD_eq_getElem?_getD, List.getElem?_eq_getElem (by omega)]
        rfl
      rw [this] at h
      simp at h
      subst h
      omega
end
theorem OscParts : ∀ (a0_0 : Int) (a0_1 : Int) (a0_2 : Int) (l1 : List Int), (Lit.int .i64 a0_0).wf = true → (Lit.int .i64 a0_1).wf = true → (Lit.int .i64 a0_2).wf = true → l1.length ≤ maxLen → l1.length * 8 ≤ 140737488351232 → (∀ y ∈ l1, (Lit.int .i64 y).wf = true) → ∃ k, palletlaw06_OscParts.f k a0_0 a0_1 a0_2 l1 = some true := by
  intro p d r l _ hd _ _ _ _
  have hd := wf64 hd
  obtain ⟨k, hk⟩ : ∃ k : Nat, k = 500 := ⟨500, rfl⟩
  refine ⟨k + 1, ?_⟩
  unfold palletlaw06_OscParts.f
  rw [live6 (by omega)]
  simp only [Option.bind_some, if_true]
  rw [ocheck hd]
  have no : palletlaw06_OscParts.j0 (k + 1) l true true p d r = some true := by simp [palletlaw06_OscParts.j0]
  by_cases h : Oc p d r
  case neg =>
    rw [if_neg h, Option.bind_some, if_neg (by decide), no]
  rw [if_pos h, Option.bind_some, if_pos rfl]
  by_cases h1 : (l.length : Int) > 100
  · rw [decide_eq_true h1, no]
  rw [decide_eq_false h1]
  simp only [palletlaw06_OscParts.j0]
  rw [if_neg (by decide)]
  exact parts_l0 h l (by omega) l.length k 0 0 (by omega) (by omega) (by omega) (by omega) (by omega) (by rw [List.drop_zero]; omega) (by simp)
end Go.Proofs.Ytmkjljekofondaa.Pure
