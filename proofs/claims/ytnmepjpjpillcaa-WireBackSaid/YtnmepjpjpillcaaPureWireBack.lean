/- What is written is read, whatever stands ahead, and behind: numbers, signed ones, and records. Conditions: none but that each number is of its kind. -/
import Derived.Test.YtnmepjpjpillcaaFew02
import Derived.Test.YtnmepjpjpillcaaWire5
import Derived.Test.YtnmepjpjpillcaaPrint0
import Derived.Test.YtnmepjpjpillcaaPrint16
set_option linter.unusedVariables false
set_option linter.unusedSimpArgs false
namespace Go.Proofs.Ytnmepjpjpillcaa.Pure
open Go.RowKit Go.Proofs.Ytnmepjpjpillcaa.Print Go.Proofs.YtnmepjpjpillcaaW.PrintWords Go.Proofs.YtnmepjpjpillcaaW.PrintLast Go.Proofs.YtnmepjpjpillcaaW.PrintMore
open Go Go.Proofs.Ytnmepjpjpillcaa.Len64 Go.Proofs.Ytnmepjpjpillcaa.Wire Go.Proofs.Ytnmepjpjpillcaa.WireSpec Go.Proofs.Ytnmepjpjpillcaa.Wire2 Go.Proofs.Ytnmepjpjpillcaa.Wire3 Go.Proofs.Ytnmepjpjpillcaa.Wire4 Go.Proofs.Ytnmepjpjpillcaa.Wire5 Go.Proofs.Ytnmepjpjpillcaa.Recs
theorem vbs_split (xs : List Nat) (i : Nat) (h : i < xs.length) : vbs (xs.take (i + 1)) = vbs (xs.take i) ++ vb (xs.getD i 0) := by
  unfold vbs
  rw [List.take_succ_eq_append_getElem h, List.map_append, List.flatten_append, List.getD_eq_getElem?_getD, List.getElem?_eq_getElem h]
  simp
theorem vbs_take_len (xs : List Nat) (i : Nat) : (vbs (xs.take i)).length ≤ (vbs xs).length := by
  conv => rhs; rw [← List.take_append_drop i xs]
  unfold vbs
  rw [List.map_append, List.flatten_append, List.length_append]
  omega
theorem vbs_cut (a u : List Nat) (xs : List Nat) (i : Nat) : (a ++ vbs xs ++ u).drop (a.length + (vbs (xs.take i)).length) = vbs (xs.drop i) ++ u := by
  have e : a ++ vbs xs ++ u = (a ++ vbs (xs.take i)) ++ (vbs (xs.drop i) ++ u) := by
    conv => lhs; rw [← List.take_append_drop i xs]
    unfold vbs
    rw [List.map_append, List.flatten_append]
    simp
  rw [e, show a.length + (vbs (xs.take i)).length = (a ++ vbs (xs.take i)).length by rw [List.length_append], List.drop_left]
section
variable (a u : List Nat) (ha : By a) (hu : By u) (la : a.length ≤ 3000) (lu : u.length ≤ 3000) (ns : List Nat) (hns : ∀ n ∈ ns, n < 18446744073709551616) (ss : List Int) (hss : ws ss) (hl : ns.length + ss.length ≤ 500) (kind : Nat) (hkind : kind < 256) (w : Int)
include ha la hns hl in
theorem wb_l2 (B : List Int) (at' : Int) (hend : (at' == wrap64 ((B.length : Int) - (u.length : Int))) = true) (d : Nat) : ∀ (k i : Nat), i ≤ ns.length → ns.length - i = d → d + 100 ≤ k →
    palletlaw02_WireBack.l2 k (cs a) (cs u) w true B at' (cs ns) (ns.length : Int) (i : Int) = some true := by
  induction d with
  | zero =>
    intro k i hi hd hk
    obtain ⟨k, rfl⟩ : ∃ m, k = m + 1 := ⟨k - 1, by omega⟩
    rw [palletlaw02_WireBack.l2, if_neg (by omega), if_pos rfl, cs_len, hend]
  | succ d ih =>
    intro k i hi hd hk
    obtain ⟨k, rfl⟩ : ∃ m, k = m + 1 := ⟨k - 1, by omega⟩
    have hlt : i < ns.length := by omega
    have hm := hns _ (getD_mem ns i hlt)
    have nx := ih k (i + 1) (by omega) (by omega) (by omega)
    rw [palletlaw02_WireBack.l2, if_pos (by omega), if_pos (by omega), cs_len, if_pos (by omega), cs_rd, Fixed_eq a w _ hm (by omega) (by omega), Option.bind_some, w64 (x := (i : Int) + 1) (by omega) (by omega), show (i : Int) + 1 = ((i + 1 : Nat) : Int) by omega]
    by_cases ok : fxOk w (ns.getD i 0)
    · rw [if_pos ok]
      simp only [if_true]
      have lf : (fx w.toNat (ns.getD i 0)).length = w.toNat := fx_len _ _ (by have := ok.1; omega)
      have hlen : (a ++ fx w.toNat (ns.getD i 0)).length = a.length + w.toNat := by rw [List.length_append, lf]
      have h1 := ok.1
      have h2 := ok.2.1
      rw [cs_len, TakeFixed_eq _ (ha.append (fx_by _ _)) (by omega) _ _ (by omega), Option.bind_some, cs_len]
      have et : tf (a ++ fx w.toNat (ns.getD i 0)) (a.length : Int) w = (((ns.getD i 0 : Nat) : Int), (a.length : Int) + w, 0) := by
        unfold tf
        rw [if_neg (by omega), hlen, if_neg (by omega)]
        have ec : ((a ++ fx w.toNat (ns.getD i 0)).take ((a.length : Int) + w).toNat).drop ((a.length : Int)).toNat = fx w.toNat (ns.getD i 0) := by
          rw [List.take_of_length_le (by omega), Int.toNat_natCast, List.drop_left]
        rw [ec, bv_fx _ _ (by omega) ok.2.2]
      rw [et]
      simp only [if_true]
      rw [if_pos (by rw [hlen]; omega)]
      exact nx
    · rw [if_neg ok]
      simp only
      rw [if_neg (by decide)]
      exact nx
include ha hu la lu hns hss hl hkind in
theorem wb_l1 (d : Nat) : ∀ (k i : Nat), i ≤ ss.length → ss.length - i = d → d + 30000 ≤ k →
    palletlaw02_WireBack.l1 k (cs a) (cs u) (cs ns) (kind : Int) w true (cs (a ++ vbs (ss.map zz) ++ u)) ((a.length + (vbs ((ss.map zz).take i)).length : Nat) : Int) ss (ss.length : Int) (i : Int) = some true := by
  have hz : ∀ n ∈ ss.map zz, n < 18446744073709551616 := fun n hn => by
    obtain ⟨y, hy, rfl⟩ := List.mem_map.1 hn
    exact zz_lt (hss y hy).1 (hss y hy).2
  have lz := vbs_len _ hz
  rw [List.length_map] at lz
  have hB : By (a ++ vbs (ss.map zz) ++ u) := (ha.append (vbs_by _)).append hu
  have lB : (a ++ vbs (ss.map zz) ++ u).length = a.length + (vbs (ss.map zz)).length + u.length := by rw [List.length_append, List.length_append]
  induction d with
  | zero =>
    intro k i hi hd hk
    obtain ⟨k, rfl⟩ : ∃ m, k = m + 2 := ⟨k - 2, by omega⟩
    have hrb : (rb kind u).length = 1 + (vb u.length).length + u.length := rb_len kind u
    have hv := vb_len10 (n := u.length) (by omega)
    have lc : (a ++ rb kind u).length = a.length + (rb kind u).length := List.length_append
    have hB2 : By (a ++ rb kind u ++ u) := (ha.append (rb_by hkind hu)).append hu
    have ed : (a ++ rb kind u ++ u).drop a.length = rb kind u ++ u := by rw [List.append_assoc, List.drop_left]
    rw [palletlaw02_WireBack.l1, if_neg (by omega), Record_eq a kind u (by omega) (by omega), if_neg (show ¬ 1048576 < u.length by omega), Option.bind_some]
    simp only [if_true]
    rw [cs_len, cs_len, cs_len, if_pos (by omega), ← cs_append, TakeRecord_eq _ hB2 (by rw [List.length_append]; omega) a.length (by rw [List.length_append]; omega), Option.bind_some]
    unfold tres
    rw [ed, sp1_rb kind u (by omega) u]
    simp only [if_true]
    have eg : (a ++ rb kind u ++ u).getD a.length 0 = kind := by
      rw [List.append_assoc, List.getD_eq_getElem?_getD, List.getElem?_append_right (Nat.le_refl _), Nat.sub_self]
      rfl
    have eb : ((a ++ rb kind u ++ u).drop (a.length + (1 + (vb u.length).length))).take u.length = u := by
      have e5 : a ++ rb kind u ++ u = (a ++ kind :: vb u.length) ++ (u ++ u) := by unfold rb; simp
      rw [e5, show a.length + (1 + (vb u.length).length) = (a ++ kind :: vb u.length).length by rw [List.length_append, List.length_cons]; omega, List.drop_left, List.take_left]
    rw [eg, if_pos rfl, eb, same_self, Option.bind_some, if_pos rfl]
    have eend : ((((a.length + (1 + (vb u.length).length + u.length) : Nat) : Int)) != ((a ++ rb kind u).length : Int)) = false := by
      rw [bne_eq_false_iff_eq, lc, hrb]
    rw [eend, palletlaw02_WireBack.j3, if_neg (by decide), cs_len]
    refine wb_l2 a u ha la ns hns ss hl w _ _ ?_ ns.length k 0 (by omega) (by omega) (by omega)
    rw [cs_len, lB, List.take_of_length_le (by rw [List.length_map]; omega), w64 (by omega) (by omega), beq_iff_eq]
    omega
  | succ d ih =>
    intro k i hi hd hk
    obtain ⟨k, rfl⟩ : ∃ m, k = m + 1 := ⟨k - 1, by omega⟩
    have hlt : i < ss.length := by omega
    have hm := hss _ (imem ss i hlt)
    have lz1 := vbs_take_len (ss.map zz) (i + 1)
    have ez : (ss.map zz).getD i 0 = zz (ss.getD i 0) := by
      rw [List.getD_eq_getElem?_getD, List.getElem?_map, List.getElem?_eq_getElem hlt, List.getD_eq_getElem?_getD, List.getElem?_eq_getElem hlt]
      rfl
    have esp := vbs_split (ss.map zz) i (by rw [List.length_map]; exact hlt)
    rw [ez] at esp
    have el : (vbs ((ss.map zz).take (i + 1))).length = (vbs ((ss.map zz).take i)).length + (vb (zz (ss.getD i 0))).length := by rw [esp, List.length_append]
    rw [palletlaw02_WireBack.l1, if_pos (by omega), if_pos (by omega), if_pos (by omega), TakeSign_eq _ hB (by omega) _ (by omega), Option.bind_some, vbs_cut, drop_cons (ss.map zz) i (by rw [List.length_map]; exact hlt), ez, vbs_cons, List.append_assoc, dv_vb _ (zz_lt hm.1 hm.2)]
    unfold ress
    simp only [if_true]
    rw [uz_zz, rdn, if_pos rfl, w64 (by omega) (by omega), show (i : Int) + 1 = ((i + 1 : Nat) : Int) by omega, show (((a.length + (vbs ((ss.map zz).take i)).length : Nat) : Int) + ((vb (zz (ss.getD i 0))).length : Int)) = ((a.length + (vbs ((ss.map zz).take (i + 1))).length : Nat) : Int) by rw [el]; omega]
    exact ih k (i + 1) (by omega) (by omega) (by omega)
include ha hu la lu hns hss hl hkind in
theorem wb_l0 (d : Nat) : ∀ (k i : Nat), i ≤ ns.length → ns.length - i = d → d + 31000 ≤ k →
    palletlaw02_WireBack.l0 k (cs a) (cs u) (cs ns) ss (kind : Int) w true (cs (a ++ vbs ns ++ u)) ((a.length + (vbs (ns.take i)).length : Nat) : Int) (cs ns) (ns.length : Int) (i : Int) = some true := by
  have lz := vbs_len _ hns
  have hB : By (a ++ vbs ns ++ u) := (ha.append (vbs_by _)).append hu
  have lB : (a ++ vbs ns ++ u).length = a.length + (vbs ns).length + u.length := by rw [List.length_append, List.length_append]
  induction d with
  | zero =>
    intro k i hi hd hk
    obtain ⟨k, rfl⟩ : ∃ m, k = m + 1 := ⟨k - 1, by omega⟩
    have hz : ∀ n ∈ ss.map zz, n < 18446744073709551616 := fun n hn => by
      obtain ⟨y, hy, rfl⟩ := List.mem_map.1 hn
      exact zz_lt (hss y hy).1 (hss y hy).2
    have ls := vbs_len _ hz
    rw [List.length_map] at ls
    rw [palletlaw02_WireBack.l0, if_neg (by omega), List.take_of_length_le (by omega), cs_len, cs_len, lB, w64 (by omega) (by omega), if_pos (by omega), Sign_eq a ss hss (by omega) (by omega) (by omega), Option.bind_some, cs_len, List.length_append, if_pos (by omega), ← cs_append, cs_len]
    exact wb_l1 a u ha hu la lu ns hns ss hss hl kind hkind w ss.length k 0 (by omega) (by omega) (by omega)
  | succ d ih =>
    intro k i hi hd hk
    obtain ⟨k, rfl⟩ : ∃ m, k = m + 1 := ⟨k - 1, by omega⟩
    have hlt : i < ns.length := by omega
    have hm := hns _ (getD_mem ns i hlt)
    have lz1 := vbs_take_len ns (i + 1)
    have el : (vbs (ns.take (i + 1))).length = (vbs (ns.take i)).length + (vb (ns.getD i 0)).length := by rw [vbs_split ns i hlt, List.length_append]
    rw [palletlaw02_WireBack.l0, if_pos (by omega), if_pos (by omega), cs_len, if_pos (by omega), TakeVary_eq _ hB (by omega) _ (by omega), Option.bind_some, vbs_cut, drop_cons ns i hlt, vbs_cons, List.append_assoc, dv_vb _ hm]
    unfold res
    simp only [if_true]
    rw [cs_rd, if_pos rfl, w64 (by omega) (by omega), show (i : Int) + 1 = ((i + 1 : Nat) : Int) by omega, show (((a.length + (vbs (ns.take i)).length : Nat) : Int) + ((vb (ns.getD i 0)).length : Int)) = ((a.length + (vbs (ns.take (i + 1))).length : Nat) : Int) by rw [el]; omega]
    exact ih k (i + 1) (by omega) (by omega) (by omega)
end
theorem WireBack : ∀ (l0 : List Int) (l1 : List Int) (l2 : List Int) (l3 : List Int) (a4 : Int) (a5 : Int), l0.length ≤ maxLen → l0.length * 1 ≤ 140737488351232 → (∀ y ∈ l0, (Lit.int .u8 y).wf = true) → l1.length ≤ maxLen → l1.length * 1 ≤ 140737488351232 → (∀ y ∈ l1, (Lit.int .u8 y).wf = true) → l2.length ≤ maxLen → l2.length * 8 ≤ 140737488351232 → (∀ y ∈ l2, (Lit.int .u64 y).wf = true) → l3.length ≤ maxLen → l3.length * 8 ≤ 140737488351232 → (∀ y ∈ l3, (Lit.int .i64 y).wf = true) → (Lit.int .u8 a4).wf = true → (Lit.int .i64 a5).wf = true → ∃ k, palletlaw02_WireBack.f k l0 l1 l2 l3 a4 a5 = some true := by
  intro l0 l1 l2 l3 a4 w _ _ h0 _ _ h1 _ h2b h2 _ h3b h3 h4 hw
  obtain ⟨a, rfl, ha⟩ := bytes_of h0
  obtain ⟨u, rfl, hu⟩ := bytes_of h1
  obtain ⟨ns, rfl, hns⟩ := u64s_of h2
  obtain ⟨kind, rfl, hkind⟩ := u8_of h4
  have hss : ws l3 := fun x hx => i64_of (h3 x hx)
  have hw := i64_of hw
  obtain ⟨k, hk⟩ : ∃ k : Nat, k = 40000 := ⟨_, rfl⟩
  refine ⟨k + 1, ?_⟩
  rw [cs_len] at h2b
  have yes : palletlaw02_WireBack.j0 (k + 1) (cs a) (cs u) (cs ns) l3 kind w true true = some true := by rw [palletlaw02_WireBack.j0, if_pos rfl]
  unfold palletlaw02_WireBack.f
  rw [live2 (by omega), Option.bind_some, few2 (by omega), Option.bind_some, cs_len, cs_len, cs_len, w64 (by omega) (by omega)]
  by_cases c : a.length ≤ 3000 ∧ u.length ≤ 3000
  case neg => rw [decide_eq_false c, if_neg (by decide), yes]
  rw [decide_eq_true c, if_pos rfl]
  by_cases c3 : ((ns.length : Int) + (l3.length : Int)) > 500
  · rw [decide_eq_true c3, yes]
  have lv := vbs_len _ hns
  rw [decide_eq_false c3, palletlaw02_WireBack.j0, if_neg (by decide), Vary_eq a ns hns (by omega) (by omega) (by omega), Option.bind_some, cs_len, cs_len, List.length_append, if_pos (by omega), ← cs_append, cs_len, cs_len]
  exact wb_l0 a u ha hu c.1 c.2 ns hns l3 hss (by omega) kind hkind w ns.length k 0 (by omega) (by omega) (by omega)
end Go.Proofs.Ytnmepjpjpillcaa.Pure
