/- A log's events are its records, one behind the other: the first ones' log has the same bytes up to where the next record stands, but for how many there are, and the sum. Conditions: none but that each number is of its kind, and each list's length a slice's. -/
import Derived.Test.YtcbjbgleflbpmaaDoorBaseEventParts
import Derived.Test.YtcbjbgleflbpmaaDoorPrint0
import Derived.Test.YtcbjbgleflbpmaaDoorPrint12
import Derived.Test.YtcbjbgleflbpmaaDoorPrint13
set_option linter.unusedVariables false
set_option linter.unusedSimpArgs false
namespace Go.Proofs.YtcbjbgleflbpmaaDoor.Pure
open Go Go.RowKit Go.Proofs.YtcbjbgleflbpmaaDoor.Print Go.Proofs.YtcbjbgleflbpmaaDoorW.PrintWords Go.Proofs.YtcbjbgleflbpmaaDoorW.PrintLast Go.Proofs.YtcbjbgleflbpmaaDoorW.PrintMore Go.Proofs.YtcbjbgleflbpmaaDoor.Ev19 Go.Proofs.YtcbjbgleflbpmaaDoor.Wire Go.Proofs.YtcbjbgleflbpmaaDoor.Wire2 Go.Proofs.YtcbjbgleflbpmaaDoor.WireSpec
theorem vary1 {k : Nat} (hk : 100 ≤ k) (n : Nat) (hn : n < 18446744073709551616) : palletref02_Vary.f k [] [IntKind.u64.wrap (n : Int)] = some (cs (vb n)) := by
  rw [u64' hn, cs_one, RVary_nil _ (by intro m hm; simp at hm; omega) (by simp) (by simp; omega), show vbs [n] = vb n by simp [vbs]]
theorem lbody_len' (l : List E) : (lbody l).length = 5 + (vb l.length).length + (flat l).length := by
  unfold lbody
  rw [List.length_append, List.length_append]
  rfl
theorem flat_take_succ {l : List E} {i : Nat} (h : i < l.length) : flat (l.take (i + 1)) = flat (l.take i) ++ rec1 (l.getD i z) := by
  rw [List.take_succ_eq_append_getElem h, flat_append, List.getD_eq_getElem?_getD, List.getElem?_eq_getElem h]
  congr 1
  exact List.append_nil _
theorem flat_take_len (l : List E) (i : Nat) : (flat (l.take i)).length ≤ (flat l).length := by
  conv => rhs; rw [← List.take_append_drop i l]
  rw [flat_append, List.length_append]
  omega
theorem parts_l0 (l : List E) (ho : okL l = true) (hw : Ws l) (nl : l.length ≤ 300) (p : Nat) (hp : p ≤ l.length) (d : Nat) : ∀ (k i : Nat), i ≤ l.length → l.length - i = d → d + 200 ≤ k →
    palletlaw19_EventParts.l0 k l (p : Int) true (cs (enc l)) (cs (enc (l.take p))) (cs (flat (l.take i))) l (l.length : Int) (i : Int) = some true := by
  obtain ⟨o1, o2, o3⟩ := okL_iff.1 ho
  have fl := flat_len o2 hw
  have v1 := vb_len10 (n := l.length) (by omega)
  induction d with
  | zero =>
    intro k i hi hd hk
    obtain ⟨k, rfl⟩ : ∃ m, k = m + 1 := ⟨k - 1, by omega⟩
    have he := enc_len l
    have hb := lbody_len' l
    rw [palletlaw19_EventParts.l0, if_neg (by omega), vary1 (by omega) _ (by omega), Option.bind_some, if_pos rfl, cs_len, cs_len, cs_len, List.take_of_length_le (by omega), i64 (x := 5 + ((vb l.length).length : Int)) (by omega) (by omega), i64 (x := 5 + ((vb l.length).length : Int) + ((flat l).length : Int)) (by omega) (by omega), i64 (x := 5 + ((vb l.length).length : Int) + ((flat l).length : Int) + 4) (by omega) (by omega), i64 (x := ((enc l).length : Int) - 4) (by omega) (by omega), if_pos (by omega), if_pos (by omega), if_pos (by omega), if_pos (by omega), show (((enc l).length : Int) - 4).toNat = (enc l).length - 4 by omega, show (5 + ((vb l.length).length : Int)).toNat = 5 + (vb l.length).length by omega, cs_take, cs_drop, enc_take]
    have e : (lbody l).drop (5 + (vb l.length).length) = flat l := by
      unfold lbody
      rw [show 5 + (vb l.length).length = ([80, 76, 84, 76, 1] ++ vb l.length : List Nat).length by rw [List.length_append]; rfl, List.drop_left]
    rw [e, same_self, Option.bind_some]
  | succ d ih =>
    intro k i hi hd hk
    obtain ⟨k, rfl⟩ : ∃ m, k = m + 1 := ⟨k - 1, by omega⟩
    have h1 := o2 _ (emem (l := l) (i := i) (by omega))
    have h2 := hw _ (emem (l := l) (i := i) (by omega))
    have h3 := rec_len h1 h2
    have f1 := flat_take_len l i
    have IH := ih k (i + 1) (by omega) (by omega) (by omega)
    rw [flat_take_succ (by omega), cs_append] at IH
    rw [palletlaw19_EventParts.l0, if_pos (by omega), if_pos (by omega), if_pos (by omega), rd_eq, Write_eq (by omega) _ h2, Option.bind_some, if_pos h1, if_pos rfl]
    dsimp only
    rw [cs_len, cs_len, cs_len, i64 (x := (i : Int) + 1) (by omega) (by omega), show (i : Int) + 1 = ((i + 1 : Nat) : Int) by omega]
    by_cases c : i = p
    · subst c
      have hb := lbody_len' (l.take i)
      have he := enc_len (l.take i)
      rw [List.length_take, Nat.min_eq_left (by omega)] at hb
      have v2 := vb_len10 (n := i) (by omega)
      rw [if_pos rfl, vary1 (by omega) _ (by omega), Option.bind_some, cs_len, i64 (x := 9 + ((vb i).length : Int)) (by omega) (by omega), i64 (by omega) (by omega), if_pos (by omega), if_pos (by omega)]
      exact IH
    · rw [if_neg (by omega), if_pos (by omega)]
      exact IH
theorem EventParts : ∀ (l0 : List (S30)) (a1 : Int), l0.length ≤ maxLen → l0.length * 40 ≤ 140737488351232 → (∀ y ∈ l0, ((Lit.int .i64 y.f0).wf = true) ∧ (((Lit.int .i64 y.f1).wf = true) ∧ (((Lit.int .i64 y.f2).wf = true) ∧ (((Lit.int .i64 y.f3).wf = true) ∧ (((Lit.int .i64 y.f4).wf = true)))))) → (Lit.int .i64 a1).wf = true → ∃ k, palletlaw19_EventParts.f k l0 a1 = some true := by
  intro l a hl1 hl2 hl ha
  have hw := ws_of hl
  have hA := CrcFn.i64_le ha
  obtain ⟨k, hk⟩ : ∃ k : Nat, k = 2000 := ⟨2000, rfl⟩
  refine ⟨k + 2, ?_⟩
  have J : ∀ q : Bool, (q = false → l.length ≤ 300 ∧ okL l = true) → palletlaw19_EventParts.j0 (k + 2) l a true q = some true := by
    intro q hq
    rw [palletlaw19_EventParts.j0]
    cases q with
    | true => rw [if_pos rfl]
    | false =>
      obtain ⟨nl, ol⟩ := hq rfl
      rw [if_neg (by decide), i64 (x := (l.length : Int) + 1) (by omega) (by omega), if_neg (by omega), Encode_eq l hw (by omega) (by omega), Option.bind_some, if_pos ol]
      have q1 := Int.tmod_lt_of_pos a (show 0 < (l.length : Int) + 1 by omega)
      have q2 := Int.lt_tmod_of_pos a (show 0 < (l.length : Int) + 1 by omega)
      rw [i64 (x := Int.tmod a ((l.length : Int) + 1) + (l.length : Int)) (by omega) (by omega), i64 (by omega) (by omega), Int.tmod_eq_emod_of_nonneg (by omega)]
      obtain ⟨p, hp⟩ : ∃ p : Nat, (Int.tmod a ((l.length : Int) + 1) + (l.length : Int) + 1) % ((l.length : Int) + 1) = (p : Int) := ⟨_, (Int.toNat_of_nonneg (Int.emod_nonneg _ (by omega))).symm⟩
      have hp2 : (p : Int) < (l.length : Int) + 1 := by
        rw [← hp]
        exact Int.emod_lt_of_pos _ (by omega)
      rw [hp, if_pos (by omega), if_pos (by omega), Int.toNat_natCast, Encode_eq _ (ws_take hw p) (by rw [List.length_take]; omega) (by rw [List.length_take]; omega), Option.bind_some, if_pos (okL_take ol p), if_pos rfl]
      dsimp only
      rw [palletlaw19_EventParts.j1, if_neg (by decide)]
      have := parts_l0 l ol hw nl p (by omega) l.length k 0 (by omega) (by omega) (by omega)
      exact this
  unfold palletlaw19_EventParts.f
  rw [live_eq (by omega), Option.bind_some, if_pos rfl]
  by_cases c1 : (l.length : Int) > 300
  · rw [if_pos c1]
    exact J _ (fun h => by cases h)
  rw [if_neg c1, Check_eq l (by omega) (by omega), Option.bind_some]
  refine J _ (fun h => ⟨by omega, ?_⟩)
  by_cases c4 : okL l = true
  · exact c4
  · rw [if_neg c4] at h
    exact absurd h (by decide)
end Go.Proofs.YtcbjbgleflbpmaaDoor.Pure
