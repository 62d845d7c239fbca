/- Events read, and logs (layer 19), as printed: the code's answer and the document's are one plain function's. Conditions: bytes; rounds enough. -/
import Derived.Test.YtcbjbgleflbpmaaWire
import Derived.Test.YtcbjbgleflbpmaaCrc
import Derived.Test.YtcbjbgleflbpmaaPrint0
import Derived.Test.YtcbjbgleflbpmaaPrint7
import Derived.Test.YtcbjbgleflbpmaaPrint9
import Derived.Test.YtcbjbgleflbpmaaPrint11
import Derived.Test.YtcbjbgleflbpmaaPrint12
import Derived.Test.YtcbjbgleflbpmaaPrint13
import Derived.Test.YtcbjbgleflbpmaaPrint14
import Derived.Test.YtcbjbgleflbpmaaPrint17
import Derived.Test.YtcbjbgleflbpmaaPrint18
import Derived.Test.YtcbjbgleflbpmaaPrint19
import Derived.Test.YtcbjbgleflbpmaaPrint20
set_option linter.unusedVariables false
set_option linter.unusedSimpArgs false
namespace Go.Proofs.Ytcbjbgleflbpmaa.Ev19
open Go Go.RowKit Go.Proofs.Ytcbjbgleflbpmaa.Print Go.Proofs.YtcbjbgleflbpmaaW.PrintWords Go.Proofs.YtcbjbgleflbpmaaW.PrintLast Go.Proofs.YtcbjbgleflbpmaaW.PrintMore Go.Proofs.Ytcbjbgleflbpmaa.Wire Go.Proofs.Ytcbjbgleflbpmaa.WireSpec Go.Proofs.Ytcbjbgleflbpmaa.Wire2 Go.Proofs.Ytcbjbgleflbpmaa.Wire3 Go.Proofs.Ytcbjbgleflbpmaa.Wire4 Go.Proofs.Ytcbjbgleflbpmaa.Wire5 Go.Proofs.Ytcbjbgleflbpmaa.Recs Go.Proofs.Ytcbjbgleflbpmaa.TakeRef
theorem i64 {x : Int} (h : -9223372036854775808 ≤ x) (h2 : x ≤ 9223372036854775807) : wrap64 x = x := by unfold wrap64; omega
abbrev E := S25
def z : E := ⟨0, 0, 0, 0, 0⟩
theorem rd_eq (xs : List E) (j : Nat) : rd_T25 xs (j : Int) = xs.getD j z := by
  unfold rd_T25
  rw [Int.toNat_natCast]
  rfl
/-- An event that may be. -/
def okE (x : E) : Prop := 0 ≤ x.f0 ∧ x.f0 ≤ 1152921504606846976 ∧ 1 ≤ x.f1 ∧ x.f1 ≤ 14 ∧ 0 ≤ x.f2 ∧ x.f2 ≤ 255
instance (x : E) : Decidable (okE x) := by unfold okE; infer_instance
theorem may_eq {k : Nat} (hk : 3 ≤ k) (x : Int) : pico_May.f k [x] = some (decide (-1152921504606846976 ≤ x ∧ x ≤ 1152921504606846976)) := by
  obtain ⟨k, rfl⟩ : ∃ m, k = m + 3 := ⟨k - 3, by omega⟩
  unfold pico_May.f slices_ContainsFunc_int64_int64_at_pico_May_1.f slices_IndexFunc_int64_int64_at_pico_May_1.f
  simp only [slices_IndexFunc_int64_int64_at_pico_May_1.l0, pico_May_1.f, rd, List.length_cons, List.length_nil, Int.toNat_zero, List.getD_cons_zero]
  rw [i64 (by omega) (by omega)]
  by_cases h1 : x > 1152921504606846976
  · have hR : decide (-1152921504606846976 ≤ x ∧ x ≤ 1152921504606846976) = false := decide_eq_false (by omega)
    rw [hR]
    simp [h1]
  · by_cases h2 : x < -1152921504606846976
    · have hR : decide (-1152921504606846976 ≤ x ∧ x ≤ 1152921504606846976) = false := decide_eq_false (by omega)
      rw [hR]
      simp [h1, h2]
    · have hR : decide (-1152921504606846976 ≤ x ∧ x ≤ 1152921504606846976) = true := decide_eq_true (by omega)
      rw [hR]
      simp [h1, h2]
theorem rmay_eq {k : Nat} (hk : 3 ≤ k) (x : Int) : palletref01_May.f k [x] = some (decide (-1152921504606846976 ≤ x ∧ x ≤ 1152921504606846976)) := by
  obtain ⟨k, rfl⟩ : ∃ m, k = m + 3 := ⟨k - 3, by omega⟩
  unfold palletref01_May.f
  simp only [palletref01_May.l0, rd, List.length_cons, List.length_nil, Int.toNat_zero, List.getD_cons_zero]
  rw [i64 (by omega) (by omega)]
  by_cases h1 : x > 1152921504606846976
  · have hR : decide (-1152921504606846976 ≤ x ∧ x ≤ 1152921504606846976) = false := decide_eq_false (by omega)
    rw [hR]
    simp [h1]
  · by_cases h2 : x < -1152921504606846976
    · have hR : decide (-1152921504606846976 ≤ x ∧ x ≤ 1152921504606846976) = false := decide_eq_false (by omega)
      rw [hR]
      simp [h1, h2]
    · have hR : decide (-1152921504606846976 ≤ x ∧ x ≤ 1152921504606846976) = true := decide_eq_true (by omega)
      rw [hR]
      simp [h1, h2]
theorem off_eq {k : Nat} (hk : 3 ≤ k) (a b c d e : Int) : event_off.f k a b c d e = some (decide (¬ okE ⟨a, b, c, d, e⟩)) := by
  unfold event_off.f
  rw [may_eq hk, Option.bind_some]
  by_cases h0 : a < 0
  · rw [if_pos h0, decide_eq_true (by unfold okE; simp only; omega)]
  rw [if_neg h0]
  by_cases h1 : a ≤ 1152921504606846976
  · rw [decide_eq_true (by omega), if_pos rfl]
    by_cases h2 : b < 1
    · rw [if_pos h2, decide_eq_true (by unfold okE; simp only; omega)]
    rw [if_neg h2]
    by_cases h3 : b > 14
    · rw [if_pos h3, decide_eq_true (by unfold okE; simp only; omega)]
    rw [if_neg h3]
    by_cases h4 : c < 0
    · rw [if_pos h4, decide_eq_true (by unfold okE; simp only; omega)]
    rw [if_neg h4]
    by_cases h5 : c > 255
    · rw [decide_eq_true h5, decide_eq_true (by unfold okE; simp only; omega)]
    · rw [decide_eq_false h5, decide_eq_false (by unfold okE; simp only; omega)]
  · rw [decide_eq_false (by omega), if_neg (by decide), decide_eq_true (by unfold okE; simp only; omega)]
theorem One_eq {k : Nat} (hk : 3 ≤ k) (a b c d e : Int) : palletref19_One.f k a b c d e = some (decide (okE ⟨a, b, c, d, e⟩)) := by
  unfold palletref19_One.f
  rw [rmay_eq hk, Option.bind_some]
  by_cases h1 : -1152921504606846976 ≤ a ∧ a ≤ 1152921504606846976
  · rw [decide_eq_true h1, if_pos rfl]
    by_cases h0 : a ≥ 0
    · rw [if_pos h0]
      by_cases h2 : b ≥ 1
      · rw [if_pos h2]
        by_cases h3 : b ≤ 14
        · rw [if_pos h3]
          by_cases h4 : c ≥ 0
          · rw [if_pos h4]
            by_cases h5 : c ≤ 255
            · rw [decide_eq_true h5, decide_eq_true (by unfold okE; simp only; omega)]
            · rw [decide_eq_false h5, decide_eq_false (by unfold okE; simp only; omega)]
          · rw [if_neg h4, decide_eq_false (by unfold okE; simp only; omega)]
        · rw [if_neg h3, decide_eq_false (by unfold okE; simp only; omega)]
      · rw [if_neg h2, decide_eq_false (by unfold okE; simp only; omega)]
    · rw [if_neg h0, decide_eq_false (by unfold okE; simp only; omega)]
  · rw [decide_eq_false h1, if_neg (by decide), decide_eq_false (by unfold okE; simp only; omega)]
theorem RTakeRecord_eq {k : Nat} (l : List Nat) (hl : By l) (hn : l.length ≤ 100000000) (a : Nat) (hk : 2 * l.length + 30 ≤ k) : palletref02_TakeRecord.f k (cs l) (a : Int) = some (tres l a) := by
  unfold palletref02_TakeRecord.f
  rw [if_neg (by omega), cs_len]
  by_cases h0 : l.length ≤ a
  · rw [if_pos (by omega)]
    unfold tres
    rw [List.drop_of_length_le h0]
    rfl
  rw [if_neg (by omega), i64 (by omega) (by omega), show (a : Int) + 1 = ((a + 1 : Nat) : Int) by omega, RTakeVary_eq l hl (by omega) (a + 1) (by omega) (by omega), Option.bind_some]
  unfold tres
  have hd : l.drop a = l.getD a 0 :: l.drop (a + 1) := drop_cons l a (by omega)
  have hb := fun n c => dv_bound (l.drop (a + 1)) 0 0 n c (hl.drop (a + 1))
  rw [List.length_drop] at hb
  have hs : sp1 (l.drop a) = if (dv 0 0 (l.drop (a + 1))).2.2 ≠ 0 then (0, 0, (dv 0 0 (l.drop (a + 1))).2.2) else if 1048576 < (dv 0 0 (l.drop (a + 1))).1 then (0, 0, 6) else if (l.drop (a + 1)).length - (dv 0 0 (l.drop (a + 1))).2.1 < (dv 0 0 (l.drop (a + 1))).1 then (0, 0, 3) else (1 + (dv 0 0 (l.drop (a + 1))).2.1, (dv 0 0 (l.drop (a + 1))).1, 0) := by
    rw [hd]
    rfl
  rcases hv : dv 0 0 (l.drop (a + 1)) with ⟨n, c, e⟩
  rw [hv] at hs
  simp only at hs
  unfold res
  by_cases he : e = 0
  · subst he
    obtain ⟨b1, b2, b3⟩ := hb n c hv
    rw [if_neg (by decide)] at hs
    simp only [if_true]
    by_cases h1 : 1048576 < n
    · rw [if_pos h1] at hs
      rw [if_pos (by omega), hs]
      rfl
    rw [if_neg h1, List.length_drop] at hs
    rw [if_neg (by omega), i64 (by omega) (by omega), u64_in (by omega) (by omega)]
    by_cases h2 : l.length - (a + 1) - c < n
    · rw [if_pos h2] at hs
      rw [if_pos (by omega), hs]
      rfl
    rw [if_neg h2] at hs
    rw [if_neg (by omega), if_pos (by omega), if_pos (by omega), if_pos (by omega), i64 (x := (n : Int)) (by omega) (by omega), i64 (by omega) (by omega), if_pos (by omega), if_pos (by omega), show (((a + 1 : Nat) : Int) + (c : Int) + (n : Int)) = ((a + (1 + c + n) : Nat) : Int) by omega, show (((a + 1 : Nat) : Int) + (c : Int)) = ((a + (1 + c) : Nat) : Int) by omega, Int.toNat_natCast, Int.toNat_natCast, cs_take, cs_drop, cs_len, if_pos (by rw [List.length_drop, List.length_take, List.length_nil]; omega), cs_rd, List.drop_take, show a + (1 + c + n) - (a + (1 + c)) = n by omega, hs]
    rfl
  · rw [if_pos he] at hs
    simp only
    rw [if_neg he]
    simp only
    rw [if_neg (by omega), hs]
    simp only
    rw [if_neg he]
theorem RTakeSign_eq {k : Nat} (l : List Nat) (hl : By l) (hn : l.length ≤ 1000000000000) (a : Nat) (ha : a ≤ l.length) (hk : 2 * l.length + 20 ≤ k) : palletref02_TakeSign.f k (cs l) (a : Int) = some (ress a (dv 0 0 (l.drop a))) := by
  unfold palletref02_TakeSign.f
  rw [RTakeVary_eq l hl hn a ha hk, Option.bind_some]
  have hb := fun n c => dv_bound (l.drop a) 0 0 n c (hl.drop a)
  rcases hv : dv 0 0 (l.drop a) with ⟨n, c, e⟩
  unfold res ress
  by_cases he : e = 0
  · subst he
    obtain ⟨b1, b2, b3⟩ := hb n c hv
    simp only [if_true]
    have t1 : Int.tmod (n : Int) 2 = ((n % 2 : Nat) : Int) := by rw [Int.tmod_eq_emod_of_nonneg (by omega)]; omega
    have t2 : Int.tdiv (n : Int) 2 = ((n / 2 : Nat) : Int) := by rw [Int.tdiv_eq_ediv_of_nonneg (by omega)]; omega
    rw [t1, t2, u64_in (by omega) (by omega), i64 (x := ((n / 2 : Nat) : Int)) (by omega) (by omega), i64 (x := -((n / 2 : Nat) : Int)) (by omega) (by omega), i64 (by omega) (by omega)]
    unfold uz
    by_cases h : n % 2 = 1
    · rw [if_pos (by omega), if_pos h]
    · rw [if_neg (by omega), if_neg h]
  · simp only
    rw [if_neg he, if_neg he]
    simp only
    rw [if_neg (by omega)]
/-- Four numbers, one behind the other, and nothing more. -/
def fp (b : List Nat) : Option (Nat × Nat × Int × Int) :=
  if (dv 0 0 b).2.2 = 0 then
    if (dv 0 0 (b.drop (dv 0 0 b).2.1)).2.2 = 0 then
      if (dv 0 0 (b.drop ((dv 0 0 b).2.1 + (dv 0 0 (b.drop (dv 0 0 b).2.1)).2.1))).2.2 = 0 then
        if (dv 0 0 (b.drop ((dv 0 0 b).2.1 + (dv 0 0 (b.drop (dv 0 0 b).2.1)).2.1 + (dv 0 0 (b.drop ((dv 0 0 b).2.1 + (dv 0 0 (b.drop (dv 0 0 b).2.1)).2.1))).2.1))).2.2 = 0 then
          if (dv 0 0 b).2.1 + (dv 0 0 (b.drop (dv 0 0 b).2.1)).2.1 + (dv 0 0 (b.drop ((dv 0 0 b).2.1 + (dv 0 0 (b.drop (dv 0 0 b).2.1)).2.1))).2.1 + (dv 0 0 (b.drop ((dv 0 0 b).2.1 + (dv 0 0 (b.drop (dv 0 0 b).2.1)).2.1 + (dv 0 0 (b.drop ((dv 0 0 b).2.1 + (dv 0 0 (b.drop (dv 0 0 b).2.1)).2.1))).2.1))).2.1 = b.length then
            some ((dv 0 0 b).1, (dv 0 0 (b.drop (dv 0 0 b).2.1)).1, uz (dv 0 0 (b.drop ((dv 0 0 b).2.1 + (dv 0 0 (b.drop (dv 0 0 b).2.1)).2.1))).1, uz (dv 0 0 (b.drop ((dv 0 0 b).2.1 + (dv 0 0 (b.drop (dv 0 0 b).2.1)).2.1 + (dv 0 0 (b.drop ((dv 0 0 b).2.1 + (dv 0 0 (b.drop (dv 0 0 b).2.1)).2.1))).2.1))).1)
          else none
        else none
      else none
    else none
  else none
/-- The event that a record's kind and body are. -/
def eb (kd : Nat) (b : List Nat) : Option E := (fp b).bind fun q => if q.1 ≤ 1152921504606846976 ∧ q.2.1 ≤ 255 ∧ 1 ≤ kd ∧ kd ≤ 14 then some ⟨q.1, kd, q.2.1, q.2.2.1, q.2.2.2⟩ else none
/-- What stands at a place: what is wrong, or the event, and where its record ends. -/
def re (l : List Nat) (a : Nat) : Nat × E × Nat :=
  if (sp1 (l.drop a)).2.2 = 0 then
    match eb (l.getD a 0) ((l.drop (a + (sp1 (l.drop a)).1)).take (sp1 (l.drop a)).2.1) with
    | some x => (0, x, a + ((sp1 (l.drop a)).1 + (sp1 (l.drop a)).2.1))
    | none => (4, z, 0)
  else ((sp1 (l.drop a)).2.2, z, 0)
def tup (r : Nat × E × Nat) : Int × Int × Int × Int × Int × Int × Int := (r.2.1.f0, r.2.1.f1, r.2.1.f2, r.2.1.f3, r.2.1.f4, (r.2.2 : Int), (r.1 : Int))
theorem re_ok {l : List Nat} (hl : By l) {a : Nat} (h : (re l a).1 = 0) : a < (re l a).2.2 ∧ (re l a).2.2 ≤ l.length ∧ okE (re l a).2.1 := by
  unfold re at h ⊢
  rcases hs : sp1 (l.drop a) with ⟨u, n, y⟩
  rw [hs] at h
  simp only at h ⊢
  by_cases h1 : y = 0
  · subst h1
    obtain ⟨kd, r, _, _, h3, h4, h5⟩ := sp1_ok (hl.drop a) hs
    rw [List.length_drop] at h5
    simp only [if_true] at h ⊢
    cases he : eb (l.getD a 0) ((l.drop (a + u)).take n) with
    | none => rw [he] at h; simp at h
    | some x =>
      simp only
      refine ⟨by omega, by omega, ?_⟩
      unfold eb at he
      obtain ⟨q, hq, he⟩ := Option.bind_eq_some_iff.1 he
      by_cases c : q.1 ≤ 1152921504606846976 ∧ q.2.1 ≤ 255 ∧ 1 ≤ l.getD a 0 ∧ l.getD a 0 ≤ 14
      · rw [if_pos c] at he
        obtain rfl := Option.some.inj he
        unfold okE
        simp only
        omega
      · rw [if_neg c] at he
        cases he
  · rw [if_neg h1] at h
    exact absurd h h1
theorem bodyR {k : Nat} (b : List Nat) (hb : By b) (hn : b.length ≤ 100000000) (hk : 2 * b.length + 30 ≤ k) (kd : Nat) (hkd : kd < 256) (e : Int) :
    ((event_Read_1.f k (cs b) 0 0).bind fun a => (event_Read_1.f k (cs b) a.2.2 a.2.1).bind fun b_ => (event_Read_2.f k (cs b) b_.2.2 b_.2.1).bind fun c => (event_Read_2.f k (cs b) c.2.2 c.2.1).bind fun d => if d.2.2 = 0 ∧ d.2.1 = ((cs b).length : Int) ∧ a.1 ≤ 1152921504606846976 ∧ b_.1 ≤ 255 then ((event_off.f k (wrap64 a.1) (wrap64 (kd : Int)) (wrap64 b_.1) c.1 d.1).bind fun q => some (if q = true then ((0, 0, 0, 0, 0, 0, 4) : Int × Int × Int × Int × Int × Int × Int) else (wrap64 a.1, wrap64 (kd : Int), wrap64 b_.1, c.1, d.1, e, 0))) else some (0, 0, 0, 0, 0, 0, 4))
    = some (match eb kd b with | some x => (x.f0, x.f1, x.f2, x.f3, x.f4, e, 0) | none => (0, 0, 0, 0, 0, 0, 4)) := by
  have hB := fun p n c => dv_bound (b.drop p) 0 0 n c (hb.drop p)
  have V := fun p => TakeVary_eq (k := k) b hb (by omega) p (by omega)
  have S := fun p => TakeSign_eq (k := k) b hb (by omega) p (by omega)
  unfold eb fp
  have v0 := V 0
  rw [List.drop_zero] at v0
  have hB0 := fun n c => dv_bound b 0 0 n c hb
  rw [show event_Read_1.f k (cs b) 0 0 = some (res (0 : Nat) (dv 0 0 b)) by unfold event_Read_1.f; rw [if_pos rfl]; exact v0, Option.bind_some]
  rcases h1 : dv 0 0 b with ⟨n1, c1, e1⟩
  rw [h1] at hB0
  have hB0 := hB0 n1 c1
  unfold res
  by_cases q1 : e1 = 0
  case neg =>
    simp only
    rw [if_neg q1, if_neg q1]
    simp only [Option.bind_none]
    have e0 : ¬ ((e1 : Int) = 0) := by omega
    unfold event_Read_1.f event_Read_2.f
    simp only [if_neg e0, Option.bind_some]
    rw [if_neg (fun q => e0 q.1)]
  subst q1
  obtain ⟨p1, p2, p3⟩ := hB0 rfl
  simp only [if_true]
  have e1 : event_Read_1.f k (cs b) 0 ((0 : Nat) + (c1 : Nat) : Int) = some (res (c1 : Nat) (dv 0 0 (b.drop c1))) := by
    unfold event_Read_1.f
    rw [if_pos rfl, show (((0 : Nat) : Int) + (c1 : Int)) = ((c1 : Nat) : Int) by omega]
    exact V c1
  rw [e1, Option.bind_some]
  have hB1 := hB c1
  rcases h2 : dv 0 0 (b.drop c1) with ⟨n2, c2, e2⟩
  rw [h2] at hB1
  have hB1 := hB1 n2 c2
  rw [List.length_drop] at hB1
  unfold res
  by_cases q2 : e2 = 0
  case neg =>
    simp only
    rw [if_neg q2, if_neg q2]
    simp only [Option.bind_none]
    have e0 : ¬ ((e2 : Int) = 0) := by omega
    unfold event_Read_2.f
    simp only [if_neg e0, Option.bind_some]
    rw [if_neg (fun q => e0 q.1)]
  subst q2
  obtain ⟨p4, p5, p6⟩ := hB1 rfl
  simp only [if_true]
  have e2 : event_Read_2.f k (cs b) 0 ((c1 : Nat) + (c2 : Nat) : Int) = some (ress ((c1 + c2 : Nat) : Int) (dv 0 0 (b.drop (c1 + c2)))) := by
    unfold event_Read_2.f
    rw [if_pos rfl, show (((c1 : Nat) : Int) + (c2 : Int)) = ((c1 + c2 : Nat) : Int) by omega]
    exact S (c1 + c2)
  rw [e2, Option.bind_some]
  have hB2 := hB (c1 + c2)
  rcases h3 : dv 0 0 (b.drop (c1 + c2)) with ⟨n3, c3, e3⟩
  rw [h3] at hB2
  have hB2 := hB2 n3 c3
  rw [List.length_drop] at hB2
  unfold ress
  by_cases q3 : e3 = 0
  case neg =>
    simp only
    rw [if_neg q3, if_neg q3]
    simp only [Option.bind_none]
    have e0 : ¬ ((e3 : Int) = 0) := by omega
    unfold event_Read_2.f
    simp only [if_neg e0, Option.bind_some]
    rw [if_neg (fun q => e0 q.1)]
  subst q3
  obtain ⟨p7, p8, p9⟩ := hB2 rfl
  simp only [if_true]
  have e3 : event_Read_2.f k (cs b) 0 (((c1 + c2 : Nat) : Int) + (c3 : Nat) : Int) = some (ress ((c1 + c2 + c3 : Nat) : Int) (dv 0 0 (b.drop (c1 + c2 + c3)))) := by
    unfold event_Read_2.f
    rw [if_pos rfl, show (((c1 + c2 : Nat) : Int) + (c3 : Int)) = ((c1 + c2 + c3 : Nat) : Int) by omega]
    exact S (c1 + c2 + c3)
  rw [e3, Option.bind_some]
  have hB3 := hB (c1 + c2 + c3)
  rcases h4 : dv 0 0 (b.drop (c1 + c2 + c3)) with ⟨n4, c4, e4⟩
  rw [h4] at hB3
  have hB3 := hB3 n4 c4
  rw [List.length_drop] at hB3
  unfold ress
  by_cases q4 : e4 = 0
  case neg =>
    simp only
    rw [if_neg q4, if_neg q4]
    simp only [Option.bind_none]
    have e0 : ¬ ((e4 : Int) = 0) := by omega
    rw [if_neg (fun q => e0 q.1)]
  subst q4
  obtain ⟨p10, p11, p12⟩ := hB3 rfl
  simp only [if_true, cs_len]
  by_cases q5 : c1 + c2 + c3 + c4 = b.length
  case neg =>
    rw [if_neg q5, if_neg (by omega)]
    rfl
  rw [if_pos q5, Option.bind_some]
  dsimp only
  by_cases q6 : n1 ≤ 1152921504606846976 ∧ n2 ≤ 255
  case neg =>
    rw [if_neg (by omega), if_neg (by omega)]
  have hc : True ∧ ((c1 + c2 + c3 : Nat) : Int) + (c4 : Int) = (b.length : Int) ∧ (n1 : Int) ≤ 1152921504606846976 ∧ (n2 : Int) ≤ 255 := ⟨trivial, by omega, by omega, by omega⟩
  rw [if_pos hc, i64 (by omega) (by omega), i64 (by omega) (by omega), i64 (by omega) (by omega), off_eq (by omega), Option.bind_some]
  by_cases q7 : 1 ≤ kd ∧ kd ≤ 14
  · rw [decide_eq_false (by unfold okE; simp only; omega), if_neg (by decide), if_pos (by omega)]
  · rw [decide_eq_true (by unfold okE; simp only; omega), if_pos rfl, if_neg (by omega)]
theorem Read_eq {k : Nat} (l : List Nat) (hl : By l) (hn : l.length ≤ 100000000) (a : Nat) (hk : 2 * l.length + 30 ≤ k) : event_Read.f k (cs l) (a : Int) = some (tup (re l a)) := by
  unfold event_Read.f
  rw [TakeRecord_eq l hl hn a hk, Option.bind_some]
  unfold tres re tup
  rcases hs : sp1 (l.drop a) with ⟨u, n, y⟩
  by_cases h1 : y = 0
  · subst h1
    simp only [if_true]
    have hlen : ((l.drop (a + u)).take n).length ≤ l.length := by rw [List.length_take, List.length_drop]; omega
    rw [bodyR _ ((hl.drop _).take _) (by omega) (by omega) _ (getD_by hl a)]
    cases eb (l.getD a 0) ((l.drop (a + u)).take n) <;> rfl
  · simp only
    rw [if_neg h1, if_neg h1]
    simp only
    rw [if_neg (by omega)]
    rfl
theorem j0_bad {k : Nat} (a b c d e f : Int) : palletref19_Read.j0 (k + 1) a b c d e f true = some (0, 0, 0, 0, 0, 0, 4) := by
  rw [palletref19_Read.j0, if_pos rfl]
theorem RRead_eq {k : Nat} (l : List Nat) (hl : By l) (hn : l.length ≤ 100000000) (a : Nat) (hk : 2 * l.length + 40 ≤ k) : palletref19_Read.f k (cs l) (a : Int) = some (tup (re l a)) := by
  obtain ⟨k, rfl⟩ : ∃ m, k = m + 1 := ⟨k - 1, by omega⟩
  unfold palletref19_Read.f
  rw [RTakeRecord_eq l hl hn a (by omega), Option.bind_some]
  unfold tres re tup
  rcases hs : sp1 (l.drop a) with ⟨u, n, y⟩
  by_cases h1 : y = 0
  case neg =>
    simp only
    rw [if_neg h1, if_neg h1]
    simp only
    rw [if_neg (by omega)]
    rfl
  subst h1
  simp only [if_true]
  have hlen : ((l.drop (a + u)).take n).length ≤ l.length := by rw [List.length_take, List.length_drop]; omega
  have hkd := getD_by hl a
  have hb : By ((l.drop (a + u)).take n) := (hl.drop _).take _
  generalize (l.drop (a + u)).take n = b at *
  generalize l.getD a 0 = kd at *
  have hB := fun p n c => dv_bound (b.drop p) 0 0 n c (hb.drop p)
  have V := fun p (hp : p ≤ b.length) => RTakeVary_eq (k := k + 1) b hb (by omega) p hp (by omega)
  have S := fun p (hp : p ≤ b.length) => RTakeSign_eq (k := k + 1) b hb (by omega) p hp (by omega)
  have T : ∀ (x : Nat × Nat × Nat) (p : Nat), p + x.2.1 ≤ b.length ∨ x.2.2 ≠ 0 → ∃ p' : Nat, p' ≤ b.length ∧ (res (p : Int) x).2.1 = (p' : Int) ∧ (ress (p : Int) x).2.1 = (p' : Int) ∧ (x.2.2 = 0 → p' = p + x.2.1) := by
    intro x p h
    unfold res ress
    by_cases q : x.2.2 = 0
    · rw [if_pos q, if_pos q]
      exact ⟨p + x.2.1, by omega, by simp only; omega, by simp only; omega, fun _ => rfl⟩
    · rw [if_neg q, if_neg q]
      exact ⟨0, by omega, rfl, rfl, fun h => absurd h q⟩
  have D : ∀ p, p ≤ b.length → p + (dv 0 0 (b.drop p)).2.1 ≤ b.length ∨ (dv 0 0 (b.drop p)).2.2 ≠ 0 := by
    intro p hp
    by_cases q : (dv 0 0 (b.drop p)).2.2 = 0
    · have := hB p (dv 0 0 (b.drop p)).1 (dv 0 0 (b.drop p)).2.1 (Prod.ext rfl (Prod.ext rfl q))
      rw [List.length_drop] at this
      omega
    · exact .inr q
  have er : ∀ (p : Int) (x : Nat × Nat × Nat), (res p x).2.2 = (x.2.2 : Int) ∧ (ress p x).2.2 = (x.2.2 : Int) := by
    intro p x
    unfold res ress
    by_cases q : x.2.2 = 0
    · rw [if_pos q, if_pos q, q]
      exact ⟨rfl, rfl⟩
    · rw [if_neg q, if_neg q]
      exact ⟨rfl, rfl⟩
  have v0 := V 0 (by omega)
  have d0 := D 0 (by omega)
  rw [List.drop_zero] at v0 d0
  rw [show (0 : Int) = ((0 : Nat) : Int) from rfl, v0, Option.bind_some]
  obtain ⟨p1, g1, f1, _, t1⟩ := T _ _ d0
  rw [f1, V p1 g1, Option.bind_some]
  obtain ⟨p2, g2, f2, _, t2⟩ := T _ _ (D p1 g1)
  rw [f2, S p2 g2, Option.bind_some]
  obtain ⟨p3, g3, _, f3, t3⟩ := T _ _ (D p2 g2)
  rw [f3, S p3 g3, Option.bind_some]
  obtain ⟨p4, g4, _, f4, t4⟩ := T _ _ (D p3 g3)
  rw [f4, (er _ _).1, (er _ _).1, (er _ _).2, (er _ _).2, cs_len]
  unfold eb fp
  by_cases q1 : (dv 0 0 b).2.2 = 0
  case neg =>
    rw [if_neg (by omega), if_neg q1, j0_bad]
    rfl
  have t1 := t1 q1
  rw [Nat.zero_add] at t1
  subst t1
  rw [if_pos (by omega), if_pos q1]
  by_cases q2 : (dv 0 0 (b.drop (dv 0 0 b).2.1)).2.2 = 0
  case neg =>
    rw [if_neg (by omega), if_neg q2, j0_bad]
    rfl
  have t2 := t2 q2
  subst t2
  rw [if_pos (by omega), if_pos q2]
  by_cases q3 : (dv 0 0 (b.drop ((dv 0 0 b).2.1 + (dv 0 0 (b.drop (dv 0 0 b).2.1)).2.1))).2.2 = 0
  case neg =>
    rw [if_neg (by omega), if_neg q3, j0_bad]
    rfl
  have t3 := t3 q3
  subst t3
  rw [if_pos (by omega), if_pos q3]
  by_cases q4 : (dv 0 0 (b.drop ((dv 0 0 b).2.1 + (dv 0 0 (b.drop (dv 0 0 b).2.1)).2.1 + (dv 0 0 (b.drop ((dv 0 0 b).2.1 + (dv 0 0 (b.drop (dv 0 0 b).2.1)).2.1))).2.1))).2.2 = 0
  case neg =>
    rw [if_neg (by omega), if_neg q4, j0_bad]
    rfl
  have t4 := t4 q4
  subst t4
  rw [if_pos (by omega), if_pos q4]
  have hn1 := dv_back b hb (dv 0 0 b).1 (dv 0 0 b).2.1 (Prod.ext rfl (Prod.ext rfl q1))
  have hn2 := dv_back _ (hb.drop (dv 0 0 b).2.1) _ _ (Prod.ext rfl (Prod.ext rfl q2))
  have r1 : ∀ (p : Int) (x : Nat × Nat × Nat), x.2.2 = 0 → (res p x).1 = (x.1 : Int) ∧ (ress p x).1 = uz x.1 := by
    intro p x q
    unfold res ress
    rw [if_pos q, if_pos q]
    exact ⟨rfl, rfl⟩
  rw [(r1 _ _ q1).1, (r1 _ _ q2).1, (r1 _ _ q3).2, (r1 _ _ q4).2]
  generalize (dv 0 0 (b.drop ((dv 0 0 b).2.1 + (dv 0 0 (b.drop (dv 0 0 b).2.1)).2.1 + (dv 0 0 (b.drop ((dv 0 0 b).2.1 + (dv 0 0 (b.drop (dv 0 0 b).2.1)).2.1))).2.1))) = y4 at *
  generalize (dv 0 0 (b.drop ((dv 0 0 b).2.1 + (dv 0 0 (b.drop (dv 0 0 b).2.1)).2.1))) = y3 at *
  generalize (dv 0 0 (b.drop (dv 0 0 b).2.1)) = y2 at *
  generalize dv 0 0 b = y1 at *
  by_cases q5 : y1.2.1 + y2.2.1 + y3.2.1 + y4.2.1 = b.length
  case neg =>
    rw [if_neg q5, if_neg (by omega), j0_bad]
    rfl
  rw [if_pos q5, if_pos (by omega), Option.bind_some]
  dsimp only
  by_cases q6 : y1.1 ≤ 1152921504606846976
  case neg =>
    rw [if_pos (by omega), if_neg (by omega), j0_bad]
    rfl
  rw [if_neg (by omega)]
  by_cases q7 : y2.1 ≤ 255
  case neg =>
    rw [decide_eq_true (by omega), if_neg (by omega), j0_bad]
    rfl
  have h7 : decide ((y2.1 : Int) > 255) = false := decide_eq_false (by omega)
  rw [h7, palletref19_Read.j0, if_neg (by decide), i64 (by omega) (by omega), i64 (by omega) (by omega), i64 (by omega) (by omega), One_eq (by omega), Option.bind_some]
  by_cases q8 : 1 ≤ kd ∧ kd ≤ 14
  · rw [decide_eq_true (by unfold okE; simp only; omega), if_pos rfl, if_pos (by omega)]
    rfl
  · rw [decide_eq_false (by unfold okE; simp only; omega), if_neg (by decide), if_neg (by omega)]
    rfl
end Go.Proofs.Ytcbjbgleflbpmaa.Ev19
/- Logs read (layer 19), as printed: the code's answer and the document's are one plain function's. Conditions: bytes; rounds enough. -/
namespace Go.Proofs.Ytcbjbgleflbpmaa.Ev19
open Go Go.RowKit Go.Proofs.Ytcbjbgleflbpmaa.Print Go.Proofs.YtcbjbgleflbpmaaW.PrintWords Go.Proofs.YtcbjbgleflbpmaaW.PrintLast Go.Proofs.YtcbjbgleflbpmaaW.PrintMore Go.Proofs.Ytcbjbgleflbpmaa.Wire Go.Proofs.Ytcbjbgleflbpmaa.WireSpec Go.Proofs.Ytcbjbgleflbpmaa.Wire2 Go.Proofs.Ytcbjbgleflbpmaa.Wire3 Go.Proofs.Ytcbjbgleflbpmaa.Wire4 Go.Proofs.Ytcbjbgleflbpmaa.Wire5 Go.Proofs.Ytcbjbgleflbpmaa.Recs Go.Proofs.Ytcbjbgleflbpmaa.TakeRef
/-- The events that stand from a place on, so many, behind others. -/
def dl (l : List Nat) : Nat → Nat → List E → List E × Int × Int
  | 0, a, xs => if a < l.length then ([], (a : Int), 4) else (xs, 0, 0)
  | n + 1, a, xs => if (re l a).1 = 0 then (if 0 < xs.length ∧ (re l a).2.1.f0 < (xs.getD (xs.length - 1) z).f0 then ([], (a : Int), 4) else dl l n (re l a).2.2 (xs ++ [(re l a).2.1])) else ([], (a : Int), ((re l a).1 : Int))
theorem u64' {x : Nat} (h : x < 18446744073709551616) : IntKind.u64.wrap (x : Int) = (x : Int) := u64_in (by omega) (by omega)
theorem dl_eq (l : List Nat) (hl : By l) (hn : l.length ≤ 1048580) (m : Nat) (hm : m ≤ 20000) (d : Nat) : ∀ (k a i : Nat) (xs : List E), a ≤ l.length → m - i = d → i ≤ m → xs.length = i → 2 * d + 2 * l.length + 40 ≤ k →
    event_Decode.l0 k (cs l) (a : Int) xs (m : Int) (i : Int) = some (dl l d a xs) := by
  induction d with
  | zero =>
    intro k a i xs ha hd hi hx hk
    obtain ⟨k, rfl⟩ : ∃ m, k = m + 1 := ⟨k - 1, by omega⟩
    rw [event_Decode.l0, if_neg (by omega), cs_len, dl]
    by_cases h : a < l.length
    · rw [if_pos (by omega), if_pos h]
    · rw [if_neg (by omega), if_neg h]
  | succ d ih =>
    intro k a i xs ha hd hi hx hk
    obtain ⟨k, rfl⟩ : ∃ m, k = m + 2 := ⟨k - 2, by omega⟩
    rw [event_Decode.l0, if_pos (by omega), Read_eq l hl (by omega) a (by omega), Option.bind_some, dl]
    unfold tup
    dsimp only
    by_cases h0 : (re l a).1 = 0
    · have ok := re_ok hl h0
      rw [if_pos (by omega), if_pos h0]
      have step : ∀ q : Bool, event_Decode.j3 (k + 1) (cs l) (a : Int) xs ((re l a).2.2 : Int) ((re l a).1 : Int) (m : Int) (i : Int) q (re l a).2.1.f0 (re l a).2.1.f1 (re l a).2.1.f2 (re l a).2.1.f3 (re l a).2.1.f4 = some (if q = true then ([], (a : Int), 4) else dl l d (re l a).2.2 (xs ++ [(re l a).2.1])) := by
        intro q
        rw [event_Decode.j3]
        cases q with
        | true => rw [if_pos rfl, if_neg (by decide), if_pos rfl]
        | false =>
          have e1 : IntKind.u64.wrap ((i : Int) + 1) = ((i + 1 : Nat) : Int) := by
            rw [show (i : Int) + 1 = ((i + 1 : Nat) : Int) by omega]
            exact u64' (by omega)
          rw [if_neg (by decide), if_pos (by omega), if_pos (by omega), e1, if_neg (by decide)]
          exact ih k (re l a).2.2 (i + 1) _ ok.2.1 (by omega) (by omega) (by rw [List.length_append, List.length_singleton]; omega) (by omega)
      by_cases h1 : 0 < xs.length
      · rw [if_pos (by omega), i64 (by omega) (by omega), if_pos (by omega), if_pos (by omega), step, show (xs.length : Int) - 1 = ((xs.length - 1 : Nat) : Int) by omega, rd_eq]
        by_cases h2 : (re l a).2.1.f0 < (xs.getD (xs.length - 1) z).f0
        · rw [decide_eq_true h2, if_pos rfl, if_pos ⟨h1, h2⟩]
        · rw [decide_eq_false h2, if_neg (by decide), if_neg (fun q => h2 q.2)]
      · rw [if_neg (by omega), step, if_neg (by decide), if_neg (fun q => h1 q.1)]
    · rw [if_neg (by omega), if_neg h0, event_Decode.j3, if_neg (by decide), if_neg (by omega)]
theorem rdl_eq (l : List Nat) (hl : By l) (hn : l.length ≤ 1048580) (m : Nat) (hm : m ≤ 20000) (d : Nat) : ∀ (k a i : Nat) (xs : List E), a ≤ l.length → m - i = d → i ≤ m → xs.length = i → 2 * d + 2 * l.length + 50 ≤ k →
    palletref19_Decode.l0 k (cs l) (a : Int) xs (m : Int) (i : Int) = some (dl l d a xs) := by
  induction d with
  | zero =>
    intro k a i xs ha hd hi hx hk
    obtain ⟨k, rfl⟩ : ∃ m, k = m + 1 := ⟨k - 1, by omega⟩
    rw [palletref19_Decode.l0, if_neg (by omega), cs_len, dl]
    by_cases h : a < l.length
    · rw [if_neg (by omega), if_pos h]
    · rw [if_pos (by omega), if_neg h]
  | succ d ih =>
    intro k a i xs ha hd hi hx hk
    obtain ⟨k, rfl⟩ : ∃ m, k = m + 2 := ⟨k - 2, by omega⟩
    rw [palletref19_Decode.l0, if_pos (by omega), RRead_eq l hl (by omega) a (by omega), Option.bind_some, dl]
    unfold tup
    dsimp only
    by_cases h0 : (re l a).1 = 0
    · have ok := re_ok hl h0
      rw [if_pos (by omega), if_pos h0]
      have e1 : IntKind.u64.wrap ((i : Int) + 1) = ((i + 1 : Nat) : Int) := by
        rw [show (i : Int) + 1 = ((i + 1 : Nat) : Int) by omega]
        exact u64' (by omega)
      have step : ∀ q : Bool, palletref19_Decode.j2 (k + 1) (cs l) (a : Int) xs ((re l a).2.2 : Int) (m : Int) (i : Int) q (re l a).2.1.f0 (re l a).2.1.f1 (re l a).2.1.f2 (re l a).2.1.f3 (re l a).2.1.f4 = some (if q = true then ([], (a : Int), 4) else dl l d (re l a).2.2 (xs ++ [(re l a).2.1])) := by
        intro q
        rw [palletref19_Decode.j2]
        cases q with
        | true => rw [if_pos rfl, if_pos rfl]
        | false =>
          rw [if_neg (by decide), if_pos (by omega), e1, if_neg (by decide)]
          exact ih k (re l a).2.2 (i + 1) _ ok.2.1 (by omega) (by omega) (by rw [List.length_append, List.length_singleton]; omega) (by omega)
      by_cases h1 : 0 < xs.length
      · rw [if_pos (by omega), i64 (by omega) (by omega), if_pos (by omega), if_pos (by omega), step, show (xs.length : Int) - 1 = ((xs.length - 1 : Nat) : Int) by omega, rd_eq]
        by_cases h2 : (re l a).2.1.f0 < (xs.getD (xs.length - 1) z).f0
        · rw [decide_eq_true h2, if_pos rfl, if_pos ⟨h1, h2⟩]
        · rw [decide_eq_false h2, if_neg (by decide), if_neg (fun q => h2 q.2)]
      · rw [if_neg (by omega), step, if_neg (by decide), if_neg (fun q => h1 q.1)]
    · rw [if_neg (by omega), if_neg h0]
/-- A log's bytes, its sum taken off. -/
def dcb (m : List Nat) : List E × Int × Int :=
  if m.take 5 = [80, 76, 84, 76, 1] then
    if (dv 0 0 (m.drop 5)).2.2 = 0 then
      if 20000 < (dv 0 0 (m.drop 5)).1 then ([], 5, 4) else dl m (dv 0 0 (m.drop 5)).1 (5 + (dv 0 0 (m.drop 5)).2.1) []
    else ([], 5, ((dv 0 0 (m.drop 5)).2.2 : Int))
  else ([], 0, 4)
/-- A log. -/
def dc (l : List Nat) : List E × Int × Int := if l.length < 4 then ([], 0, 3) else if 1048580 < l.length then ([], 0, 6) else if CrcFn.good32 l then dcb (l.take (l.length - 4)) else ([], 0, 5)
theorem hd_cs : ([80, 76, 84, 76, 1] : List Int) = cs [80, 76, 84, 76, 1] := rfl
theorem hd_by : By [80, 76, 84, 76, 1] := by unfold By; decide
theorem prefix_head (m : List Nat) (hm : By m) : bytes_HasPrefix.f (cs m) [80, 76, 84, 76, 1] = some (decide (m.take 5 = [80, 76, 84, 76, 1])) := by
  unfold bytes_HasPrefix.f bytes_Equal.f
  rw [cs_len, show ([80, 76, 84, 76, 1] : List Int).length = 5 from rfl]
  by_cases h : 5 ≤ m.length
  · rw [if_pos h, hd_cs, cs_take]
    have q := CrcFn.nums_iff (l := m.take 5) (m := [80, 76, 84, 76, 1]) (hm.take 5) hd_by
    by_cases c : m.take 5 = [80, 76, 84, 76, 1]
    · rw [decide_eq_true c, c]
      simp
    · rw [decide_eq_false c]
      congr 1
      rw [beq_eq_false_iff_ne]
      exact fun e => c (q.1 e)
  · rw [if_neg h, decide_eq_false]
    intro e
    have := congrArg List.length e
    rw [List.length_take] at this
    simp at this
    omega
theorem end5 {m : List Nat} (hm : By m) (h5 : 5 ≤ m.length) (h : (dv 0 0 (m.drop 5)).2.2 = 0) : 5 + (dv 0 0 (m.drop 5)).2.1 ≤ m.length := by
  have := dv_bound (m.drop 5) 0 0 (dv 0 0 (m.drop 5)).1 (dv 0 0 (m.drop 5)).2.1 (hm.drop 5) (Prod.ext rfl (Prod.ext rfl h))
  rw [List.length_drop] at this
  omega
theorem len5 {m : List Nat} (h : m.take 5 = [80, 76, 84, 76, 1]) : 5 ≤ m.length := by
  have := congrArg List.length h
  rw [List.length_take] at this
  simp at this
  omega
theorem Decode_eq {k : Nat} (l : List Nat) (hl : By l) (hn : l.length ≤ 10000000000) (hk : 11000000 ≤ k) : event_Decode.f k (cs l) = some (dc l) := by
  unfold event_Decode.f
  rw [show cs l = CrcFn.cs l from rfl, CrcFn.Open32_eq l hl hn, Option.bind_some]
  unfold CrcFn.op32 dc
  by_cases h1 : l.length < 4
  · rw [if_pos h1, if_pos h1]
    rfl
  rw [if_neg h1, if_neg h1]
  by_cases h2 : 1048580 < l.length
  · rw [if_pos h2, if_pos h2]
    rfl
  rw [if_neg h2, if_neg h2]
  by_cases h3 : CrcFn.good32 l
  case neg =>
    rw [if_neg h3, if_neg h3]
    rfl
  rw [if_pos h3, if_pos h3]
  have hm : By (l.take (l.length - 4)) := hl.take _
  have hml : (l.take (l.length - 4)).length ≤ 1048576 := by rw [List.length_take]; omega
  generalize l.take (l.length - 4) = m at *
  dsimp only
  rw [if_pos rfl, show CrcFn.cs m = cs m from rfl]
  unfold event_head.f
  rw [Option.bind_some, Option.bind_some, prefix_head m hm, Option.bind_some]
  unfold dcb
  by_cases h4 : m.take 5 = [80, 76, 84, 76, 1]
  case neg =>
    rw [decide_eq_false h4, if_neg (by decide), if_neg h4]
  have h5 := len5 h4
  rw [decide_eq_true h4, if_pos rfl, if_pos h4, show (([80, 76, 84, 76, 1] : List Int).length : Int) = ((5 : Nat) : Int) from rfl, TakeVary_eq m hm (by omega) 5 (by omega), Option.bind_some]
  obtain ⟨k, rfl⟩ : ∃ m, k = m + 2 := ⟨k - 2, by omega⟩
  have hb := end5 hm h5
  rcases hv : dv 0 0 (m.drop 5) with ⟨n, c, e⟩
  rw [hv] at hb
  unfold res
  by_cases h6 : e = 0
  case neg =>
    rw [if_neg h6]
    dsimp only
    rw [if_neg (by omega), event_Decode.j0, if_neg (by decide), event_Decode.j1, if_neg (by omega), if_neg h6]
    rfl
  subst h6
  have hb := hb rfl
  rw [if_pos rfl]
  dsimp only
  rw [if_pos rfl, event_Decode.j0]
  by_cases h7 : 20000 < n
  · rw [decide_eq_true (by omega), if_pos rfl, event_Decode.j1, if_neg (by decide), if_pos rfl, if_pos h7]
    rfl
  · rw [decide_eq_false (by omega), if_neg (by decide), event_Decode.j1, if_pos rfl, if_pos rfl, if_neg h7, show ((5 : Nat) : Int) + (c : Int) = ((5 + c : Nat) : Int) by omega]
    exact dl_eq m hm (by omega) n (by omega) n k (5 + c) 0 [] hb (by omega) (by omega) rfl (by omega)
theorem str_head (m : List Nat) (hm : By m) : ((strOfNums ((cs m).take 5)).toList != ([80, 76, 84, 76, 1] : List UInt8)) = decide (¬ m.take 5 = [80, 76, 84, 76, 1]) := by
  have e : ([80, 76, 84, 76, 1] : List UInt8) = (strOfNums (cs [80, 76, 84, 76, 1])).toList := by decide +kernel
  rw [cs_take, e]
  have q := CrcFn.nums_iff (l := m.take 5) (m := [80, 76, 84, 76, 1]) (hm.take 5) hd_by
  by_cases c : m.take 5 = [80, 76, 84, 76, 1]
  · rw [decide_eq_false (fun h => h c), c]
    simp
  · rw [decide_eq_true c, bne_iff_ne]
    exact fun e => c (q.1 e)
theorem RDecode_eq {k : Nat} (l : List Nat) (hl : By l) (hn : l.length ≤ 10000000000) (hk : 11000000 ≤ k) : palletref19_Decode.f k (cs l) = some (dc l) := by
  unfold palletref19_Decode.f
  rw [show cs l = CrcFn.cs l from rfl, CrcFn.ROpen32_eq l hl hn (by omega), Option.bind_some]
  unfold CrcFn.op32 dc
  by_cases h1 : l.length < 4
  · rw [if_pos h1, if_pos h1]
    rfl
  rw [if_neg h1, if_neg h1]
  by_cases h2 : 1048580 < l.length
  · rw [if_pos h2, if_pos h2]
    rfl
  rw [if_neg h2, if_neg h2]
  by_cases h3 : CrcFn.good32 l
  case neg =>
    rw [if_neg h3, if_neg h3]
    rfl
  rw [if_pos h3, if_pos h3]
  have hm : By (l.take (l.length - 4)) := hl.take _
  have hml : (l.take (l.length - 4)).length ≤ 1048576 := by rw [List.length_take]; omega
  generalize l.take (l.length - 4) = m at *
  dsimp only
  obtain ⟨k, rfl⟩ : ∃ m, k = m + 1 := ⟨k - 1, by omega⟩
  rw [if_pos rfl, show CrcFn.cs m = cs m from rfl, cs_len]
  unfold dcb
  by_cases h5 : m.length < 5
  · rw [if_pos (by omega), if_neg (fun h => by have := len5 h; omega), palletref19_Decode.j0, if_pos rfl]
  rw [if_neg (by omega), if_pos (by omega), str_head m hm, palletref19_Decode.j0]
  by_cases h4 : m.take 5 = [80, 76, 84, 76, 1]
  case neg =>
    rw [decide_eq_true h4, if_pos rfl, if_neg h4]
  rw [decide_eq_false (fun h => h h4), if_neg (by decide), if_pos h4, show (5 : Int) = ((5 : Nat) : Int) from rfl, RTakeVary_eq m hm (by omega) 5 (by omega) (by omega), Option.bind_some]
  have hb := end5 hm (by omega)
  rcases hv : dv 0 0 (m.drop 5) with ⟨n, c, e⟩
  rw [hv] at hb
  unfold res
  by_cases h6 : e = 0
  case neg =>
    rw [if_neg h6]
    dsimp only
    rw [if_neg (by omega), if_neg h6]
  subst h6
  have hb := hb rfl
  rw [if_pos rfl]
  dsimp only
  rw [if_pos rfl]
  by_cases h7 : 20000 < n
  · rw [if_pos (by omega), if_pos rfl, if_pos h7]
  · rw [if_neg (by omega), if_pos rfl, if_neg h7, show ((5 : Nat) : Int) + (c : Int) = ((5 + c : Nat) : Int) by omega]
    exact rdl_eq m hm (by omega) n (by omega) n k (5 + c) 0 [] hb (by omega) (by omega) rfl (by omega)
end Go.Proofs.Ytcbjbgleflbpmaa.Ev19
