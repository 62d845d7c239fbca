/- Two nodes' means are apart by no more than half of the clocks' spread, and what readings are off, whatever a liar tells. Conditions: none but that each number is of its kind, and each list's length a slice's. -/
import Derived.Test.YticlckhgobegnaaFta09b
import Derived.Test.YticlckhgobegnaaPrint0
import Derived.Test.YticlckhgobegnaaPrint9
import Derived.Test.YticlckhgobegnaaPrint11
import Derived.Test.YticlckhgobegnaaPrint12
set_option linter.unusedVariables false
set_option linter.unusedSimpArgs false
namespace Go.Proofs.Yticlckhgobegnaa.Pure
open Go Go.RowKit Go.Proofs.Yticlckhgobegnaa.Print Go.Proofs.YticlckhgobegnaaW.PrintWords Go.Proofs.YticlckhgobegnaaW.PrintLast Go.Proofs.YticlckhgobegnaaW.PrintMore Go.Proofs.Yticlckhgobegnaa.Fta09
theorem wf32 {x : Int} (h : (Lit.int .i32 x).wf = true) : -2147483648 ≤ x ∧ x ≤ 2147483647 := by
  simpa [Lit.wf, IntKind.min, IntKind.max, IntKind.signed, IntKind.bits] using h
theorem wf16 {x : Int} (h : (Lit.int .i16 x).wf = true) : -32768 ≤ x ∧ x ≤ 32767 := by
  simpa [Lit.wf, IntKind.min, IntKind.max, IntKind.signed, IntKind.bits] using h
/-- Clocks as they are read. -/
def rds : List Int → List Int → List Int
  | [], _ => []
  | c :: cs, r => (c + r.getD 0 0) :: rds cs r.tail
theorem rds_len : ∀ c r, (rds c r).length = c.length
  | [], _ => rfl
  | c :: cs, r => by rw [rds, List.length_cons, List.length_cons, rds_len cs]
theorem tail_D (r : List Int) (i : Nat) : r.tail.getD i 0 = r.getD (i + 1) 0 := by
  cases r <;> simp
theorem rds_get : ∀ (c r : List Int) (i : Nat) (h : i < c.length), (rds c r)[i]'(by rw [rds_len]; exact h) = c[i] + r.getD i 0
  | c :: cs, r, 0, h => rfl
  | c :: cs, r, i + 1, h => by
    have := rds_get cs r.tail i (by simp at h; omega)
    rw [tail_D] at this
    simpa [rds] using this
def R (r : List Int) : Prop := ∀ y ∈ r, -32768 ≤ y ∧ y ≤ 32767
theorem R_D {r : List Int} (h : R r) (i : Nat) : -32768 ≤ r.getD i 0 ∧ r.getD i 0 ≤ 32767 := by
  by_cases hi : i < r.length
  · rw [gD hi]
    exact h _ (List.getElem_mem _)
  · rw [gD0 (by omega)]
    omega
theorem R_tail {r : List Int} (h : R r) : R r.tail := fun y hy => h y (List.mem_of_mem_tail hy)
theorem cnt_le (v : Int) : ∀ (c r : List Int), R r → c.countP (fun x => decide (x ≤ v)) ≤ (rds c r).countP fun x => decide (x ≤ v + 32768)
  | [], _, _ => by simp
  | c :: cs, r, h => by
    have ih := cnt_le v cs r.tail (R_tail h)
    have hd := R_D h 0
    rw [rds, List.countP_cons, List.countP_cons]
    by_cases g : c ≤ v
    · rw [if_pos (by simpa using g), if_pos (by simp only [decide_eq_true_eq]; omega)]
      omega
    · rw [if_neg (by simpa using g)]
      omega
theorem cnt_ge (v : Int) : ∀ (c r : List Int), R r → c.countP (fun x => decide (v ≤ x)) ≤ (rds c r).countP fun x => decide (v - 32768 ≤ x)
  | [], _, _ => by simp
  | c :: cs, r, h => by
    have ih := cnt_ge v cs r.tail (R_tail h)
    have hd := R_D h 0
    rw [rds, List.countP_cons, List.countP_cons]
    by_cases g : v ≤ c
    · rw [if_pos (by simpa using g), if_pos (by simp only [decide_eq_true_eq]; omega)]
      omega
    · rw [if_neg (by simpa using g)]
      omega
/-- What a node has: the clocks as read, and what a liar told. -/
def has (c r : List Int) (a : Int) : List Int := rds c r ++ [a]
theorem has_len (c r : List Int) (a : Int) : (has c r a).length = c.length + 1 := by
  unfold has
  rw [List.length_append, rds_len]
  rfl
theorem has_le (v : Int) (c r : List Int) (a : Int) (h : R r) : c.countP (fun x => decide (x ≤ v)) ≤ (srt (has c r a)).countP fun x => decide (x ≤ v + 32768) := by
  rw [(srt_perm _).countP_eq]
  unfold has
  rw [List.countP_append]
  have := cnt_le v c r h
  omega
theorem has_ge (v : Int) (c r : List Int) (a : Int) (h : R r) : c.countP (fun x => decide (v ≤ x)) ≤ (srt (has c r a)).countP fun x => decide (v - 32768 ≤ x) := by
  rw [(srt_perm _).countP_eq]
  unfold has
  rw [List.countP_append]
  have := cnt_ge v c r h
  omega
theorem lo_eq (c r : List Int) (a : Int) (h3 : 3 ≤ c.length) : lo (has c r a) = (srt (has c r a))[1]'(by rw [srt_len, has_len]; omega) := by
  unfold lo
  rw [if_pos (by rw [has_len]; omega), gD]
theorem hi_eq (c r : List Int) (a : Int) (h3 : 3 ≤ c.length) : hi (has c r a) = (srt (has c r a))[c.length - 1]'(by rw [srt_len, has_len]; omega) := by
  unfold hi
  rw [if_pos (by rw [has_len]; omega), gD (by rw [srt_len, has_len]; omega)]
  congr 1
  rw [has_len]
  omega
theorem lo_le (c r : List Int) (a : Int) (h : R r) (h3 : 3 ≤ c.length) (v : Int) (hv : 2 ≤ c.countP fun x => decide (x ≤ v)) : lo (has c r a) ≤ v + 32768 := by
  rw [lo_eq c r a h3]
  exact kth_le (srt_le _) _ 1 _ (by have := has_le v c r a h; omega)
theorem hi_ge (c r : List Int) (a : Int) (h : R r) (h3 : 3 ≤ c.length) (v : Int) (hv : 2 ≤ c.countP fun x => decide (v ≤ x)) : v - 32768 ≤ hi (has c r a) := by
  rw [hi_eq c r a h3]
  exact kth_ge (srt_le _) _ _ _ (by rw [srt_len, has_len]; have := has_ge v c r a h; omega)
theorem lo_ge (c r : List Int) (a : Int) (h : R r) (h3 : 3 ≤ c.length) (v : Int) (hv : ∀ x ∈ c, v ≤ x) : v - 32768 ≤ lo (has c r a) := by
  rw [lo_eq c r a h3]
  refine kth_ge (srt_le _) _ _ _ ?_
  have e : (c.countP fun x => decide (v ≤ x)) = c.length := List.countP_eq_length.2 fun x hx => decide_eq_true (hv x hx)
  rw [srt_len, has_len]
  have := has_ge v c r a h
  omega
theorem hi_le (c r : List Int) (a : Int) (h : R r) (h3 : 3 ≤ c.length) (v : Int) (hv : ∀ x ∈ c, x ≤ v) : hi (has c r a) ≤ v + 32768 := by
  rw [hi_eq c r a h3]
  refine kth_le (srt_le _) _ _ _ ?_
  have e : (c.countP fun x => decide (x ≤ v)) = c.length := List.countP_eq_length.2 fun x hx => decide_eq_true (hv x hx)
  have := has_le v c r a h
  omega
theorem second (c : List Int) (h3 : 3 ≤ c.length) : ∃ x, 2 ≤ (c.countP fun y => decide (y ≤ x)) ∧ 2 ≤ c.countP fun y => decide (x ≤ y) := by
  have hs := srt_le c
  have hl := srt_len c
  have p1 := fun x => (srt_perm c).countP_eq (p := fun y => decide (y ≤ x))
  have p2 := fun x => (srt_perm c).countP_eq (p := fun y => decide (x ≤ y))
  revert hs hl p1 p2
  generalize srt c = s
  intro hs hl p1 p2
  match s, hs, hl, p1, p2 with
  | x0 :: x1 :: x2 :: t, hs, hl, p1, p2 =>
    rw [List.pairwise_cons, List.pairwise_cons] at hs
    have a1 := hs.1 x1 (by simp)
    have a2 := hs.2.1 x2 (by simp)
    refine ⟨x1, ?_, ?_⟩
    · rw [← p1, List.countP_cons, List.countP_cons, if_pos (by simp), if_pos (by simpa using a1)]
      omega
    · rw [← p2, List.countP_cons, List.countP_cons, List.countP_cons, if_pos (show decide (x1 ≤ x1) = true by simp), if_pos (show decide (x1 ≤ x2) = true by simpa using a2)]
      omega
  | [], hs, hl, p1, p2 => simp at hl; omega
  | [_], hs, hl, p1, p2 => simp at hl; omega
  | [_, _], hs, hl, p1, p2 => simp at hl; omega
theorem near (c r q : List Int) (a b : Int) (hr : R r) (hq : R q) (h3 : 3 ≤ c.length) (m M : Int) (hm : ∀ x ∈ c, m ≤ x) (hM : ∀ x ∈ c, x ≤ M) :
    mid (lo (has c r a)) (hi (has c r a)) - mid (lo (has c q b)) (hi (has c q b)) ≤ (M - m) / 2 + 65536 + 1 := by
  obtain ⟨x, x1, x2⟩ := second c h3
  have e1 := lo_le c r a hr h3 x x1
  have e2 := hi_le c r a hr h3 M hM
  have e3 := lo_ge c q b hq h3 m hm
  have e4 := hi_ge c q b hq h3 x x2
  unfold mid
  omega
theorem within (c r : List Int) (a : Int) (hr : R r) (h3 : 3 ≤ c.length) (m M : Int) (hm : ∀ x ∈ c, m ≤ x) (hM : ∀ x ∈ c, x ≤ M) :
    m - 32768 ≤ mid (lo (has c r a)) (hi (has c r a)) ∧ mid (lo (has c r a)) (hi (has c r a)) ≤ M + 32768 := by
  obtain ⟨x, x1, x2⟩ := second c h3
  obtain ⟨y, hy, hyx⟩ := List.countP_pos_iff.1 (show 0 < c.countP fun y => decide (y ≤ x) by omega)
  obtain ⟨z, hz, hzx⟩ := List.countP_pos_iff.1 (show 0 < c.countP fun y => decide (x ≤ y) by omega)
  have f1 := hm y hy
  have f2 := hM z hz
  simp only [decide_eq_true_eq] at hyx hzx
  have e1 := lo_le c r a hr h3 x x1
  have e2 := hi_le c r a hr h3 M hM
  have e3 := lo_ge c r a hr h3 m hm
  have e4 := hi_ge c r a hr h3 x x2
  unfold mid
  omega
theorem max_le (v : Int) : ∀ (l : List Int) (a : Int), a ≤ v → (∀ x ∈ l, x ≤ v) → l.foldl max a ≤ v
  | [], a, h, _ => h
  | b :: l, a, h, g => by
    rw [List.foldl_cons]
    have := g b (by simp)
    exact max_le v l _ (by omega) fun x hx => g x (by simp [hx])
theorem le_max : ∀ (l : List Int) (a : Int), a ≤ l.foldl max a ∧ ∀ x ∈ l, x ≤ l.foldl max a
  | [], a => ⟨Int.le_refl _, fun x hx => by simp at hx⟩
  | b :: l, a => by
    have ih := le_max l (max a b)
    rw [List.foldl_cons]
    refine ⟨by omega, fun x hx => ?_⟩
    rcases List.mem_cons.1 hx with rfl | hx
    · omega
    · exact ih.2 x hx
theorem le_min (v : Int) : ∀ (l : List Int) (a : Int), v ≤ a → (∀ x ∈ l, v ≤ x) → v ≤ l.foldl min a
  | [], a, h, _ => h
  | b :: l, a, h, g => by
    rw [List.foldl_cons]
    have := g b (by simp)
    exact le_min v l _ (by omega) fun x hx => g x (by simp [hx])
theorem min_le : ∀ (l : List Int) (a : Int), l.foldl min a ≤ a ∧ ∀ x ∈ l, l.foldl min a ≤ x
  | [], a => ⟨Int.le_refl _, fun x hx => by simp at hx⟩
  | b :: l, a => by
    have ih := min_le l (min a b)
    rw [List.foldl_cons]
    refine ⟨by omega, fun x hx => ?_⟩
    rcases List.mem_cons.1 hx with rfl | hx
    · omega
    · exact ih.2 x hx
theorem spread (c : List Int) (hc : ∀ y ∈ c, -2147483648 ≤ y ∧ y ≤ 2147483647) (h3 : 3 ≤ c.length) (h40 : c.length ≤ 40) :
    ∃ m M, (∀ x ∈ c, m ≤ x) ∧ (∀ x ∈ c, x ≤ M) ∧ -2147483648 ≤ m ∧ m ≤ M ∧ M ≤ 2147483647 ∧ fta_Spread.f c = some (M - m, 0) := by
  match c, h3 with
  | x :: t, h3 =>
    have a1 := le_max (x :: t) x
    have a2 := min_le (x :: t) x
    have b1 := max_le 2147483647 (x :: t) x (hc x (by simp)).2 fun y hy => (hc y hy).2
    have b2 := le_min (-2147483648) (x :: t) x (hc x (by simp)).1 fun y hy => (hc y hy).1
    refine ⟨(x :: t).foldl min x, (x :: t).foldl max x, a2.2, a1.2, b2, by omega, b1, ?_⟩
    unfold fta_Spread.f slices_Max_int64_int64.f slices_Min_int64_int64.f
    rw [if_neg (by omega), if_neg (by omega), if_pos (by omega), if_pos (by omega), Option.bind_some, Option.bind_some]
    have e1 : Lib.maxOf (x :: t) = (x :: t).foldl max x := rfl
    have e2 : Lib.minOf (x :: t) = (x :: t).foldl min x := rfl
    rw [e1, e2]
    generalize (x :: t).foldl max x = M at *
    generalize (x :: t).foldl min x = m at *
    rw [Go.Proofs.Yticlckhgobegnaa.Fta09.i64 (by omega) (by omega)]
    have : IntKind.u64.wrap (M - m) = M - m := by
      simp [IntKind.wrap, IntKind.bits, IntKind.signed]
      omega
    rw [this]
theorem rdn (l : List Int) (i : Nat) : rd l (i : Int) = l.getD i 0 := by
  unfold rd
  rw [Int.toNat_natCast]
theorem lies_l0 (c r q : List Int) (a b : Int) (hc : ∀ y ∈ c, -2147483648 ≤ y ∧ y ≤ 2147483647) (hr : R r) (hq : R q) (h3 : 3 ≤ c.length) (h40 : c.length ≤ 40) (ha : -1125899906842624 ≤ a ∧ a ≤ 1125899906842624) (hb : -1125899906842624 ≤ b ∧ b ≤ 1125899906842624)
    (d : Nat) : ∀ (k i : Nat), c.length - i = d → i ≤ c.length → d + 2 ≤ k →
    palletlaw09_FtaLies.l0 k r q a b true ((rds c r).take i) ((rds c q).take i) (c.take i) c (c.length : Int) (i : Int) = some true := by
  induction d with
  | zero =>
    intro k i hd hil hk
    obtain ⟨k, rfl⟩ : ∃ m, k = m + 2 := ⟨k - 2, by omega⟩
    have hie : i = c.length := by omega
    subst hie
    obtain ⟨m, M, hm, hM, g1, g2, g3, es⟩ := spread c hc h3 h40
    have w : ∀ (r : List Int) (a : Int), R r → (-1125899906842624 ≤ a ∧ a ≤ 1125899906842624) → W (has c r a) := by
      intro r a hr ha y hy
      unfold has at hy
      rw [List.mem_append] at hy
      rcases hy with hy | hy
      · obtain ⟨i, hi, rfl⟩ := List.mem_iff_getElem.1 hy
        rw [rds_len] at hi
        rw [rds_get c r i hi]
        have := R_D hr i
        have := hc _ (List.getElem_mem hi)
        omega
      · rw [List.mem_singleton] at hy
        omega
    have t0 : ∀ r, (rds c r).take c.length = rds c r := fun r => List.take_of_length_le (by rw [rds_len]; omega)
    have e1 : fta_Average.f (rds c r ++ [a]) = some (mid (lo (has c r a)) (hi (has c r a)), 0) := by
      refine (avg_eq _ (w r a hr ha)).trans ?_
      unfold avg
      rw [has_len, if_neg (by omega), if_neg (by omega)]
    have e2 : fta_Average.f (rds c q ++ [b]) = some (mid (lo (has c q b)) (hi (has c q b)), 0) := by
      refine (avg_eq _ (w q b hq hb)).trans ?_
      unfold avg
      rw [has_len, if_neg (by omega), if_neg (by omega)]
    have n1 := near c r q a b hr hq h3 m M hm hM
    have n2 := near c q r b a hq hr h3 m M hm hM
    have v1 := within c r a hr h3 m M hm hM
    have v2 := within c q b hq h3 m M hm hM
    rw [palletlaw09_FtaLies.l0, if_neg (by omega), t0, t0, List.take_length, if_pos (by rw [rds_len]; omega), e1, Option.bind_some, if_pos (by rw [rds_len]; omega), e2, Option.bind_some, es, Option.bind_some, if_pos rfl, if_pos rfl, if_pos rfl]
    dsimp only
    rw [decide_eq_false (by omega), palletlaw09_FtaLies.j2, if_neg (by simp)]
    generalize mid (lo (has c r a)) (hi (has c r a)) = x at *
    generalize mid (lo (has c q b)) (hi (has c q b)) = y at *
    have ed : Int.tdiv (M - m) 2 = (M - m) / 2 := Int.tdiv_eq_ediv_of_nonneg (by omega)
    rw [Go.Proofs.Yticlckhgobegnaa.Fta09.i64 (x := x - y) (by omega) (by omega), Go.Proofs.Yticlckhgobegnaa.Fta09.i64 (x := -(x - y)) (by omega) (by omega), Go.Proofs.Yticlckhgobegnaa.Fta09.i64 (x := M - m) (by omega) (by omega), ed, Go.Proofs.Yticlckhgobegnaa.Fta09.i64 (x := (M - m) / 2) (by omega) (by omega), show (2 * 32768 : Int) = 65536 by decide, Go.Proofs.Yticlckhgobegnaa.Fta09.i64 (x := 65536) (by omega) (by omega), Go.Proofs.Yticlckhgobegnaa.Fta09.i64 (x := (M - m) / 2 + 65536) (by omega) (by omega), Go.Proofs.Yticlckhgobegnaa.Fta09.i64 (x := (M - m) / 2 + 65536 + 1) (by omega) (by omega)]
    by_cases hn : x - y < 0
    · rw [if_pos hn, if_pos rfl, decide_eq_true (by omega)]
    · rw [if_neg hn, if_pos rfl, decide_eq_true (by omega)]
  | succ d ih =>
    intro k i hd hil hk
    obtain ⟨k, rfl⟩ : ∃ m, k = m + 1 := ⟨k - 1, by omega⟩
    have hil : i < c.length := by omega
    have hci := hc _ (List.getElem_mem hil)
    have s0 : c.take i ++ [wrap64 (c[i])] = c.take (i + 1) := by
      rw [List.take_succ_eq_append_getElem hil, Go.Proofs.Yticlckhgobegnaa.Fta09.i64 (by omega) (by omega)]
    have s1 : ∀ r, R r → (rds c r).take i ++ [wrap64 (wrap64 (c[i]) + wrap64 (r.getD i 0))] = (rds c r).take (i + 1) := by
      intro r hr
      have := R_D hr i
      rw [List.take_succ_eq_append_getElem (by rw [rds_len]; exact hil), rds_get c r i hil, Go.Proofs.Yticlckhgobegnaa.Fta09.i64 (x := c[i]) (by omega) (by omega), Go.Proofs.Yticlckhgobegnaa.Fta09.i64 (x := r.getD i 0) (by omega) (by omega), Go.Proofs.Yticlckhgobegnaa.Fta09.i64 (by omega) (by omega)]
    have s2 : ∀ r, ¬ (i : Int) < (r.length : Int) → (rds c r).take i ++ [wrap64 (wrap64 (c[i]))] = (rds c r).take (i + 1) := by
      intro r hr
      rw [List.take_succ_eq_append_getElem (by rw [rds_len]; exact hil), rds_get c r i hil, gD0 (by omega), Go.Proofs.Yticlckhgobegnaa.Fta09.i64 (x := c[i]) (by omega) (by omega), Go.Proofs.Yticlckhgobegnaa.Fta09.i64 (by omega) (by omega), Int.add_zero]
    have l0 : ∀ r, ((rds c r).take i).length < 17592186044416 := fun r => by
      rw [List.length_take, rds_len]
      omega
    have lc : (c.take i).length < 17592186044416 := by
      rw [List.length_take]
      omega
    have go := ih k (i + 1) (by omega) (by omega) (by omega)
    rw [palletlaw09_FtaLies.l0, if_pos (by omega), if_pos (by omega), if_pos (by omega), rdn, rdn, rdn, gD hil, Go.Proofs.Yticlckhgobegnaa.Fta09.i64 (x := (i : Int) + 1) (by omega) (by omega), show (i : Int) + 1 = ((i + 1 : Nat) : Int) by omega]
    by_cases g1 : (i : Int) < (r.length : Int)
    · rw [if_pos g1]
      by_cases g2 : (i : Int) < (q.length : Int)
      · rw [if_pos g2, if_pos lc, if_pos (l0 r), if_pos (l0 q), s0, s1 r hr, s1 q hq]
        exact go
      · rw [if_neg g2, if_pos lc, if_pos (l0 r), if_pos (l0 q), s0, s1 r hr, s2 q g2]
        exact go
    · rw [if_neg g1]
      by_cases g2 : (i : Int) < (q.length : Int)
      · rw [if_pos g2, if_pos lc, if_pos (l0 r), if_pos (l0 q), s0, s2 r g1, s1 q hq]
        exact go
      · rw [if_neg g2, if_pos lc, if_pos (l0 r), if_pos (l0 q), s0, s2 r g1, s2 q g2]
        exact go
theorem tm (x : Int) : -1125899906842624 ≤ Int.tmod x 1125899906842624 ∧ Int.tmod x 1125899906842624 ≤ 1125899906842624 := by
  have a := Int.tmod_lt_of_pos x (show (0 : Int) < 1125899906842624 by decide)
  have b := Int.tmod_lt_of_pos (-x) (show (0 : Int) < 1125899906842624 by decide)
  rw [Int.neg_tmod] at b
  generalize Int.tmod x 1125899906842624 = t at *
  omega
theorem FtaLies : ∀ (l0 : List Int) (l1 : List Int) (l2 : List Int) (a3 : Int) (a4 : Int), l0.length ≤ maxLen → l0.length * 4 ≤ 140737488351232 → (∀ y ∈ l0, (Lit.int .i32 y).wf = true) → l1.length ≤ maxLen → l1.length * 2 ≤ 140737488351232 → (∀ y ∈ l1, (Lit.int .i16 y).wf = true) → l2.length ≤ maxLen → l2.length * 2 ≤ 140737488351232 → (∀ y ∈ l2, (Lit.int .i16 y).wf = true) → (Lit.int .i64 a3).wf = true → (Lit.int .i64 a4).wf = true → ∃ k, palletlaw09_FtaLies.f k l0 l1 l2 a3 a4 = some true := by
  intro c r q a b hc1 hc2 hc hr1 hr2 hr hq1 hq2 hq ha hb
  have hc : ∀ y ∈ c, -2147483648 ≤ y ∧ y ≤ 2147483647 := fun y hy => wf32 (hc y hy)
  have hr : R r := fun y hy => wf16 (hr y hy)
  have hq : R q := fun y hy => wf16 (hq y hy)
  refine ⟨100, ?_⟩
  unfold palletlaw09_FtaLies.f
  rw [live9, Option.bind_some, if_pos rfl]
  by_cases h3 : (c.length : Int) < 3
  · rw [if_pos h3, palletlaw09_FtaLies.j0, if_pos rfl]
  · rw [if_neg h3]
    by_cases h40 : (c.length : Int) > 40
    · rw [decide_eq_true h40, palletlaw09_FtaLies.j0, if_pos rfl]
    · rw [decide_eq_false h40, palletlaw09_FtaLies.j0, if_neg (by simp)]
      have := lies_l0 c r q _ _ hc hr hq (by omega) (by omega) (tm a) (tm b) c.length 99 0 (by omega) (by omega) (by omega)
      simpa using this
end Go.Proofs.Yticlckhgobegnaa.Pure
