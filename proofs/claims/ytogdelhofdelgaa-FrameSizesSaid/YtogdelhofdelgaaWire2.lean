/- Numbers written as bytes, and read (layer 2), as printed: what each function answers, by WireSpec. -/
import Derived.Test.YtogdelhofdelgaaWireSpec
import Derived.Test.YtogdelhofdelgaaWire
import Derived.Test.YtogdelhofdelgaaLen64
import Derived.Test.YtogdelhofdelgaaDigits
import Derived.Test.YtogdelhofdelgaaPrint0
import Derived.Test.YtogdelhofdelgaaPrint2
import Derived.Test.YtogdelhofdelgaaPrint4
import Derived.Test.YtogdelhofdelgaaPrint5
import Derived.Test.YtogdelhofdelgaaPrint6
import Derived.Test.YtogdelhofdelgaaPrint8
import Derived.Test.YtogdelhofdelgaaPrint18
set_option linter.unusedVariables false
set_option linter.unusedSimpArgs false
namespace Go.Proofs.Ytogdelhofdelgaa.Wire2
open Go Go.RowKit Go.Proofs.Ytogdelhofdelgaa.Print Go.Proofs.YtogdelhofdelgaaW.PrintWords Go.Proofs.YtogdelhofdelgaaW.PrintLast Go.Proofs.YtogdelhofdelgaaW.PrintMore Go.Proofs.Ytogdelhofdelgaa.Len64 Go.Proofs.Ytogdelhofdelgaa.Digits Go.Proofs.Ytogdelhofdelgaa.Wire Go.Proofs.Ytogdelhofdelgaa.WireSpec
def C : Nat → Nat → List Nat
  | 0, m => [m % 128 + 128]
  | j + 1, m => (m / 128 ^ (j + 1) % 128 + 128) :: C j m
theorem C_snoc (j : Nat) : ∀ m, C (j + 1) m = C j (m / 128) ++ [m % 128 + 128] := by
  induction j with
  | zero => intro m; simp [C]
  | succ j ih =>
    intro m
    rw [C, ih m]
    show _ = ((m / 128) / 128 ^ (j + 1) % 128 + 128) :: C j (m / 128) ++ [m % 128 + 128]
    rw [Nat.div_div_eq_div_mul, Nat.mul_comm 128, ← Nat.pow_succ]
    rfl
theorem C_vc (j : Nat) : ∀ m, m < 128 ^ (j + 1) → (j = 0 ∨ 128 ^ j ≤ m) → C j m = vc m := by
  induction j with
  | zero =>
    intro m h _
    have h : m < 128 := by simpa using h
    rw [vc_small h, C, Nat.mod_eq_of_lt h]
  | succ j ih =>
    intro m h h2
    have h2 : 128 ^ (j + 1) ≤ m := by omega
    have h3 : 128 ^ 1 ≤ 128 ^ (j + 1) := Nat.pow_le_pow_right (by decide) (by omega)
    rw [C_snoc, vc_step (by omega), ih (m / 128) (by rw [Nat.pow_succ] at h; omega) (Or.inr (by rw [Nat.pow_succ] at h2; omega))]
theorem G_C (j : Nat) : ∀ n, G 128 off7 (j + 1) n = C j (n / 128) ++ [n % 128] := by
  induction j with
  | zero => intro n; simp [C, G, off7]
  | succ j ih =>
    intro n
    rw [G, ih n]
    show _ = ((n / 128) / 128 ^ (j + 1) % 128 + 128) :: C j (n / 128) ++ [n % 128]
    rw [Nat.div_div_eq_div_mul, Nat.mul_comm 128, ← Nat.pow_succ]
    rfl
theorem G_vb (j n : Nat) (h : n < 128 ^ (j + 1)) (h2 : j = 0 ∨ 128 ^ j ≤ n) : G 128 off7 j n = vb n := by
  cases j with
  | zero =>
    have h : n < 128 := by simpa using h
    rw [vb_small h, G, Nat.mod_eq_of_lt h]
    rfl
  | succ j =>
    have h2 : 128 ^ (j + 1) ≤ n := by omega
    have h3 : 128 ^ 1 ≤ 128 ^ (j + 1) := Nat.pow_le_pow_right (by decide) (by omega)
    rw [G_C, vb_step (by omega), C_vc j (n / 128) (by rw [Nat.pow_succ] at h; omega) ?_]
    by_cases e : j = 0
    · exact Or.inl e
    · exact Or.inr (by rw [Nat.pow_succ] at h2; omega)
theorem cs_append (l m : List Nat) : cs (l ++ m) = cs l ++ cs m := by unfold cs; rw [List.map_append]
theorem cs_len (l : List Nat) : (cs l).length = l.length := by unfold cs; rw [List.length_map]
theorem cs_drop (l : List Nat) (n : Nat) : (cs l).drop n = cs (l.drop n) := by unfold cs; rw [List.map_drop]
theorem cs_take (l : List Nat) (n : Nat) : (cs l).take n = cs (l.take n) := by unfold cs; rw [List.map_take]
theorem cs_one (n : Nat) : [(n : Int)] = cs [n] := rfl
theorem cs_rd (l : List Nat) (i : Nat) : rd (cs l) (i : Int) = ((l.getD i 0 : Nat) : Int) := by
  unfold rd cs
  rw [Int.toNat_natCast, List.getD_eq_getElem?_getD, List.getD_eq_getElem?_getD, List.getElem?_map]
  cases l[i]? <;> rfl
theorem cs_inj {l m : List Nat} (h : cs l = cs m) : l = m := by
  unfold cs at h
  induction l generalizing m with
  | nil => cases m with
    | nil => rfl
    | cons b m => simp at h
  | cons a l ih =>
    cases m with
    | nil => simp at h
    | cons b m =>
      simp only [List.map_cons, List.cons.injEq] at h
      rw [ih h.2, show a = b by omega]
/-- Bytes that came in are a list of numbers below 256. -/
theorem bytes_of {l : List Int} (h : ∀ y ∈ l, (Lit.int .u8 y).wf = true) : ∃ m : List Nat, l = cs m ∧ By m := by
  refine ⟨l.map Int.toNat, ?_, ?_⟩
  · unfold cs
    rw [List.map_map]
    have : ∀ y ∈ l, ((fun a : Nat => (a : Int)) ∘ Int.toNat) y = y := by
      intro y hy
      have h : 0 ≤ y ∧ y ≤ 255 := by simpa [Lit.wf, IntKind.min, IntKind.max, IntKind.signed, IntKind.bits] using h y hy
      show ((y.toNat : Nat) : Int) = y
      omega
    rw [List.map_congr_left this, List.map_id']
  · intro x hx
    obtain ⟨y, hy, rfl⟩ := List.mem_map.1 hx
    have h : 0 ≤ y ∧ y ≤ 255 := by simpa [Lit.wf, IntKind.min, IntKind.max, IntKind.signed, IntKind.bits] using h y hy
    omega
theorem same_eq (l m : List Nat) (hl : By l) (hm : By m) : palletref02_Same.f (cs l) (cs m) = some (decide (l = m)) := by
  unfold palletref02_Same.f
  congr 1
  rw [Bool.eq_iff_iff, beq_iff_eq, decide_eq_true_eq]
  exact ⟨fun h => bytes_inj l m hl hm h, fun h => by rw [h]⟩
theorem same_self (l : List Int) : palletref02_Same.f l l = some true := by
  unfold palletref02_Same.f
  rw [beq_self_eq_true]
theorem clone_cs (l : List Nat) (h : l.length < 17592186044416) : slices_Clone_byte_byte.f (cs l) = some (cs l) := clone_eq _ (by rw [cs_len]; exact h)
/-- A number behind a text, the program's way. -/
theorem put_l0' (n : Nat) : ∀ (j k : Nat) (x0 : List Int), j ≤ 9 → j < k → x0.length + j ≤ 140737488355000 → wire_put.l0 k x0 (n : Int) (j : Int) = some (x0 ++ cs (G 128 off7 j n))
  | 0, k, x0, hj, hk, hx => by
    obtain ⟨k, rfl⟩ : ∃ m, k = m + 1 := ⟨k - 1, by omega⟩
    simp only [wire_put.l0]
    rw [if_neg (by omega), if_pos (by omega), and127]
    rfl
  | j + 1, k, x0, hj, hk, hx => by
    obtain ⟨k, rfl⟩ : ∃ m, k = m + 1 := ⟨k - 1, by omega⟩
    have ih := put_l0' n j k (x0 ++ [(((n / 128 ^ (j + 1)) % 128 + 128 : Nat) : Int)]) (by omega) (by omega)
    simp only [wire_put.l0]
    rw [if_pos (by omega), w64 (x := 7 * ((j + 1 : Nat) : Int)) (by omega) (by omega), if_pos (by omega), if_pos (by omega), shr7 n (j + 1) hj, or128, w64 (by omega) (by omega), show ((j + 1 : Nat) : Int) - 1 = (j : Int) by omega]
    rw [ih (by rw [List.length_append, List.length_singleton]; omega), List.append_assoc]
    rfl
theorem put_eq' (n : Nat) (hn : n < 18446744073709551616) {k : Nat} (hk : 40 ≤ k) (x0 : List Int) (hx : x0.length ≤ 140737488354900) : wire_put.f k x0 (n : Int) = some (x0 ++ cs (vb n)) := by
  obtain ⟨k, rfl⟩ : ∃ m, k = m + 1 := ⟨k - 1, by omega⟩
  by_cases h0 : n = 0
  · subst h0
    unfold wire_put.f
    rw [show ((0 : Nat) : Int) = 0 from rfl, len_zero (by omega), Option.bind_some, show wrap64 (mx 1 (wrap64 (Int.tdiv (wrap64 (0 + 6)) 7)) - 1) = ((0 : Nat) : Int) by decide +kernel, show (0 : Int) = ((0 : Nat) : Int) from rfl, put_l0' 0 0 (k + 1) x0 (by decide) (by omega) (by omega), G_vb 0 0 (by decide) (Or.inl rfl)]
  · obtain ⟨L, e, l1, l2, l3, l4⟩ := len_eq (k := k) (x := (n : Int)) (by omega) (by omega)
    have p1 : 2 ^ (L - 1) ≤ n := by
      have : ((2 ^ (L - 1) : Nat) : Int) ≤ n := by simpa using l3
      omega
    have p2 : n < 2 ^ L := by
      have e2 : 2 ^ L = 2 ^ (L - 1) * 2 := by rw [← Nat.pow_succ, show (L - 1).succ = L by omega]
      have : (n : Int) < ((2 ^ (L - 1) * 2 : Nat) : Int) := by simpa using l4
      omega
    have e3 : wrap64 (mx 1 (wrap64 (Int.tdiv (wrap64 ((L : Int) + 6)) 7)) - 1) = (((L + 6) / 7 - 1 : Nat) : Int) := by
      rw [w64 (x := (L : Int) + 6) (by omega) (by omega), Int.tdiv_eq_ediv_of_nonneg (by omega), w64 (x := ((L : Int) + 6) / 7) (by omega) (by omega)]
      unfold mx
      split <;> (rw [w64 (by omega) (by omega)]; omega)
    unfold wire_put.f
    rw [e, Option.bind_some, e3, put_l0' n _ (k + 1) x0 (by omega) (by omega) (by omega), G_vb]
    · have : 2 ^ L ≤ 128 ^ ((L + 6) / 7 - 1 + 1) := by
        rw [show 128 = 2 ^ 7 by decide, ← Nat.pow_mul]
        exact Nat.pow_le_pow_right (by decide) (by omega)
      omega
    · have : 128 ^ ((L + 6) / 7 - 1) ≤ 2 ^ (L - 1) := by
        rw [show 128 = 2 ^ 7 by decide, ← Nat.pow_mul]
        exact Nat.pow_le_pow_right (by decide) (by omega)
      omega
/-- The same, the document's way. -/
theorem last_set (l : List Nat) (x v : Nat) : (l ++ [x]).set l.length v = l ++ [v] := by
  rw [List.set_append_right _ _ (Nat.le_refl _), Nat.sub_self]
  rfl
theorem vb_last (m : Nat) : ∃ (l : List Nat) (x : Nat), vb m = l ++ [x] ∧ vc m = l ++ [x + 128] ∧ x < 128 := by
  by_cases h : m < 128
  · exact ⟨[], m, by rw [vb_small h]; rfl, by rw [vc_small h]; rfl, h⟩
  · exact ⟨vc (m / 128), m % 128, vb_step h, vc_step h, by omega⟩
theorem vary_eq : ∀ (k n : Nat), n < 128 ^ (k + 1) → n < 18446744073709551616 → palletref02_vary.f (k + 1) (n : Int) = some (cs (vb n)) := by
  intro k
  induction k with
  | zero =>
    intro n h _
    have h : n < 128 := by simpa using h
    rw [palletref02_vary.f, if_pos (by omega), vb_small h]
    rw [show (n : Int) % 256 = (n : Int) by omega]
    rfl
  | succ k ih =>
    intro n h hn
    by_cases h1 : n < 128
    · rw [palletref02_vary.f, if_pos (by omega), vb_small h1, show (n : Int) % 256 = (n : Int) by omega]
      rfl
    · have e := ih (n / 128) (by rw [Nat.pow_succ] at h; omega) (by omega)
      obtain ⟨l, x, e1, e2, hx⟩ := vb_last (n / 128)
      have hl : l.length ≤ 10 := by
        have := vb_len10 (n := n / 128) (by omega)
        rw [e1, List.length_append, List.length_singleton] at this
        omega
      rw [palletref02_vary.f, if_neg (by omega), Int.tdiv_eq_ediv_of_nonneg (by omega), Int.tmod_eq_emod_of_nonneg (by omega), show IntKind.u64.wrap ((n : Int) / 128) = ((n / 128 : Nat) : Int) by simp only [IntKind.wrap, IntKind.bits, IntKind.signed]; simp; omega, e, Option.bind_some, e1, cs_len, List.length_append, List.length_singleton, w64 (by omega) (by omega), show ((l.length + 1 : Nat) : Int) - 1 = ((l.length : Nat) : Int) by omega, if_pos (by omega), if_pos (by omega), cs_rd, Int.toNat_natCast]
      rw [show (l ++ [x]).getD l.length 0 = x by rw [List.getD_eq_getElem?_getD, List.getElem?_append_right (Nat.le_refl _), Nat.sub_self]; rfl, show ((x : Int) + 128) % 256 = ((x + 128 : Nat) : Int) by omega]
      have es : (cs (l ++ [x])).set l.length ((x + 128 : Nat) : Int) = cs (l ++ [x + 128]) := by
        unfold cs
        rw [← List.map_set, last_set]
      rw [es, Option.bind_some, cs_len, List.length_append, List.length_singleton, if_pos (by omega), ← e2, vb_step h1, cs_append, show (n : Int) % 128 % 256 = ((n % 128 : Nat) : Int) by omega]
      rfl
theorem vary_eq' {k : Nat} (hk : 10 ≤ k) (n : Nat) (hn : n < 18446744073709551616) : palletref02_vary.f k (n : Int) = some (cs (vb n)) := by
  obtain ⟨k, rfl⟩ : ∃ m, k = m + 1 := ⟨k - 1, by omega⟩
  refine vary_eq k n (Nat.lt_of_lt_of_le hn ?_) hn
  have : 128 ^ 10 ≤ 128 ^ (k + 1) := Nat.pow_le_pow_right (by decide) hk
  exact Nat.le_trans (by decide) this
/-- Many numbers, one behind the other. -/
def vbs (l : List Nat) : List Nat := (l.map vb).flatten
theorem vbs_by (l : List Nat) : By (vbs l) := by
  intro x hx
  unfold vbs at hx
  rw [List.mem_flatten] at hx
  obtain ⟨m, hm, hx⟩ := hx
  obtain ⟨n, _, rfl⟩ := List.mem_map.1 hm
  exact vb_by n x hx
theorem vbs_cons (n : Nat) (l : List Nat) : vbs (n :: l) = vb n ++ vbs l := rfl
theorem vbs_len (l : List Nat) (h : ∀ n ∈ l, n < 18446744073709551616) : (vbs l).length ≤ 10 * l.length := by
  induction l with
  | nil => simp [vbs]
  | cons n l ih =>
    rw [vbs_cons, List.length_append, List.length_cons]
    have := ih fun m hm => h m (by simp [hm])
    have := vb_len10 (h n (by simp))
    omega
theorem drop_cons (xs : List Nat) (i : Nat) (h : i < xs.length) : xs.drop i = xs.getD i 0 :: xs.drop (i + 1) := by
  rw [List.drop_eq_getElem_cons h, List.getD_eq_getElem?_getD, List.getElem?_eq_getElem h]
  rfl
theorem getD_mem (xs : List Nat) (i : Nat) (h : i < xs.length) : xs.getD i 0 ∈ xs := by
  rw [List.getD_eq_getElem?_getD, List.getElem?_eq_getElem h]
  exact List.getElem_mem h
theorem Vary_l0 (xs : List Nat) (hx : ∀ n ∈ xs, n < 18446744073709551616) (hl : xs.length ≤ 1000000000000) (d : Nat) : ∀ (k i : Nat) (x0 : List Int), i ≤ xs.length → xs.length - i = d → d + 40 ≤ k → x0.length + 10 * d ≤ 140737488354800 →
    wire_Vary.l0 k x0 (cs xs) (xs.length : Int) (i : Int) = some (x0 ++ cs (vbs (xs.drop i))) := by
  induction d with
  | zero =>
    intro k i x0 hi hd hk h0
    obtain ⟨k, rfl⟩ : ∃ m, k = m + 1 := ⟨k - 1, by omega⟩
    simp only [wire_Vary.l0]
    rw [if_neg (by omega), List.drop_of_length_le (by omega)]
    simp [vbs, cs]
  | succ d ih =>
    intro k i x0 hi hd hk h0
    obtain ⟨k, rfl⟩ : ∃ m, k = m + 1 := ⟨k - 1, by omega⟩
    have hlt : i < xs.length := by omega
    have hm := hx _ (getD_mem xs i hlt)
    have h10 := vb_len10 hm
    simp only [wire_Vary.l0]
    rw [if_pos (by omega), if_pos (by omega), cs_len, if_pos (by omega), cs_rd, put_eq' _ hm (by omega) _ (by omega), Option.bind_some, w64 (by omega) (by omega), show (i : Int) + 1 = ((i + 1 : Nat) : Int) by omega, ih k (i + 1) _ (by omega) (by omega) (by omega) (by rw [List.length_append, cs_len]; omega), List.append_assoc, drop_cons xs i hlt, vbs_cons, cs_append]
theorem Vary_eq {k : Nat} (b xs : List Nat) (hx : ∀ n ∈ xs, n < 18446744073709551616) (hl : xs.length ≤ 1000000000000) (hb : b.length ≤ 10000000000000) (hk : xs.length + 50 ≤ k) : wire_Vary.f k (cs b) (cs xs) = some (cs (b ++ vbs xs)) := by
  unfold wire_Vary.f
  rw [clone_cs _ (by omega), Option.bind_some, cs_len]
  have := Vary_l0 xs hx hl xs.length k 0 (cs b) (by omega) (by omega) (by omega) (by rw [cs_len]; omega)
  rw [show ((0 : Nat) : Int) = 0 from rfl, List.drop_zero] at this
  rw [this, cs_append]
theorem RVary_l0 (xs : List Nat) (hx : ∀ n ∈ xs, n < 18446744073709551616) (hl : xs.length ≤ 1000000000000) (d : Nat) : ∀ (k i : Nat) (x0 : List Int), i ≤ xs.length → xs.length - i = d → d + 40 ≤ k → x0.length + 10 * d ≤ 140737488354800 →
    palletref02_Vary.l0 k x0 (cs xs) (xs.length : Int) (i : Int) = some (x0 ++ cs (vbs (xs.drop i))) := by
  induction d with
  | zero =>
    intro k i x0 hi hd hk h0
    obtain ⟨k, rfl⟩ : ∃ m, k = m + 1 := ⟨k - 1, by omega⟩
    simp only [palletref02_Vary.l0]
    rw [if_neg (by omega), List.drop_of_length_le (by omega)]
    simp [vbs, cs]
  | succ d ih =>
    intro k i x0 hi hd hk h0
    obtain ⟨k, rfl⟩ : ∃ m, k = m + 1 := ⟨k - 1, by omega⟩
    have hlt : i < xs.length := by omega
    have hm := hx _ (getD_mem xs i hlt)
    have h10 := vb_len10 hm
    simp only [palletref02_Vary.l0]
    rw [if_pos (by omega), if_pos (by omega), cs_len, if_pos (by omega), cs_rd, vary_eq' (by omega) _ hm, Option.bind_some, cs_len, if_pos (by omega), w64 (by omega) (by omega), show (i : Int) + 1 = ((i + 1 : Nat) : Int) by omega, ih k (i + 1) _ (by omega) (by omega) (by omega) (by rw [List.length_append, cs_len]; omega), List.append_assoc, drop_cons xs i hlt, vbs_cons, cs_append]
theorem RVary_eq {k : Nat} (b xs : List Nat) (hx : ∀ n ∈ xs, n < 18446744073709551616) (hl : xs.length ≤ 1000000000000) (hb : b.length ≤ 10000000000000) (hk : xs.length + 50 ≤ k) : palletref02_Vary.f k (cs b) (cs xs) = some (cs (b ++ vbs xs)) := by
  unfold palletref02_Vary.f
  rw [cs_len, cs_len, if_pos (by rw [List.length_nil]; omega)]
  have := RVary_l0 xs hx hl xs.length k 0 (([] : List Int) ++ cs b) (by omega) (by omega) (by omega) (by rw [List.nil_append, cs_len]; omega)
  rw [show ((0 : Nat) : Int) = 0 from rfl, List.drop_zero] at this
  rw [this, cs_append, List.nil_append]
/-- Reading one. -/
def res (a : Int) (d : Nat × Nat × Nat) : Int × Int × Int := if d.2.2 = 0 then ((d.1 : Int), a + d.2.1, 0) else (0, 0, (d.2.2 : Int))
theorem and127' (c : Nat) (h : c < 256) : Go.bits .and .u8 (c : Int) 127 = ((c % 128 : Nat) : Int) := and127a ⟨c, h⟩
theorem and128a : ∀ i : Fin 256, Go.bits .and .u8 (i.val : Int) 128 = (if i.val < 128 then 0 else 128) := by decide +kernel
theorem and128 (c : Nat) (h : c < 256) : Go.bits .and .u8 (c : Int) 128 = (if c < 128 then 0 else 128) := and128a ⟨c, h⟩
theorem u64_in {x : Int} (h : 0 ≤ x) (h2 : x < 18446744073709551616) : IntKind.u64.wrap x = x := by
  simp only [IntKind.wrap, IntKind.bits, IntKind.signed]
  simp
  omega
theorem or7 (n c : Nat) (hn : n < 144115188075855872) (hc : c < 128) : Go.bits .or .u64 (IntKind.u64.wrap ((n : Int) * 128)) (IntKind.u64.wrap (c : Int)) = ((n * 128 + c : Nat) : Int) := by
  rw [u64_in (by omega) (by omega), u64_in (by omega) (by omega), show (n : Int) * 128 = ((n * 128 : Nat) : Int) by omega]
  show IntKind.u64.wrap (((BitVec.ofInt 64 ((n * 128 : Nat) : Int)) ||| (BitVec.ofInt 64 (c : Int))).toNat : Int) = _
  rw [BitVec.ofInt_natCast, BitVec.ofInt_natCast, BitVec.toNat_or, BitVec.toNat_ofNat, BitVec.toNat_ofNat, Nat.mod_eq_of_lt (by omega), Nat.mod_eq_of_lt (by omega)]
  have e := Nat.shiftLeft_add_eq_or_of_lt (i := 7) (show c < 2 ^ 7 by omega) n
  rw [Nat.shiftLeft_eq] at e
  rw [show n * 128 = n * 2 ^ 7 by omega, ← e, u64_in (by omega) (by omega)]
theorem len57 {k : Nat} (hk : 2 ≤ k) (n : Nat) (hn : n < 18446744073709551616) : ∃ L : Int, bits_Len64.f k (n : Int) = some L ∧ (decide (L > 57) = decide (144115188075855872 ≤ n)) := by
  obtain ⟨k, rfl⟩ : ∃ m, k = m + 1 := ⟨k - 1, by omega⟩
  by_cases h0 : n = 0
  · subst h0
    exact ⟨0, len_zero (by omega), by decide⟩
  · obtain ⟨L, e, l1, l2, l3, l4⟩ := len_eq (k := k) (x := (n : Int)) (by omega) (by omega)
    refine ⟨L, e, ?_⟩
    rw [decide_eq_decide]
    constructor
    · intro h
      have : (2 : Int) ^ 57 ≤ 2 ^ (L - 1) := by
        have := Nat.pow_le_pow_right (n := 2) (by decide) (show 57 ≤ L - 1 by omega)
        exact_mod_cast this
      have e57 : (2 : Int) ^ 57 = 144115188075855872 := by decide
      omega
    · intro h
      by_cases c : 57 < L
      · omega
      · have : (2 : Int) ^ (L - 1) ≤ 2 ^ 56 := by
          have := Nat.pow_le_pow_right (n := 2) (by decide) (show L - 1 ≤ 56 by omega)
          exact_mod_cast this
        have e56 : (2 : Int) ^ 56 = 72057594037927936 := by decide
        omega
theorem TakeVary_l0 (a : Int) (l : List Nat) (hl : By l) (hn : l.length ≤ 1000000000000) (ha : -1000000000000 ≤ a ∧ a ≤ 4000000000000000000) (d : Nat) : ∀ (k i n : Nat), i ≤ l.length → l.length - i = d → 2 * d + 10 ≤ k → n < 18446744073709551616 →
    wire_TakeVary.l0 k a (n : Int) (cs l) (l.length : Int) (i : Int) = some (res a (dv n i (l.drop i))) := by
  induction d with
  | zero =>
    intro k i n hi hd hk h0
    obtain ⟨k, rfl⟩ : ∃ m, k = m + 1 := ⟨k - 1, by omega⟩
    simp only [wire_TakeVary.l0]
    rw [if_neg (by omega), List.drop_of_length_le (by omega)]
    rfl
  | succ d ih =>
    intro k i n hi hd hk h0
    obtain ⟨k, rfl⟩ : ∃ m, k = m + 2 := ⟨k - 2, by omega⟩
    have hlt : i < l.length := by omega
    have hc : l.getD i 0 < 256 := hl _ (getD_mem l i hlt)
    obtain ⟨L, eL, dL⟩ := len57 (k := k + 1) (by omega) n h0
    rw [drop_cons l i hlt]
    simp only [wire_TakeVary.l0]
    rw [if_pos (by omega), if_pos (by omega), cs_len, if_pos (by omega), cs_rd]
    generalize hcc : l.getD i 0 = c at *
    have key : ∀ bad : Bool, bad = decide (i = 0 ∧ c = 128 ∨ 144115188075855872 ≤ n) → wire_TakeVary.j1 (k + 1) a n i c (cs l) (l.length) i bad = some (res a (dv n i (c :: l.drop (i + 1)))) := by
      intro bad hb
      simp only [wire_TakeVary.j1]
      by_cases hB : i = 0 ∧ c = 128 ∨ 144115188075855872 ≤ n
      · rw [hb, decide_eq_true hB, if_pos rfl, dv_bad hB]
        rfl
      · rw [hb, decide_eq_false hB, if_neg (by decide), and128 c hc, and127' c hc, or7 n _ (by omega) (by omega)]
        by_cases h2 : c < 128
        · rw [if_pos h2, if_pos rfl, dv_end hB h2, w64 (x := a + (i : Int)) (by omega) (by omega), w64 (by omega) (by omega), Nat.mod_eq_of_lt h2]
          unfold res
          rw [if_pos rfl]
          simp only [Option.some.injEq, Prod.mk.injEq]
          exact ⟨trivial, by omega, trivial⟩
        · rw [if_neg h2, if_neg (by decide), dv_more hB h2, w64 (by omega) (by omega), show (i : Int) + 1 = ((i + 1 : Nat) : Int) by omega, show c % 128 = c - 128 by omega, ih k (i + 1) _ (by omega) (by omega) (by omega) (by omega)]
    by_cases hi0 : i = 0
    · rw [if_pos (by omega)]
      by_cases h128 : c = 128
      · rw [if_pos (by omega)]
        exact key true (by rw [eq_comm, decide_eq_true_eq]; exact Or.inl ⟨hi0, h128⟩)
      · rw [if_neg (by omega), eL, Option.bind_some]
        refine key _ ?_
        rw [dL, decide_eq_decide]
        omega
    · rw [if_neg (by omega), eL, Option.bind_some]
      refine key _ ?_
      rw [dL, decide_eq_decide]
      omega
theorem TakeVary_eq {k : Nat} (l : List Nat) (hl : By l) (hn : l.length ≤ 1000000000000) (a : Nat) (hk : 2 * l.length + 20 ≤ k) : wire_TakeVary.f k (cs l) (a : Int) = some (res a (dv 0 0 (l.drop a))) := by
  unfold wire_TakeVary.f
  rw [if_neg (by omega), cs_len]
  have hm : mn (a : Int) (l.length : Int) = ((min a l.length : Nat) : Int) := by
    unfold mn
    split <;> omega
  rw [hm, if_pos (by omega), if_pos (by omega), Int.toNat_natCast, cs_drop, cs_len]
  by_cases h : a ≤ l.length
  · have := TakeVary_l0 a (l.drop (min a l.length)) (hl.drop _) (by rw [List.length_drop]; omega) (by omega) (l.drop (min a l.length)).length k 0 0 (by omega) (by omega) (by rw [List.length_drop]; omega) (by decide)
    rw [show ((0 : Nat) : Int) = 0 from rfl, List.drop_zero] at this
    rw [this, Nat.min_eq_left h]
  · rw [Nat.min_eq_right (by omega), List.drop_of_length_le (Nat.le_refl _), List.drop_of_length_le (by omega)]
    obtain ⟨k, rfl⟩ : ∃ m, k = m + 1 := ⟨k - 1, by omega⟩
    simp only [wire_TakeVary.l0]
    rw [if_neg (by simp)]
    rfl
theorem TakeVary_neg {k : Nat} (l : List Int) (a : Int) (h : a < 0) : wire_TakeVary.f k l a = some (0, 0, 1) := by
  unfold wire_TakeVary.f
  rw [if_pos h]
end Go.Proofs.Ytogdelhofdelgaa.Wire2
