/- Signed numbers, numbers of a width, records (layer 2), as printed: what each function answers. -/
import Derived.Test.YtnmepjpjpillcaaWire2
import Derived.Test.YtnmepjpjpillcaaPrint0
import Derived.Test.YtnmepjpjpillcaaPrint8
import Derived.Test.YtnmepjpjpillcaaPrint9
import Derived.Test.YtnmepjpjpillcaaPrint14
set_option linter.unusedVariables false
set_option linter.unusedSimpArgs false
namespace Go.Proofs.Ytnmepjpjpillcaa.Wire3
open Go Go.RowKit Go.Proofs.Ytnmepjpjpillcaa.Print Go.Proofs.YtnmepjpjpillcaaW.PrintWords Go.Proofs.YtnmepjpjpillcaaW.PrintLast Go.Proofs.YtnmepjpjpillcaaW.PrintMore Go.Proofs.Ytnmepjpjpillcaa.Len64 Go.Proofs.Ytnmepjpjpillcaa.Digits Go.Proofs.Ytnmepjpjpillcaa.Wire Go.Proofs.Ytnmepjpjpillcaa.WireSpec Go.Proofs.Ytnmepjpjpillcaa.Wire2
theorem u64_mod (x : Int) : IntKind.u64.wrap x = x % 18446744073709551616 := by
  simp only [IntKind.wrap, IntKind.bits, IntKind.signed]
  simp
theorem xor_zero (x : Int) (h : 0 ≤ x) (h2 : x < 18446744073709551616) : Go.bits .xor .u64 x 0 = x := by
  show IntKind.u64.wrap (((BitVec.ofInt 64 x) ^^^ (BitVec.ofInt 64 0)).toNat : Int) = x
  rw [show BitVec.ofInt 64 0 = 0#64 from rfl, BitVec.xor_zero, BitVec.toNat_ofInt, u64_in (by omega) (by omega)]
  omega
theorem xor_ones (x : Int) (h : 0 ≤ x) (h2 : x < 18446744073709551616) : Go.bits .xor .u64 x 18446744073709551615 = 18446744073709551615 - x := by
  show IntKind.u64.wrap (((BitVec.ofInt 64 x) ^^^ (BitVec.ofInt 64 18446744073709551615)).toNat : Int) = _
  rw [show BitVec.ofInt 64 18446744073709551615 = BitVec.allOnes 64 by decide, BitVec.xor_allOnes, BitVec.toNat_not, BitVec.toNat_ofInt, u64_in (by omega) (by omega)]
  omega
theorem zz_eq {x : Int} (h : -9223372036854775808 ≤ x) (h2 : x ≤ 9223372036854775807) : Go.bits .xor .u64 (IntKind.u64.wrap (wrap64 (x * 2))) (IntKind.u64.wrap (x / 9223372036854775808)) = ((zz x : Nat) : Int) := by
  have e : IntKind.u64.wrap (wrap64 (x * 2)) = (2 * x) % 18446744073709551616 := by
    rw [u64_mod]
    unfold wrap64
    omega
  rw [e]
  unfold zz
  by_cases c : x < 0
  · rw [show x / 9223372036854775808 = -1 by omega, show IntKind.u64.wrap (-1) = 18446744073709551615 by decide, xor_ones _ (by omega) (by omega), if_pos c]
    omega
  · rw [show x / 9223372036854775808 = 0 by omega, show IntKind.u64.wrap 0 = 0 by decide, xor_zero _ (by omega) (by omega), if_neg c]
    omega
def ws (l : List Int) : Prop := ∀ x ∈ l, -9223372036854775808 ≤ x ∧ x ≤ 9223372036854775807
theorem idrop (xs : List Int) (i : Nat) (h : i < xs.length) : xs.drop i = xs.getD i 0 :: xs.drop (i + 1) := by
  rw [List.drop_eq_getElem_cons h, List.getD_eq_getElem?_getD, List.getElem?_eq_getElem h]
  rfl
theorem imem (xs : List Int) (i : Nat) (h : i < xs.length) : xs.getD i 0 ∈ xs := by
  rw [List.getD_eq_getElem?_getD, List.getElem?_eq_getElem h]
  exact List.getElem_mem h
theorem rdn (xs : List Int) (j : Nat) : rd xs (j : Int) = xs.getD j 0 := by simp [rd]
theorem Sign_l0 (xs : List Int) (hx : ws xs) (hl : xs.length ≤ 1000000000000) (d : Nat) : ∀ (k i : Nat) (x0 : List Int), i ≤ xs.length → xs.length - i = d → d + 40 ≤ k → x0.length + 10 * d ≤ 140737488354800 →
    wire_Sign.l0 k x0 xs (xs.length : Int) (i : Int) = some (x0 ++ cs (vbs ((xs.drop i).map zz))) := by
  induction d with
  | zero =>
    intro k i x0 hi hd hk h0
    obtain ⟨k, rfl⟩ : ∃ m, k = m + 1 := ⟨k - 1, by omega⟩
    simp only [wire_Sign.l0]
    rw [if_neg (by omega), List.drop_of_length_le (by omega)]
    simp [vbs, cs]
  | succ d ih =>
    intro k i x0 hi hd hk h0
    obtain ⟨k, rfl⟩ : ∃ m, k = m + 1 := ⟨k - 1, by omega⟩
    have hlt : i < xs.length := by omega
    have hm := hx _ (imem xs i hlt)
    have h10 := vb_len10 (zz_lt hm.1 hm.2)
    simp only [wire_Sign.l0]
    rw [if_pos (by omega), if_pos (by omega), if_pos (by omega), rdn, zz_eq hm.1 hm.2, put_eq' _ (zz_lt hm.1 hm.2) (by omega) _ (by omega), Option.bind_some, w64 (by omega) (by omega), show (i : Int) + 1 = ((i + 1 : Nat) : Int) by omega, ih k (i + 1) _ (by omega) (by omega) (by omega) (by rw [List.length_append, cs_len]; omega), List.append_assoc, idrop xs i hlt, List.map_cons, vbs_cons, cs_append]
theorem Sign_eq {k : Nat} (b : List Nat) (xs : List Int) (hx : ws xs) (hl : xs.length ≤ 1000000000000) (hb : b.length ≤ 10000000000000) (hk : xs.length + 50 ≤ k) : wire_Sign.f k (cs b) xs = some (cs (b ++ vbs (xs.map zz))) := by
  unfold wire_Sign.f
  rw [clone_cs _ (by omega), Option.bind_some]
  have := Sign_l0 xs hx hl xs.length k 0 (cs b) (by omega) (by omega) (by omega) (by rw [cs_len]; omega)
  rw [show ((0 : Nat) : Int) = 0 from rfl, List.drop_zero] at this
  rw [this, cs_append]
theorem RSign_l0 (xs : List Int) (hx : ws xs) (hl : xs.length ≤ 1000000000000) (d : Nat) : ∀ (k i : Nat) (x0 : List Int), i ≤ xs.length → xs.length - i = d → d + 40 ≤ k → x0.length + 10 * d ≤ 140737488354800 →
    palletref02_Sign.l0 k x0 xs (xs.length : Int) (i : Int) = some (x0 ++ cs (vbs ((xs.drop i).map zz))) := by
  induction d with
  | zero =>
    intro k i x0 hi hd hk h0
    obtain ⟨k, rfl⟩ : ∃ m, k = m + 1 := ⟨k - 1, by omega⟩
    simp only [palletref02_Sign.l0]
    rw [if_neg (by omega), List.drop_of_length_le (by omega)]
    simp [vbs, cs]
  | succ d ih =>
    intro k i x0 hi hd hk h0
    obtain ⟨k, rfl⟩ : ∃ m, k = m + 1 := ⟨k - 1, by omega⟩
    have hlt : i < xs.length := by omega
    have hm := hx _ (imem xs i hlt)
    have hz := zz_lt hm.1 hm.2
    have h10 := vb_len10 hz
    have tail := ih k (i + 1) (x0 ++ cs (vb (zz (xs.getD i 0)))) (by omega) (by omega) (by omega) (by rw [List.length_append, cs_len]; omega)
    simp only [palletref02_Sign.l0]
    rw [if_pos (by omega), if_pos (by omega), if_pos (by omega), rdn, idrop xs i hlt, List.map_cons, vbs_cons, cs_append, ← List.append_assoc, ← tail]
    by_cases c : xs.getD i 0 < 0
    · have e : IntKind.u64.wrap ((IntKind.u64.wrap (2 * (IntKind.u64.wrap (wrap64 (-(wrap64 (xs.getD i 0 + 1))))))) + 1) = ((zz (xs.getD i 0) : Nat) : Int) := by
        rw [w64 (x := xs.getD i 0 + 1) (by omega) (by omega), w64 (by omega) (by omega)]
        simp only [u64_mod]
        unfold zz
        rw [if_pos c]
        omega
      rw [if_pos c, e, vary_eq' (by omega) _ hz, Option.bind_some, cs_len, if_pos (by omega), w64 (by omega) (by omega), show (i : Int) + 1 = ((i + 1 : Nat) : Int) by omega]
    · have e : IntKind.u64.wrap (2 * (IntKind.u64.wrap (xs.getD i 0))) = ((zz (xs.getD i 0) : Nat) : Int) := by
        simp only [u64_mod]
        unfold zz
        rw [if_neg c]
        omega
      rw [if_neg c, e, vary_eq' (by omega) _ hz, Option.bind_some, cs_len, if_pos (by omega), w64 (by omega) (by omega), show (i : Int) + 1 = ((i + 1 : Nat) : Int) by omega]
theorem RSign_eq {k : Nat} (b : List Nat) (xs : List Int) (hx : ws xs) (hl : xs.length ≤ 1000000000000) (hb : b.length ≤ 10000000000000) (hk : xs.length + 50 ≤ k) : palletref02_Sign.f k (cs b) xs = some (cs (b ++ vbs (xs.map zz))) := by
  unfold palletref02_Sign.f
  rw [cs_len, if_pos (by rw [List.length_nil]; omega)]
  have := RSign_l0 xs hx hl xs.length k 0 (([] : List Int) ++ cs b) (by omega) (by omega) (by omega) (by rw [List.nil_append, cs_len]; omega)
  rw [show ((0 : Nat) : Int) = 0 from rfl, List.drop_zero] at this
  rw [this, cs_append, List.nil_append]
def ress (a : Int) (d : Nat × Nat × Nat) : Int × Int × Int := if d.2.2 = 0 then (uz d.1, a + d.2.1, 0) else (0, 0, (d.2.2 : Int))
theorem and1 (n : Nat) (h : n < 18446744073709551616) : Go.bits .and .u64 (n : Int) 1 = ((n % 2 : Nat) : Int) := by
  show IntKind.u64.wrap (((BitVec.ofInt 64 (n : Int)) &&& (BitVec.ofInt 64 1)).toNat : Int) = _
  rw [BitVec.toNat_and, show (BitVec.ofInt 64 1).toNat = 2 ^ 1 - 1 by decide, Nat.and_two_pow_sub_one_eq_mod, BitVec.ofInt_natCast, BitVec.toNat_ofNat, Nat.mod_eq_of_lt h, u64_in (by omega) (by omega)]
theorem uz_eq (n : Nat) (h : n < 18446744073709551616) : Go.bits .xor .i64 (wrap64 ((n : Int) / 2)) (wrap64 (-(wrap64 (Go.bits .and .u64 (n : Int) 1)))) = uz n := by
  rw [and1 n h, w64 (x := (n : Int) / 2) (by omega) (by omega), w64 (x := ((n % 2 : Nat) : Int)) (by omega) (by omega), w64 (by omega) (by omega)]
  unfold uz
  by_cases c : n % 2 = 1
  · rw [if_pos c, c]
    show IntKind.i64.wrap (((BitVec.ofInt 64 ((n : Int) / 2)) ^^^ (BitVec.ofInt 64 (-((1 : Nat) : Int)))).toNat : Int) = _
    rw [show BitVec.ofInt 64 (-((1 : Nat) : Int)) = BitVec.allOnes 64 by decide, BitVec.xor_allOnes, BitVec.toNat_not, BitVec.toNat_ofInt]
    simp only [IntKind.wrap, IntKind.bits, IntKind.signed]
    simp
    omega
  · rw [if_neg c, show n % 2 = 0 by omega]
    show IntKind.i64.wrap (((BitVec.ofInt 64 ((n : Int) / 2)) ^^^ (BitVec.ofInt 64 (-((0 : Nat) : Int)))).toNat : Int) = _
    rw [show BitVec.ofInt 64 (-((0 : Nat) : Int)) = 0#64 by decide, BitVec.xor_zero, BitVec.toNat_ofInt]
    simp only [IntKind.wrap, IntKind.bits, IntKind.signed]
    simp
    omega
theorem TakeSign_eq {k : Nat} (l : List Nat) (hl : By l) (hn : l.length ≤ 1000000000000) (a : Nat) (hk : 2 * l.length + 20 ≤ k) : wire_TakeSign.f k (cs l) (a : Int) = some (ress a (dv 0 0 (l.drop a))) := by
  unfold wire_TakeSign.f
  rw [TakeVary_eq l hl hn a hk, Option.bind_some]
  rcases hd : dv 0 0 (l.drop a) with ⟨n, c, e⟩
  unfold res ress
  by_cases h : e = 0
  · subst h
    have hb := (dv_bound (l.drop a) 0 0 n c (hl.drop a) hd).2.2
    simp only [if_true]
    rw [uz_eq _ hb]
  · simp only
    rw [if_neg h, if_neg h]
    simp only
    rw [if_neg (by omega)]
/-- A record's bytes. -/
def rb (kind : Nat) (body : List Nat) : List Nat := kind :: (vb body.length ++ body)
theorem rb_by {kind : Nat} {body : List Nat} (h : kind < 256) (hb : By body) : By (rb kind body) := By.cons h ((vb_by _).append hb)
theorem Record_eq {k : Nat} (b : List Nat) (kind : Nat) (body : List Nat) (hb : b.length ≤ 10000000000000) (hk : 50 ≤ k) :
    wire_Record.f k (cs b) (kind : Int) (cs body) = some (if 1048576 < body.length then ([], 6) else (cs (b ++ rb kind body), 0)) := by
  unfold wire_Record.f
  rw [cs_len]
  by_cases c : 1048576 < body.length
  · rw [if_pos (by omega), if_pos c]
  · have h10 := vb_len10 (n := body.length) (by omega)
    rw [if_neg (by omega), if_neg c, clone_cs _ (by omega), Option.bind_some, cs_len, if_pos (by omega), u64_in (by omega) (by omega), cs_one, ← cs_append, put_eq' _ (by omega) (by omega) _ (by rw [cs_len, List.length_append, List.length_singleton]; omega), Option.bind_some, ← cs_append, cs_len, List.length_append, List.length_append, List.length_singleton, if_pos (by omega), ← cs_append]
    unfold rb
    simp
theorem RRecord_eq {k : Nat} (b : List Nat) (kind : Nat) (body : List Nat) (hb : b.length ≤ 1000000000000) (hk : 60 ≤ k) :
    palletref02_Record.f k (cs b) (kind : Int) (cs body) = some (if 1048576 < body.length then ([], 6) else (cs (b ++ rb kind body), 0)) := by
  unfold palletref02_Record.f
  rw [cs_len, cs_len]
  by_cases c : 1048576 < body.length
  · rw [if_pos (by omega), if_pos c]
  · have h10 := vb_len10 (n := body.length) (by omega)
    rw [if_neg (by omega), if_neg c, if_pos (by rw [List.length_nil]; omega), Option.bind_some, List.nil_append, cs_len, if_pos (by omega), u64_in (by omega) (by omega), cs_one, ← cs_append, cs_one]
    rw [RVary_eq (b ++ [kind]) [body.length] (by intro n hn; simp at hn; omega) (by simp) (by rw [List.length_append, List.length_singleton]; omega) (by simp; omega), Option.bind_some, cs_len, List.length_append, List.length_append, List.length_singleton, show vbs [body.length] = vb body.length by simp [vbs], if_pos (by omega), ← cs_append]
    unfold rb
    simp
end Go.Proofs.Ytnmepjpjpillcaa.Wire3
