/- The sum, of 24 bits or of 32, of three texts combined bit by bit is the three sums combined bit by bit, over their common length. Conditions: none but the kinds of the values. -/
import Derived.Test.YtjohinenaamdcaaCrcRef
import Derived.Test.YtjohinenaamdcaaPrint0
import Derived.Test.YtjohinenaamdcaaPrint2
import Derived.Test.YtjohinenaamdcaaPrint3
set_option linter.unusedVariables false
set_option linter.unusedSimpArgs false
namespace Go.Proofs.Ytjohinenaamdcaa.Pure
open Go Go.RowKit Go.Proofs.Ytjohinenaamdcaa.Print Go.Proofs.YtjohinenaamdcaaW.PrintWords Go.Proofs.YtjohinenaamdcaaW.PrintLast Go.Proofs.YtjohinenaamdcaaW.PrintMore Go.Proofs.Ytjohinenaamdcaa.Crc Go.Proofs.Ytjohinenaamdcaa.CrcFn
theorem live3 : palletlaw03_live.f = some true := by decide +kernel
def zx (a b : List Nat) : List Nat := List.zipWith (fun x y => x ^^^ y) a b
theorem reg_two {f : Nat → Nat} (lin : ∀ a b, f (a ^^^ b) = f a ^^^ f b) (g : Nat → Nat) (gl : ∀ a b, g (a ^^^ b) = g a ^^^ g b) : ∀ (a b : List Nat), a.length = b.length → ∀ u v, reg f g (zx a b) (u ^^^ v) = reg f g a u ^^^ reg f g b v
  | [], [], _, u, v => rfl
  | [], b :: _, h, _, _ => by simp at h
  | a :: _, [], h, _, _ => by simp at h
  | x :: a, y :: b, h, u, v => by
    show reg f g ((x ^^^ y) :: zx a b) (u ^^^ v) = _
    rw [reg_cons, reg_cons, reg_cons, gl, xor4, it_xor lin, reg_two lin g gl a b (by simpa using h)]
theorem zx_len {a b : List Nat} (h : a.length = b.length) : (zx a b).length = a.length := by
  unfold zx
  rw [List.length_zipWith, h, Nat.min_self]
theorem zx_by {a b : List Nat} (ha : By a) (hb : By b) : By (zx a b) := by
  intro x hx
  unfold zx at hx
  rw [List.mem_iff_getElem] at hx
  obtain ⟨i, hi, rfl⟩ := hx
  rw [List.getElem_zipWith]
  rw [List.length_zipWith] at hi
  exact Nat.xor_lt_two_pow (n := 8) (ha _ (List.getElem_mem (by omega))) (hb _ (List.getElem_mem (by omega)))
theorem xlc (a b c : Nat) : a ^^^ (b ^^^ c) = b ^^^ (a ^^^ c) := by rw [← Nat.xor_assoc, Nat.xor_comm a b, Nat.xor_assoc]
theorem reg_three {f : Nat → Nat} (lin : ∀ a b, f (a ^^^ b) = f a ^^^ f b) (g : Nat → Nat) (gl : ∀ a b, g (a ^^^ b) = g a ^^^ g b) (a b c : List Nat) (h : a.length = b.length) (h2 : a.length = c.length) (u : Nat) : reg f g (zx (zx a b) c) u = reg f g a u ^^^ reg f g b u ^^^ reg f g c u := by
  have e : u = u ^^^ u ^^^ u := by rw [Nat.xor_self, Nat.zero_xor]
  have := reg_two lin g gl (zx a b) c (by rw [zx_len h]; exact h2) (u ^^^ u) u
  rw [← e] at this
  rw [this, reg_two lin g gl a b h]
/-- The three texts combined, to a common length. -/
def z3 (a b c : List Nat) (n : Nat) : List Nat := zx (zx (a.take n) (b.take n)) (c.take n)
theorem tk {a : List Nat} {n : Nat} (h : n ≤ a.length) : (a.take n).length = n := by rw [List.length_take]; omega
theorem z3_len {a b c : List Nat} {n : Nat} (ha : n ≤ a.length) (hb : n ≤ b.length) (hc : n ≤ c.length) : (z3 a b c n).length = n := by
  unfold z3
  have e : (zx (a.take n) (b.take n)).length = n := by rw [zx_len (by rw [tk ha, tk hb]), tk ha]
  rw [zx_len (by rw [e, tk hc]), e]
theorem z3_get {a b c : List Nat} {n i : Nat} (ha : n ≤ a.length) (hb : n ≤ b.length) (hc : n ≤ c.length) (hi : i < n) : (z3 a b c n)[i]? = some (a.getD i 0 ^^^ b.getD i 0 ^^^ c.getD i 0) := by
  unfold z3 zx
  rw [List.getElem?_zipWith, List.getElem?_zipWith, List.getElem?_take_of_lt hi, List.getElem?_take_of_lt hi, List.getElem?_take_of_lt hi]
  simp only [List.getD_eq_getElem?_getD]
  rw [List.getElem?_eq_getElem (by omega), List.getElem?_eq_getElem (by omega), List.getElem?_eq_getElem (by omega)]
  rfl
theorem lin_end (a b c : List Nat) (ha : By a) (hb : By b) (hc : By c) (n : Nat) (hn : n ≤ 3000) (la : n ≤ a.length) (lb : n ≤ b.length) (lc : n ≤ c.length) (x : List Nat) (hx : x = z3 a b c n) (k : Nat) (i : Int) (hi : ¬ i < (n : Int)) : palletlaw03_CrcLinear.l0 (k + 1) (cs a) (cs b) (cs c) true (n : Int) (cs x) (n : Int) i = some true := by
  have hz : By (z3 a b c n) := zx_by (zx_by (By.take ha n) (By.take hb n)) (By.take hc n)
  have lz := z3_len la lb lc
  rw [palletlaw03_CrcLinear.l0, if_neg hi, if_pos rfl, hx, Sum24_eq _ hz (by omega), Option.bind_some, if_pos (by omega), cs_len, cs_len, cs_len, if_pos (by omega), Int.toNat_natCast, cs_take, cs_take, cs_take, Sum24_eq _ (By.take ha n) (by rw [tk la]; omega), Option.bind_some, if_pos (by omega), Sum24_eq _ (By.take hb n) (by rw [tk lb]; omega), Option.bind_some, if_pos (by omega), Sum24_eq _ (By.take hc n) (by rw [tk lc]; omega), Option.bind_some]
  have p24 : ∀ {l : List Nat}, By l → r24 l < 2 ^ 32 := fun h => Nat.lt_trans (r24_lt h) (by decide)
  have e1 : r24 (z3 a b c n) = r24 (a.take n) ^^^ r24 (b.take n) ^^^ r24 (c.take n) := reg_three st_xor g24 g24_xor _ _ _ (by rw [tk la, tk lb]) (by rw [tk la, tk lc]) _
  have e2 : r32 (z3 a b c n) = r32 (a.take n) ^^^ r32 (b.take n) ^^^ r32 (c.take n) := reg_three rt_xor g32 g32_xor _ _ _ (by rw [tk la, tk lb]) (by rw [tk la, tk lc]) _
  have e3 : t32 (z3 a b c n) = t32 (a.take n) ^^^ t32 (b.take n) ^^^ t32 (c.take n) := by
    unfold t32
    rw [e2, xor4 0xffffffff _ 0xffffffff, Nat.xor_self, Nat.zero_xor]
    exact xlc _ _ _
  rw [xor32 (p24 (By.take ha n)) (p24 (By.take hb n)), xor32 (Nat.xor_lt_two_pow (p24 (By.take ha n)) (p24 (By.take hb n))) (p24 (By.take hc n)), if_pos (by rw [e1]), Sum32_eq _ hz (by omega), Option.bind_some, Sum32_eq _ (By.take ha n) (by rw [tk la]; omega), Option.bind_some, Sum32_eq _ (By.take hb n) (by rw [tk lb]; omega), Option.bind_some, Sum32_eq _ (By.take hc n) (by rw [tk lc]; omega), Option.bind_some, xor32 (t32_lt (By.take ha n)) (t32_lt (By.take hb n)), xor32 (Nat.xor_lt_two_pow (t32_lt (By.take ha n)) (t32_lt (By.take hb n))) (t32_lt (By.take hc n)), e3, beq_self_eq_true]
theorem lin_l0 (a b c : List Nat) (ha : By a) (hb : By b) (hc : By c) (n : Nat) (hn : n ≤ 3000) (la : n ≤ a.length) (lb : n ≤ b.length) (lc : n ≤ c.length) (d : Nat) :
    ∀ (k i : Nat) (x : List Nat), x.length = n → (∀ j, j < i → x[j]? = (z3 a b c n)[j]?) → n - i = d → i ≤ n → d < k → palletlaw03_CrcLinear.l0 k (cs a) (cs b) (cs c) true (n : Int) (cs x) (n : Int) (i : Int) = some true := by
  induction d with
  | zero =>
    intro k i x hx hj hd hi hk
    obtain ⟨k, rfl⟩ : ∃ j, k = j + 1 := ⟨k - 1, by omega⟩
    refine lin_end a b c ha hb hc n hn la lb lc x (List.ext_getElem? fun j => ?_) k i (by omega)
    by_cases h : j < n
    · exact hj j (by omega)
    · rw [List.getElem?_eq_none (by omega), List.getElem?_eq_none (by rw [z3_len la lb lc]; omega)]
  | succ d ih =>
    intro k i x hx hj hd hi hk
    obtain ⟨k, rfl⟩ : ∃ j, k = j + 1 := ⟨k - 1, by omega⟩
    rw [palletlaw03_CrcLinear.l0, if_pos (by omega), if_pos (by omega), cs_len, cs_len, cs_len, cs_len, if_pos (by omega), if_pos (by omega), if_pos (by omega), if_pos (by omega), cs_rd, cs_rd, cs_rd, xor8 (getD_lt ha i) (getD_lt hb i), xor8 (Nat.xor_lt_two_pow (n := 8) (getD_lt ha i) (getD_lt hb i)) (getD_lt hc i), Int.toNat_natCast, cs_set, w64 (by omega) (by omega), show (i : Int) + 1 = ((i + 1 : Nat) : Int) by omega]
    refine ih k (i + 1) _ (by rw [List.length_set]; exact hx) ?_ (by omega) (by omega) (by omega)
    intro j hji
    by_cases e : j = i
    · subst e
      rw [List.getElem?_set_self (by omega), z3_get la lb lc (by omega)]
    · rw [List.getElem?_set_ne (fun c => e c.symm)]
      exact hj j (by omega)
theorem CrcLinear : ∀ (l0 : List Int) (l1 : List Int) (l2 : List Int), l0.length ≤ maxLen → l0.length * 1 ≤ 140737488351232 → (∀ y ∈ l0, (Lit.int .u8 y).wf = true) → l1.length ≤ maxLen → l1.length * 1 ≤ 140737488351232 → (∀ y ∈ l1, (Lit.int .u8 y).wf = true) → l2.length ≤ maxLen → l2.length * 1 ≤ 140737488351232 → (∀ y ∈ l2, (Lit.int .u8 y).wf = true) → ∃ k, palletlaw03_CrcLinear.f k l0 l1 l2 = some true := by
  intro l0 l1 l2 _ _ h0 _ _ h1 _ _ h2
  obtain ⟨a, rfl, ha⟩ := bytes_of h0
  obtain ⟨b, rfl, hb⟩ := bytes_of h1
  obtain ⟨c, rfl, hc⟩ := bytes_of h2
  refine ⟨5000, ?_⟩
  unfold palletlaw03_CrcLinear.f
  rw [live3, Option.bind_some, if_pos rfl, cs_len, cs_len, cs_len]
  obtain ⟨n, hn, la, lb, lc⟩ : ∃ n : Nat, mn (mn (a.length : Int) (b.length : Int)) (c.length : Int) = (n : Int) ∧ n ≤ a.length ∧ n ≤ b.length ∧ n ≤ c.length := by
    refine ⟨min (min a.length b.length) c.length, ?_, by omega, by omega, by omega⟩
    unfold mn
    split <;> split <;> omega
  rw [hn]
  by_cases h : (n : Int) > 3000
  · rw [if_pos h]
  rw [if_neg h, if_pos (by omega), if_pos (by omega), Option.bind_some, Int.toNat_natCast, List.length_replicate]
  have e : List.replicate n (0 : Int) = cs (List.replicate n 0) := by
    unfold cs
    rw [List.map_replicate]
    rfl
  rw [e]
  exact lin_l0 a b c ha hb hc n (by omega) la lb lc n 5000 0 _ (List.length_replicate) (fun j hj => by omega) (by omega) (by omega) (by omega)
end Go.Proofs.Ytjohinenaamdcaa.Pure
