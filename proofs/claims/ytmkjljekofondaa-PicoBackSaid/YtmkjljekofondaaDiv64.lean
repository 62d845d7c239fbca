/- math/bits' Div64, as printed: the quotient and what is left. -/
import Derived.IntWalk
import Derived.Laws.Bits64
import Derived.Laws.Bits64b
import Derived.Test.YtmkjljekofondaaPrint0
import Derived.Test.YtmkjljekofondaaPrint2
import Derived.Test.YtmkjljekofondaaPrint3
set_option linter.unusedVariables false
set_option linter.unusedSimpArgs false
namespace Go.Proofs.Ytmkjljekofondaa.Div64
open Go Go.RowKit Go.Proofs.Ytmkjljekofondaa.Print Go.Proofs.YtmkjljekofondaaW.PrintWords Go.Proofs.YtmkjljekofondaaW.PrintLast Go.Proofs.YtmkjljekofondaaW.PrintMore
theorem uw (x : Int) : IntKind.u64.wrap x = x % 18446744073709551616 := IntKind.wrap_u64 x
theorem uin {x : Int} (h : 0 ≤ x) (h2 : x < 18446744073709551616) : IntKind.u64.wrap x = x := by rw [uw]; omega
/-- What a digit's guess is tested by. -/
theorem mulY (q y1 y0 : Int) : q * (y1 * 4294967296 + y0) = q * y1 * 4294967296 + q * y0 := by rw [Int.mul_add, Int.mul_assoc]
theorem gt_of {q Q Y V : Int} (hY : 0 ≤ Y) (h : q * Y > V) (h1 : Q * Y ≤ V) : Q < q := by
  by_cases c : q ≤ Q
  · have := Int.mul_le_mul_of_nonneg_right c hY
    omega
  · omega
theorem le_of {q Q Y V : Int} (hY : 0 ≤ Y) (h : q * Y ≤ V) (h1 : V < (Q + 1) * Y) : q ≤ Q := by
  by_cases c : Q + 1 ≤ q
  · have := Int.mul_le_mul_of_nonneg_right c hY
    omega
  · omega
section
variable {s y1 y0 U u1 u0 Q : Int}
theorem step (h1 : 2147483648 ≤ y1) (h2 : y1 < 4294967296) (h3 : 0 ≤ y0) (h4 : y0 < 4294967296) {q r : Int} (q0 : 0 ≤ q) (e : q * y1 + r = U) : q * (y1 * 4294967296 + y0) = (U - r) * 4294967296 + q * y0 := by
  rw [mulY]
  omega
theorem l0_eq (h1 : 2147483648 ≤ y1) (h2 : y1 < 4294967296) (h3 : 0 ≤ y0) (h4 : y0 < 4294967296) (v0 : 0 ≤ u1) (v1 : u1 < 4294967296) (Q0 : 0 ≤ Q) (Q1 : Q < 4294967296)
    (Qa : Q * (y1 * 4294967296 + y0) ≤ U * 4294967296 + u1) (Qb : U * 4294967296 + u1 < (Q + 1) * (y1 * 4294967296 + y0)) : ∀ (d : Nat) (k : Nat) (q r : Int), 0 ≤ r → r < 4294967296 → q * y1 + r = U → Q ≤ q → q ≤ 4294967297 → 4294967296 ≤ r + d * y1 → 2 * d + 2 ≤ k →
    ∃ j, k ≤ j + (2 * d + 2) ∧ bits_Div64.l0 k (y1 * 4294967296 + y0) s y1 y0 U u1 u0 q r = bits_Div64.j2 j (y1 * 4294967296 + y0) s y1 y0 U u1 u0 Q := by
  intro d
  induction d with
  | zero =>
    intro k q r r0 r1 e ha hb hd hk
    omega
  | succ d ih =>
    intro k q r r0 r1 e ha hb hd hk
    obtain ⟨k, rfl⟩ : ∃ j, k = j + 2 := ⟨k - 2, by omega⟩
    have hY : 0 ≤ y1 * 4294967296 + y0 := by omega
    have st := step h1 h2 h3 h4 (by omega) e
    have zq : 0 ≤ q * y0 := Int.mul_nonneg (by omega) h3
    -- the test
    obtain ⟨t, ht, hl⟩ : ∃ t : Bool, (t = true ↔ (4294967296 ≤ q ∨ q * (y1 * 4294967296 + y0) > U * 4294967296 + u1)) ∧ bits_Div64.l0 (k + 2) (y1 * 4294967296 + y0) s y1 y0 U u1 u0 q r = bits_Div64.j1 (k + 1) (y1 * 4294967296 + y0) s y1 y0 U u1 u0 q r t := by
      by_cases c : q ≥ 4294967296
      · refine ⟨true, by simp; exact Or.inl c, ?_⟩
        simp only [bits_Div64.l0]
        rw [if_pos c]
      · refine ⟨decide (q * y0 > 4294967296 * r + u1), ?_, ?_⟩
        · rw [decide_eq_true_eq]
          constructor
          · intro h; right; omega
          · rintro (h | h) <;> omega
        · have z2 : q * y0 < 18446744073709551616 := by
            have a1 := Int.mul_le_mul (show q ≤ 4294967295 by omega) (show y0 ≤ 4294967295 by omega) h3 (by omega)
            omega
          simp only [bits_Div64.l0]
          rw [if_neg c, uin zq z2, uin (x := 4294967296 * r) (by omega) (by omega), uin (by omega) (by omega)]
    rw [hl]
    simp only [bits_Div64.j1]
    by_cases c : t = true
    · rw [if_pos c]
      have hq : Q < q := by
        rcases ht.1 c with h | h
        · omega
        · exact gt_of hY h Qa
      rw [uin (x := r + y1) (by omega) (by omega), uin (x := q - 1) (by omega) (by omega)]
      have e2 : (q - 1) * y1 + (r + y1) = U := by rw [Int.sub_mul]; omega
      by_cases c2 : r + y1 ≥ 4294967296
      · rw [if_pos c2]
        refine ⟨k, by omega, ?_⟩
        have st2 := step h1 h2 h3 h4 (show 0 ≤ q - 1 by omega) e2
        have z3 : (q - 1) * y0 ≤ 4294967296 * 4294967295 := Int.mul_le_mul (show q - 1 ≤ 4294967296 by omega) (show y0 ≤ 4294967295 by omega) h3 (by omega)
        have := le_of hY (show (q - 1) * (y1 * 4294967296 + y0) ≤ U * 4294967296 + u1 by omega) Qb
        have : q - 1 = Q := by omega
        rw [this]
      · rw [if_neg c2]
        obtain ⟨j, hj, ej⟩ := ih k (q - 1) (r + y1) (by omega) (by omega) e2 (by omega) (by omega) (by
          have : ((d + 1 : Nat) : Int) * y1 = d * y1 + y1 := by rw [Int.natCast_add, Int.add_mul]; simp
          omega) (by omega)
        exact ⟨j, by omega, ej⟩
    · rw [if_neg c]
      refine ⟨k, by omega, ?_⟩
      have hn : ¬ (4294967296 ≤ q ∨ q * (y1 * 4294967296 + y0) > U * 4294967296 + u1) := fun h => c (ht.2 h)
      have := le_of hY (show q * (y1 * 4294967296 + y0) ≤ U * 4294967296 + u1 by omega) Qb
      have : q = Q := by omega
      rw [this]
/-- The second digit: the same loop; its way out tells the answer. -/
theorem l1_eq {q1 : Int} (h1 : 2147483648 ≤ y1) (h2 : y1 < 4294967296) (h3 : 0 ≤ y0) (h4 : y0 < 4294967296) (v0 : 0 ≤ u0) (v1 : u0 < 4294967296) (s0 : 0 ≤ s) (Q0 : 0 ≤ Q) (Q1 : Q < 4294967296)
    (Qa : Q * (y1 * 4294967296 + y0) ≤ U * 4294967296 + u0) (Qb : U * 4294967296 + u0 < (Q + 1) * (y1 * 4294967296 + y0)) : ∀ (d : Nat) (k : Nat) (q r : Int), 0 ≤ r → r < 4294967296 → q * y1 + r = U → Q ≤ q → q ≤ 4294967297 → 4294967296 ≤ r + d * y1 → 2 * d + 2 ≤ k →
    bits_Div64.l1 k (y1 * 4294967296 + y0) s y1 y0 u0 q1 r U q = some (IntKind.u64.wrap ((IntKind.u64.wrap (q1 * 4294967296)) + Q), shr .u64 (IntKind.u64.wrap ((IntKind.u64.wrap ((IntKind.u64.wrap (U * 4294967296)) + u0)) - (IntKind.u64.wrap (Q * (y1 * 4294967296 + y0))))) s) := by
  intro d
  induction d with
  | zero =>
    intro k q r r0 r1 e ha hb hd hk
    omega
  | succ d ih =>
    intro k q r r0 r1 e ha hb hd hk
    obtain ⟨k, rfl⟩ : ∃ j, k = j + 2 := ⟨k - 2, by omega⟩
    have hY : 0 ≤ y1 * 4294967296 + y0 := by omega
    have st := step h1 h2 h3 h4 (by omega) e
    have zq : 0 ≤ q * y0 := Int.mul_nonneg (by omega) h3
    obtain ⟨t, ht, hl⟩ : ∃ t : Bool, (t = true ↔ (4294967296 ≤ q ∨ q * (y1 * 4294967296 + y0) > U * 4294967296 + u0)) ∧ bits_Div64.l1 (k + 2) (y1 * 4294967296 + y0) s y1 y0 u0 q1 r U q = bits_Div64.j4 (k + 1) (y1 * 4294967296 + y0) s y1 y0 u0 q1 r U q t := by
      by_cases c : q ≥ 4294967296
      · refine ⟨true, by simp; exact Or.inl c, ?_⟩
        simp only [bits_Div64.l1]
        rw [if_pos c]
      · refine ⟨decide (q * y0 > 4294967296 * r + u0), ?_, ?_⟩
        · rw [decide_eq_true_eq]
          constructor
          · intro h; right; omega
          · rintro (h | h) <;> omega
        · have z2 : q * y0 < 18446744073709551616 := by
            have a1 := Int.mul_le_mul (show q ≤ 4294967295 by omega) (show y0 ≤ 4294967295 by omega) h3 (by omega)
            omega
          simp only [bits_Div64.l1]
          rw [if_neg c, uin zq z2, uin (x := 4294967296 * r) (by omega) (by omega), uin (by omega) (by omega)]
    rw [hl]
    simp only [bits_Div64.j4]
    by_cases c : t = true
    · rw [if_pos c]
      have hq : Q < q := by
        rcases ht.1 c with h | h
        · omega
        · exact gt_of hY h Qa
      rw [uin (x := r + y1) (by omega) (by omega), uin (x := q - 1) (by omega) (by omega)]
      have e2 : (q - 1) * y1 + (r + y1) = U := by rw [Int.sub_mul]; omega
      by_cases c2 : r + y1 ≥ 4294967296
      · rw [if_pos c2, if_pos s0]
        have st2 := step h1 h2 h3 h4 (show 0 ≤ q - 1 by omega) e2
        have z3 : (q - 1) * y0 ≤ 4294967296 * 4294967295 := Int.mul_le_mul (show q - 1 ≤ 4294967296 by omega) (show y0 ≤ 4294967295 by omega) h3 (by omega)
        have := le_of hY (show (q - 1) * (y1 * 4294967296 + y0) ≤ U * 4294967296 + u0 by omega) Qb
        have : q - 1 = Q := by omega
        rw [this]
      · rw [if_neg c2]
        exact ih k (q - 1) (r + y1) (by omega) (by omega) e2 (by omega) (by omega) (by
          have : ((d + 1 : Nat) : Int) * y1 = d * y1 + y1 := by rw [Int.natCast_add, Int.add_mul]; simp
          omega) (by omega)
    · rw [if_neg c, if_pos s0]
      have hn : ¬ (4294967296 ≤ q ∨ q * (y1 * 4294967296 + y0) > U * 4294967296 + u0) := fun h => c (ht.2 h)
      have := le_of hY (show q * (y1 * 4294967296 + y0) ≤ U * 4294967296 + u0 by omega) Qb
      have : q = Q := by omega
      rw [this]
end
theorem guess {y1 y0 U u1 : Int} (h1 : 2147483648 ≤ y1) (h2 : y1 < 4294967296) (h3 : 0 ≤ y0) (h4 : y0 < 4294967296) (U0 : 0 ≤ U) (UY : U < y1 * 4294967296 + y0) (v0 : 0 ≤ u1) (v1 : u1 < 4294967296) :
    ∃ Q R : Int, 0 ≤ Q ∧ Q < 4294967296 ∧ Q * (y1 * 4294967296 + y0) + R = U * 4294967296 + u1 ∧ 0 ≤ R ∧ R < y1 * 4294967296 + y0 ∧ Q ≤ U / y1 ∧ U / y1 ≤ 4294967297 ∧ U / y1 * y1 + U % y1 = U ∧ 0 ≤ U % y1 ∧ U % y1 < y1 := by
  have hY : 0 < y1 * 4294967296 + y0 := by omega
  have e := Int.mul_ediv_add_emod (U * 4294967296 + u1) (y1 * 4294967296 + y0)
  have r0 := Int.emod_nonneg (U * 4294967296 + u1) (show y1 * 4294967296 + y0 ≠ 0 by omega)
  have r1 := Int.emod_lt_of_pos (U * 4294967296 + u1) hY
  have q0 : 0 ≤ (U * 4294967296 + u1) / (y1 * 4294967296 + y0) := Int.ediv_nonneg (by omega) (by omega)
  have q1 : (U * 4294967296 + u1) / (y1 * 4294967296 + y0) < 4294967296 := Int.ediv_lt_of_lt_mul hY (by omega)
  have e2 := Int.mul_ediv_add_emod U y1
  have s0 := Int.emod_nonneg U (show y1 ≠ 0 by omega)
  have s1 := Int.emod_lt_of_pos U (show 0 < y1 by omega)
  rw [Int.mul_comm] at e e2
  refine ⟨_, _, q0, q1, e, r0, r1, ?_, ?_, e2, s0, s1⟩
  · generalize (U * 4294967296 + u1) / (y1 * 4294967296 + y0) = Q at *
    apply Int.le_ediv_of_mul_le (by omega)
    rw [mulY] at e
    have : 0 ≤ Q * y0 := Int.mul_nonneg q0 h3
    omega
  · have : U / y1 < 4294967298 := Int.ediv_lt_of_lt_mul (by omega) (by omega)
    omega
theorem or_add {a b s : Nat} (hb : b < 2 ^ s) : (a * 2 ^ s) ||| b = a * 2 ^ s + b := by
  apply Nat.eq_of_testBit_eq
  intro i
  rw [Nat.testBit_or, Nat.mul_comm a, Nat.testBit_two_pow_mul_add a hb]
  by_cases h : i < s
  · rw [if_pos h, Nat.testBit_two_pow_mul]
    simp [show ¬ s ≤ i by omega]
  · rw [if_neg h, Nat.testBit_two_pow_mul]
    have : b.testBit i = false := Nat.testBit_lt_two_pow (Nat.lt_of_lt_of_le hb (Nat.pow_le_pow_right (by decide) (by omega)))
    simp [this, show s ≤ i by omega]
theorem and32 {a : Int} (h : 0 ≤ a) (h2 : a < 18446744073709551616) : Go.bits .and .u64 a 4294967295 = a % 4294967296 := by
  obtain ⟨m, rfl⟩ : ∃ m : Nat, a = m := ⟨a.toNat, by omega⟩
  rw [show (4294967295 : Int) = ((4294967295 : Nat) : Int) from rfl, bits_and_u64_nat m _ (by omega) (by decide), show 4294967295 = 2 ^ 32 - 1 from rfl, Nat.and_two_pow_sub_one_eq_mod]
  omega
/-- One digit, of its parts. -/
theorem div_eq {k s : Nat} {hi lo d : Int} (hs : s ≤ 63) (hz : bits_LeadingZeros64.f k d = some (s : Int)) (d0 : 9223372036854775808 ≤ d * 2 ^ s) (d1 : d * 2 ^ s < 18446744073709551616) (i0 : 0 ≤ hi) (i1 : hi < d) (l0 : 0 ≤ lo) (l1 : lo < 18446744073709551616) (hk : 30 ≤ k) :
    bits_Div64.f k hi lo d = some ((hi * 18446744073709551616 + lo) / d, (hi * 18446744073709551616 + lo) % d) := by
  have p0 : (0 : Int) < 2 ^ s := Int.pow_pos (by decide)
  have dY : d ≤ d * 2 ^ s := by
    have := Int.mul_le_mul_of_nonneg_left (show (1 : Int) ≤ 2 ^ s by omega) (show 0 ≤ d by omega)
    omega
  unfold bits_Div64.f
  rw [if_neg (by omega), if_neg (by omega)]
  by_cases h0 : hi = 0
  · subst h0
    have e1 : 0 ≤ lo / d := Int.ediv_nonneg l0 (by omega)
    have e2 : lo / d ≤ lo := Int.ediv_le_self _ l0
    rw [if_pos rfl, Int.tdiv_eq_ediv_of_nonneg l0, Int.tmod_eq_emod_of_nonneg l0, uin e1 (by omega), Int.zero_mul, Int.zero_add]
  rw [if_neg h0, hz, Option.bind_some, uin (x := (s : Int)) (by omega) (by omega), uin (x := 64 - (s : Int)) (by omega) (by omega), if_pos (by omega), if_pos (by omega)]
  -- the parts
  have m1 : min ((s : Int).toNat) (IntKind.bits .u64) = s := by simp [IntKind.bits]; omega
  have m2 : min ((64 - (s : Int)).toNat) (IntKind.bits .u64) = 64 - s := by
    rw [show (64 - (s : Int)).toNat = 64 - s by omega, show IntKind.bits .u64 = 64 from rfl]
    omega
  have hiY : hi * 2 ^ s < d * 2 ^ s := Int.mul_lt_mul_of_pos_right i1 p0
  have hi0 : 0 ≤ hi * 2 ^ s := Int.mul_nonneg i0 (by omega)
  have sd : shl .u64 d (s : Int) = d * 2 ^ s := by unfold shl; rw [m1, uin (by omega) d1]
  have sh : shl .u64 hi (s : Int) = hi * 2 ^ s := by unfold shl; rw [m1, uin hi0 (by omega)]
  have sl : shl .u64 lo (s : Int) = (lo * 2 ^ s) % 18446744073709551616 := by unfold shl; rw [m1, uw]
  have sr : shr .u64 lo (64 - (s : Int)) = lo * 2 ^ s / 18446744073709551616 := by
    unfold shr
    rw [m2, show (18446744073709551616 : Int) = 2 ^ (64 - s) * 2 ^ s by rw [← Int.pow_add, show 64 - s + s = 64 by omega]; decide, Int.mul_ediv_mul_of_pos_left _ _ p0]
  have c0 : 0 ≤ lo * 2 ^ s / 18446744073709551616 := Int.ediv_nonneg (Int.mul_nonneg l0 (by omega)) (by omega)
  have c1 : lo * 2 ^ s / 18446744073709551616 < 2 ^ s := Int.ediv_lt_of_lt_mul (by omega) (by rw [Int.mul_comm]; exact Int.mul_lt_mul_of_pos_left l1 p0)
  have so : Go.bits .or .u64 (hi * 2 ^ s) (lo * 2 ^ s / 18446744073709551616) = hi * 2 ^ s + lo * 2 ^ s / 18446744073709551616 := by
    obtain ⟨a, rfl⟩ : ∃ a : Nat, hi = a := ⟨hi.toNat, by omega⟩
    obtain ⟨b, eb⟩ : ∃ b : Nat, lo * 2 ^ s / 18446744073709551616 = b := ⟨(lo * 2 ^ s / 18446744073709551616).toNat, by omega⟩
    rw [eb] at c1 ⊢
    have ep : ((2 : Int) ^ s) = ((2 ^ s : Nat) : Int) := by simp
    rw [ep] at c1 hiY d1 hi0 ⊢
    have hb : b < 2 ^ s := by omega
    have ha : a * 2 ^ s < 18446744073709551616 := by
      have : ((a * 2 ^ s : Nat) : Int) = (a : Int) * ((2 ^ s : Nat) : Int) := by simp
      omega
    have p64 : 2 ^ s ≤ 2 ^ 63 := Nat.pow_le_pow_right (by decide) hs
    rw [show (a : Int) * ((2 ^ s : Nat) : Int) = ((a * 2 ^ s : Nat) : Int) by simp, bits_or_u64_nat _ _ ha (by omega), or_add hb]
    omega
  rw [sd, sh, sl, sr, so]
  obtain ⟨Y, eY⟩ : ∃ Y, d * 2 ^ s = Y := ⟨_, rfl⟩
  obtain ⟨y1, ey1⟩ : ∃ y1, Y / 4294967296 = y1 := ⟨_, rfl⟩
  obtain ⟨y0, ey0⟩ : ∃ y0, Y % 4294967296 = y0 := ⟨_, rfl⟩
  have eY2 : Y = y1 * 4294967296 + y0 := by omega
  obtain ⟨U, eU⟩ : ∃ U, hi * 2 ^ s + lo * 2 ^ s / 18446744073709551616 = U := ⟨_, rfl⟩
  obtain ⟨L, eL⟩ : ∃ L, (lo * 2 ^ s) % 18446744073709551616 = L := ⟨_, rfl⟩
  have L0 : 0 ≤ L ∧ L < 18446744073709551616 := by omega
  have hN : U * 18446744073709551616 + L = (hi * 18446744073709551616 + lo) * 2 ^ s := by
    rw [Int.add_mul, Int.mul_right_comm]
    omega
  have UY : U < Y := by
    have : (hi * 18446744073709551616 + lo) * 2 ^ s < (d * 18446744073709551616) * 2 ^ s := Int.mul_lt_mul_of_pos_right (by omega) p0
    rw [Int.mul_right_comm d] at this
    omega
  rw [eY, eU, eL, and32 (by omega) (by omega), and32 L0.1 L0.2, ey1, ey0]
  rw [eY] at d0 d1
  have h1 : 2147483648 ≤ y1 := by omega
  have h2 : y1 < 4294967296 := by omega
  have h3 : 0 ≤ y0 := by omega
  have h4 : y0 < 4294967296 := by omega
  have U0 : 0 ≤ U := by omega
  obtain ⟨u1, eu1⟩ : ∃ u1, L / 4294967296 = u1 := ⟨_, rfl⟩
  obtain ⟨u0, eu0⟩ : ∃ u0, L % 4294967296 = u0 := ⟨_, rfl⟩
  rw [eu1, eu0]
  have eL2 : L = u1 * 4294967296 + u0 := by omega
  have b1 : 0 ≤ u1 ∧ u1 < 4294967296 := by omega
  have b0 : 0 ≤ u0 ∧ u0 < 4294967296 := by omega
  clear sd sh sl sr so m1 m2 hiY hi0 c0 c1
  rw [eY2] at UY ⊢
  obtain ⟨Q, R, Q0, Q1, e1, R0, R1, g1, g2, g3, g4, g5⟩ := guess h1 h2 h3 h4 U0 UY b1.1 b1.2
  obtain ⟨P, S, P0, P1, f1, S0, S1, k1, k2, k3, k4, k5⟩ := guess h1 h2 h3 h4 R0 R1 b0.1 b0.2
  have t1 : 0 ≤ U / y1 := Int.ediv_nonneg U0 (by omega)
  have t2 : 0 ≤ U / y1 * y1 := Int.mul_nonneg t1 (by omega)
  rw [if_neg (by omega), Int.tdiv_eq_ediv_of_nonneg U0, uin (x := U / y1) t1 (by omega), uin (x := U / y1 * y1) t2 (by omega), uin (x := U - U / y1 * y1) (by omega) (by omega), show U - U / y1 * y1 = U % y1 by omega]
  obtain ⟨j, hj, ej⟩ := l0_eq (s := (s : Int)) (u0 := u0) h1 h2 h3 h4 b1.1 b1.2 Q0 Q1 (show Q * (y1 * 4294967296 + y0) ≤ U * 4294967296 + u1 by omega) (show U * 4294967296 + u1 < (Q + 1) * (y1 * 4294967296 + y0) by rw [Int.add_mul]; omega) 2 k (U / y1) (U % y1) g4 (by omega) g3 g1 g2 (by omega) (by omega)
  rw [ej]
  obtain ⟨j, rfl⟩ : ∃ i, j = i + 1 := ⟨j - 1, by omega⟩
  simp only [bits_Div64.j2]
  have w1 : IntKind.u64.wrap ((IntKind.u64.wrap ((IntKind.u64.wrap (U * 4294967296)) + u1)) - (IntKind.u64.wrap (Q * (y1 * 4294967296 + y0)))) = R := by
    generalize Q * (y1 * 4294967296 + y0) = Z at *
    rw [uw, uw, uw, uw]
    omega
  have t3 : 0 ≤ R / y1 := Int.ediv_nonneg R0 (by omega)
  have t4 : 0 ≤ R / y1 * y1 := Int.mul_nonneg t3 (by omega)
  rw [if_neg (by omega), w1, Int.tdiv_eq_ediv_of_nonneg R0, uin (x := R / y1) t3 (by omega), uin (x := R / y1 * y1) t4 (by omega), uin (x := R - R / y1 * y1) (by omega) (by omega), show R - R / y1 * y1 = R % y1 by omega,
    l1_eq (s := (s : Int)) (q1 := Q) h1 h2 h3 h4 b0.1 b0.2 (by omega) P0 P1 (show P * (y1 * 4294967296 + y0) ≤ R * 4294967296 + u0 by omega) (show R * 4294967296 + u0 < (P + 1) * (y1 * 4294967296 + y0) by rw [Int.add_mul]; omega) 2 j (R / y1) (R % y1) k4 (by omega) k3 k1 k2 (by omega) (by omega)]
  have w2 : IntKind.u64.wrap ((IntKind.u64.wrap ((IntKind.u64.wrap (R * 4294967296)) + u0)) - (IntKind.u64.wrap (P * (y1 * 4294967296 + y0)))) = S := by
    generalize P * (y1 * 4294967296 + y0) = Z at *
    rw [uw, uw, uw, uw]
    omega
  have w3 : IntKind.u64.wrap ((IntKind.u64.wrap (Q * 4294967296)) + P) = Q * 4294967296 + P := by
    rw [uin (x := Q * 4294967296) (by omega) (by omega), uin (by omega) (by omega)]
  rw [w2, w3]
  -- what it comes to
  have fin : (hi * 18446744073709551616 + lo) * 2 ^ s = (Q * 4294967296 + P) * d * 2 ^ s + S := by
    rw [Int.mul_assoc (Q * 4294967296 + P), eY, eY2, Int.add_mul (Q * 4294967296), Int.mul_right_comm Q]
    omega
  obtain ⟨V, eV⟩ : ∃ V, hi * 18446744073709551616 + lo = V := ⟨_, rfl⟩
  rw [eV] at fin ⊢
  have fin2 : S = (V - (Q * 4294967296 + P) * d) * 2 ^ s := by rw [Int.sub_mul]; omega
  have sS : shr .u64 S (s : Int) = V - (Q * 4294967296 + P) * d := by
    unfold shr
    rw [show min ((s : Int).toNat) (IntKind.bits .u64) = s by simp [IntKind.bits]; omega, fin2, Int.mul_ediv_cancel _ (by omega)]
  rw [sS]
  have r0 : 0 ≤ V - (Q * 4294967296 + P) * d := by
    rw [← sS]
    unfold shr
    exact Int.ediv_nonneg S0 (Int.le_of_lt (Int.pow_pos (by decide)))
  have r1 : V - (Q * 4294967296 + P) * d < d := by
    apply Int.lt_of_mul_lt_mul_right (a := (2 : Int) ^ s) _ (by omega)
    rw [← fin2, eY, eY2]
    exact S1
  have u := (Int.ediv_emod_unique (a := V) (b := d) (r := V - (Q * 4294967296 + P) * d) (q := Q * 4294967296 + P) (by omega)).2 ⟨by rw [Int.mul_comm d]; omega, r0, r1⟩
  rw [u.1, u.2]
end Go.Proofs.Ytmkjljekofondaa.Div64
