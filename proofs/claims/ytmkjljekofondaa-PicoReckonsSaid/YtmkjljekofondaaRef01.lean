/- The document's way to so many parts of a time (layer 1), bit by bit, as printed. -/
import Derived.Test.YtmkjljekofondaaScale01
import Derived.Test.YtmkjljekofondaaPrint0
import Derived.Test.YtmkjljekofondaaPrint11
import Derived.Test.YtmkjljekofondaaPrint12
import Derived.Test.YtmkjljekofondaaPrint13
set_option linter.unusedVariables false
set_option linter.unusedSimpArgs false
namespace Go.Proofs.Ytmkjljekofondaa.Ref01
open Go Go.RowKit Go.Proofs.Ytmkjljekofondaa.Print Go.Proofs.YtmkjljekofondaaW.PrintWords Go.Proofs.YtmkjljekofondaaW.PrintLast Go.Proofs.YtmkjljekofondaaW.PrintMore Go.Proofs.Ytmkjljekofondaa.Medl Go.Proofs.Ytmkjljekofondaa.Div64 Go.Proofs.Ytmkjljekofondaa.Scale01
theorem orbit (x b : Nat) (hx : x < 18446744073709551616) (hb : b < 2) : Go.bits .or .u64 (IntKind.u64.wrap ((x : Int) * 2)) (b : Int) = ((x % 9223372036854775808 * 2 + b : Nat) : Int) := by
  have e : IntKind.u64.wrap ((x : Int) * 2) = ((x % 9223372036854775808 * 2 : Nat) : Int) := by rw [uw]; omega
  rw [e]
  obtain ⟨y, hy⟩ : ∃ y, x % 9223372036854775808 = y := ⟨_, rfl⟩
  rw [hy]
  show IntKind.u64.wrap (((BitVec.ofInt 64 ((y * 2 : Nat) : Int)) ||| (BitVec.ofInt 64 (b : Int))).toNat : Int) = _
  rw [BitVec.ofInt_natCast, BitVec.ofInt_natCast, BitVec.toNat_or, BitVec.toNat_ofNat, BitVec.toNat_ofNat, Nat.mod_eq_of_lt (a := y * 2) (by omega), Nat.mod_eq_of_lt (a := b) (by omega)]
  have e2 := or_add (a := y) (b := b) (s := 1) (by omega)
  rw [Nat.pow_one] at e2
  rw [e2, uw]
  omega
theorem twice_eq (h l b : Nat) (hh : h < 9223372036854775808) (hl : l < 18446744073709551616) (hb : b < 2) : palletref01_twice.f (h : Int) (l : Int) (b : Int) = some ((((2 * (h * 18446744073709551616 + l) + b) / 18446744073709551616 : Nat) : Int), (((2 * (h * 18446744073709551616 + l) + b) % 18446744073709551616 : Nat) : Int)) := by
  unfold palletref01_twice.f
  rw [show (l : Int) / 9223372036854775808 = ((l / 9223372036854775808 : Nat) : Int) by omega, orbit h _ (by omega) (by omega), orbit l b hl hb]
  congr 1
  rw [Prod.mk.injEq]
  constructor <;> omega
theorem twice0 (h l : Nat) (hh : h < 9223372036854775808) (hl : l < 18446744073709551616) : palletref01_twice.f (h : Int) (l : Int) 0 = some ((((2 * (h * 18446744073709551616 + l)) / 18446744073709551616 : Nat) : Int), (((2 * (h * 18446744073709551616 + l)) % 18446744073709551616 : Nat) : Int)) := by
  have e := twice_eq h l 0 hh hl (by decide)
  rw [Nat.add_zero, show ((0 : Nat) : Int) = 0 from rfl] at e
  exact e
theorem rsize_eq {a : Int} (h : Tm a) : palletref01_size.f a = some (ab a) := by
  unfold Tm at h
  unfold palletref01_size.f ab
  by_cases c : a < 0
  · rw [if_pos c, if_pos c, w64 (by omega) (by omega), uin (by omega) (by omega)]
  · rw [if_neg c, if_neg c, uin (by omega) (by omega)]
theorem band (x : Nat) (h : x < 18446744073709551616) : Go.bits .and .u64 (x : Int) 1 = ((x % 2 : Nat) : Int) := by
  show IntKind.u64.wrap (((BitVec.ofInt 64 (x : Int)) &&& (BitVec.ofInt 64 1)).toNat : Int) = _
  rw [BitVec.toNat_and, show (BitVec.ofInt 64 1).toNat = 2 ^ 1 - 1 by decide, Nat.and_two_pow_sub_one_eq_mod, BitVec.ofInt_natCast, BitVec.toNat_ofNat, Nat.mod_eq_of_lt h, uin (by omega) (by omega)]
theorem shrn (x i : Nat) (hi : i ≤ 64) : shr .u64 (x : Int) (i : Int) = ((x / 2 ^ i : Nat) : Int) := by
  unfold shr
  rw [Int.toNat_natCast, show IntKind.bits .u64 = 64 from rfl, Nat.min_eq_left hi]
  simp
theorem bit_of (x i : Nat) (hx : x < 18446744073709551616) (hi : i ≤ 64) : Go.bits .and .u64 (shr .u64 (x : Int) (i : Int)) 1 = ((x / 2 ^ i % 2 : Nat) : Int) := by
  rw [shrn x i hi, band _ (Nat.lt_of_le_of_lt (Nat.div_le_self _ _) hx)]
theorem half (x i : Nat) : x / 2 ^ i = 2 * (x / 2 ^ (i + 1)) + x / 2 ^ i % 2 := by
  rw [Nat.pow_succ, ← Nat.div_div_eq_div_mul]
  omega
section
variable {a n d : Int}
theorem prod_l0 (ha : Tm a) (hn : Tm n) (A N : Nat) (eA : ab a = A) (eN : ab n = N) : ∀ (i k V : Nat), i ≤ 64 → V = A * (N / 2 ^ i) → palletref01_Scale.l0 (k + i + 1) a n d ((V / 18446744073709551616 : Nat) : Int) ((V % 18446744073709551616 : Nat) : Int) ((i : Int) - 1) = palletref01_Scale.l1 k a n d ((A * N / 18446744073709551616 : Nat) : Int) ((A * N % 18446744073709551616 : Nat) : Int) 0 0 127 := by
  have hA := ab_tm ha
  have hN := ab_tm hn
  intro i
  induction i with
  | zero =>
    intro k V hi hV
    rw [palletref01_Scale.l0, if_neg (by omega), hV, Nat.pow_zero, Nat.div_one]
  | succ i ih =>
    intro k V hi hV
    have bV : V ≤ 1152921504606846976 * 1152921504606846976 := by
      rw [hV]
      exact Nat.mul_le_mul (by omega) (Nat.le_trans (Nat.div_le_self _ _) (by omega))
    have e0 : k + (i + 1) + 1 = (k + i + 1) + 1 := by omega
    rw [e0, palletref01_Scale.l0, if_pos (by omega), twice0 (V / 18446744073709551616) (V % 18446744073709551616) (by omega) (by omega), Option.bind_some, rsize_eq hn, Option.bind_some, show (((i + 1 : Nat) : Int) - 1) = (i : Int) by omega, if_pos (by omega), eN, bit_of N i (by omega) (by omega), rsize_eq ha, Option.bind_some, eA, w64 (by omega) (by omega)]
    simp only
    have hh := half N i
    generalize hb : N / 2 ^ i % 2 = b at *
    have hb2 : b < 2 := by omega
    have eV : 2 * (V / 18446744073709551616 * 18446744073709551616 + V % 18446744073709551616) = 2 * V := by omega
    rw [eV]
    have next : ∀ W, W = 2 * V + b * A → palletref01_Scale.l0 (k + i + 1) a n d ((W / 18446744073709551616 : Nat) : Int) ((W % 18446744073709551616 : Nat) : Int) ((i : Int) - 1) = palletref01_Scale.l1 k a n d ((A * N / 18446744073709551616 : Nat) : Int) ((A * N % 18446744073709551616 : Nat) : Int) 0 0 127 := by
      intro W hW
      refine ih k W (by omega) ?_
      rw [hW, hV, hh, Nat.mul_add, Nat.mul_comm b A, Nat.mul_left_comm]
    by_cases c : b = 1
    · rw [if_pos (by omega)]
      have nx := next (2 * V + A) (by rw [c]; omega)
      have bA : A ≤ 1152921504606846976 := by omega
      by_cases o : IntKind.u64.wrap (((2 * V % 18446744073709551616 : Nat) : Int) + (A : Int)) < ((2 * V % 18446744073709551616 : Nat) : Int)
      · rw [if_pos o, ← nx]
        rw [uw] at o
        congr 1
        · rw [uw]; omega
        · rw [uw]; omega
      · rw [if_neg o, ← nx]
        rw [uw] at o
        congr 1
        · omega
        · rw [uw]; omega
    · rw [if_neg (by omega), ← next (2 * V) (by rw [show b = 0 by omega]; omega)]
/-- The quotient, bit by bit. -/
theorem quo_l1 (d1 : 1 ≤ d) (dm : d ≤ 1152921504606846976) (D P : Nat) (eD : d = D) (hP : P < 340282366920938463463374607431768211456) (R : Option (Int × Int × Int))
    (over : 1152921504606846976 < P / D → R = some (0, 0, 2)) (k0 : Nat)
    (fin : P / D ≤ 2305843009213693953 → palletref01_Scale.l1 (k0 + 1) a n d ((P / 18446744073709551616 : Nat) : Int) ((P % 18446744073709551616 : Nat) : Int) ((P / D : Nat) : Int) ((P % D : Nat) : Int) (-1) = R) :
    ∀ (j q r : Nat), j ≤ 128 → q = P / 2 ^ j / D → r = P / 2 ^ j % D → q ≤ 2305843009213693953 → palletref01_Scale.l1 (k0 + 2 * j + 1) a n d ((P / 18446744073709551616 : Nat) : Int) ((P % 18446744073709551616 : Nat) : Int) (q : Int) (r : Int) ((j : Int) - 1) = R := by
  intro j
  induction j with
  | zero =>
    intro q r hj hq hr hb
    rw [Nat.pow_zero, Nat.div_one] at hq hr
    rw [hq, hr]
    exact fin (by rw [← hq]; exact hb)
  | succ j ih =>
    intro q r hj hq hr hb
    have e0 : k0 + 2 * (j + 1) + 1 = (k0 + 2 * j + 1) + 1 + 1 := by omega
    have hD : 0 < D := by omega
    have rD : r < D := by rw [hr]; exact Nat.mod_lt _ hD
    have hh := half P j
    have eX : P / 2 ^ (j + 1) = D * q + r := by rw [hq, hr]; exact (Nat.div_add_mod _ _).symm
    generalize hbit : P / 2 ^ j % 2 = b at *
    have hb2 : b < 2 := by omega
    have eX' : P / 2 ^ j = D * (2 * q) + (2 * r + b) := by rw [hh, eX, Nat.mul_add, Nat.mul_left_comm]; omega
    have tail : palletref01_Scale.j3 (k0 + 2 * j + 1 + 1) a n d ((P / 18446744073709551616 : Nat) : Int) ((P % 18446744073709551616 : Nat) : Int) (q : Int) (r : Int) (j : Int) (b : Int) = R := by
      rw [palletref01_Scale.j3]
      by_cases c : (q : Int) > 1152921504606846976
      · rw [if_pos c, over]
        have : P / D ≥ P / 2 ^ (j + 1) / D := Nat.div_le_div_right (Nat.div_le_self _ _)
        omega
      · rw [if_neg c, orbit r b (by omega) hb2, show r % 9223372036854775808 * 2 + b = 2 * r + b by omega, eD, uin (x := (D : Int)) (by omega) (by omega), w64 (x := (j : Int) - 1) (by omega) (by omega), uin (x := (q : Int) * 2) (by omega) (by omega), uin (x := (q : Int) * 2 + 1) (by omega) (by omega)]
        by_cases g : ((2 * r + b : Nat) : Int) ≥ (D : Int)
        · rw [if_pos g, uin (by omega) (by omega), show (q : Int) * 2 + 1 = ((2 * q + 1 : Nat) : Int) by omega, show ((2 * r + b : Nat) : Int) - (D : Int) = ((2 * r + b - D : Nat) : Int) by omega, ← eD]
          have e2 : P / 2 ^ j = D * (2 * q + 1) + (2 * r + b - D) := by rw [eX', Nat.mul_add, Nat.mul_one]; omega
          refine ih (2 * q + 1) (2 * r + b - D) (by omega) ?_ ?_ (by omega)
          · rw [e2, Nat.mul_add_div hD, Nat.div_eq_of_lt (a := 2 * r + b - D) (by omega), Nat.add_zero]
          · rw [e2, Nat.mul_add_mod, Nat.mod_eq_of_lt (by omega)]
        · rw [if_neg g, show (q : Int) * 2 = ((2 * q : Nat) : Int) by omega, ← eD]
          refine ih (2 * q) (2 * r + b) (by omega) ?_ ?_ (by omega)
          · rw [eX', Nat.mul_add_div hD, Nat.div_eq_of_lt (a := 2 * r + b) (by omega), Nat.add_zero]
          · rw [eX', Nat.mul_add_mod, Nat.mod_eq_of_lt (by omega)]
    rw [e0, palletref01_Scale.l1, if_pos (by omega), show (((j + 1 : Nat) : Int) - 1) = (j : Int) by omega, Int.tmod_eq_emod_of_nonneg (by omega), if_pos (by omega)]
    by_cases c : (j : Int) ≥ 64
    · rw [if_pos c, show (j : Int) % 64 = ((j - 64 : Nat) : Int) by omega, bit_of _ _ (by omega) (by omega)]
      have : P / 18446744073709551616 / 2 ^ (j - 64) % 2 = b := by
        rw [← hbit, Nat.div_div_eq_div_mul, show 18446744073709551616 * 2 ^ (j - 64) = 2 ^ j by rw [show 18446744073709551616 = 2 ^ 64 by decide, ← Nat.pow_add, show 64 + (j - 64) = j by omega]]
      rw [this]
      exact tail
    · rw [if_neg c, show (j : Int) % 64 = ((j : Nat) : Int) by omega, bit_of _ _ (by omega) (by omega)]
      have : P % 18446744073709551616 / 2 ^ j % 2 = b := by
        rw [← hbit]
        have e1 : 18446744073709551616 = 2 ^ j * (2 * 2 ^ (63 - j)) := by
          rw [← Nat.mul_assoc, Nat.mul_comm (2 ^ j) 2, Nat.mul_assoc, ← Nat.pow_add, show j + (63 - j) = 63 by omega]
        rw [e1, Nat.mod_mul_right_div_self, Nat.mod_mul_right_mod]
      rw [this]
      exact tail
end
theorem refmay3 {k : Nat} (hk : 4 ≤ k) (x y z : Int) : palletref01_May.f k [x, y, z] = some (decide (Tm x ∧ Tm y ∧ Tm z)) := by
  rw [refmay01 [x, y, z] (by simp) (by simp; omega)]
  simp
theorem refmay2 {k : Nat} (hk : 3 ≤ k) (x y : Int) : palletref01_May.f k [x, y] = some (decide (Tm x ∧ Tm y)) := by
  rw [refmay01 [x, y] (by simp) (by simp; omega)]
  simp
theorem rscale_eq {k : Nat} (hk : 400 ≤ k) (a n d : Int) : palletref01_Scale.f k a n d = some (sc a n d) := by
  obtain ⟨k, rfl⟩ : ∃ j, k = (j + 2 * 128 + 1) + 64 + 1 + 1 := ⟨k - 323, by omega⟩
  unfold palletref01_Scale.f
  rw [refmay3 (by omega), Option.bind_some]
  have no : palletref01_Scale.j0 ((k + 2 * 128 + 1) + 64 + 1 + 1) a n d true = some (0, 0, 1) := by rw [palletref01_Scale.j0, if_pos rfl]
  by_cases h : Tm a ∧ Tm n ∧ Tm d
  case neg =>
    rw [decide_eq_false h, if_neg (by decide), no]
    unfold sc
    rw [if_neg (fun q => h ⟨q.1, q.2.1, q.2.2.1⟩)]
  obtain ⟨ha, hn, hd⟩ := id h
  rw [decide_eq_true h, if_pos rfl]
  by_cases h1 : d < 1
  · rw [decide_eq_true h1, no]
    unfold sc
    rw [if_neg (fun q => by have := q.2.2.2; omega)]
  obtain ⟨A0, A1⟩ := ab_tm ha
  obtain ⟨N0, N1⟩ := ab_tm hn
  obtain ⟨A, eA⟩ : ∃ A : Nat, ab a = A := ⟨(ab a).toNat, by omega⟩
  obtain ⟨N, eN⟩ : ∃ N : Nat, ab n = N := ⟨(ab n).toNat, by omega⟩
  obtain ⟨D, eD⟩ : ∃ D : Nat, d = D := ⟨d.toNat, by omega⟩
  have hd' := hd
  unfold Tm at hd'
  have P1 : A * N ≤ 1152921504606846976 * 1152921504606846976 := Nat.mul_le_mul (by omega) (by omega)
  have p0 := prod_l0 (n := n) (d := d) ha hn A N eA eN 64 (k + 2 * 128 + 1) 0 (by omega) (by rw [Nat.div_eq_of_lt (by omega), Nat.mul_zero])
  rw [Nat.zero_div, Nat.zero_mod, show ((0 : Nat) : Int) = 0 from rfl, show (((64 : Nat) : Int) - 1) = 63 from rfl] at p0
  rw [decide_eq_false h1, palletref01_Scale.j0, if_neg (by decide), p0]
  have eAN : ab a * ab n = ((A * N : Nat) : Int) := by rw [eA, eN]; simp
  have hq := quo_l1 (a := a) (n := n) (d := d) (by omega) (by omega) D (A * N) eD (by omega) (some (sc a n d)) ?_ k ?_ 128 0 0 (by omega) ?_ ?_ (by omega)
  · rw [show ((0 : Nat) : Int) = 0 from rfl, show (((128 : Nat) : Int) - 1) = 127 from rfl] at hq
    exact hq
  · intro ho
    rw [sc_over ha hn hd (by omega) (by rw [eAN, eD, ← Int.natCast_ediv]; omega)]
  · intro hb
    rw [sc_of ha hn hd (by omega) (q := ((A * N / D : Nat) : Int)) (r := ((A * N % D : Nat) : Int)) (by rw [eAN, eD, Int.natCast_ediv]) (by rw [eAN, eD, Int.natCast_emod])]
    have rD : A * N % D < D := Nat.mod_lt _ (by omega)
    generalize A * N / D = q at *
    generalize A * N % D = r at *
    rw [palletref01_Scale.l1, if_neg (by omega), w64 (x := (r : Int)) (by omega) (by omega), w64 (x := (q : Int)) (by omega) (by omega), w64 (x := -(q : Int)) (by omega) (by omega), w64 (x := -(q : Int) - 1) (by omega) (by omega), w64 (x := d - (r : Int)) (by omega) (by omega)]
    have one : ∀ x : Int, palletref01_May.f k [x] = some (decide (Tm x)) := fun x => refmay01_one (by omega) x
    rw [one, one, one]
    have tri : ∀ (x y : Int), ((some (decide (Tm x))).bind fun t => if t = true then some (x, y, (0 : Int)) else some (0, 0, 2)) = some (if Tm x then (x, y, 0) else (0, 0, 2)) := fun x y => by
      by_cases c : Tm x <;> simp [c]
    rw [tri, tri, tri]
    by_cases c : ((decide (a < 0)) != (decide (n < 0))) = true
    · rw [if_pos c, if_pos c]
      by_cases c2 : (r : Int) > 0
      · rw [if_pos c2, if_pos c2]
      · rw [if_neg c2, if_neg c2]
    · rw [if_neg c, if_neg c]
  · rw [show A * N / 2 ^ 128 = 0 from Nat.div_eq_of_lt (by omega), Nat.zero_div]
  · rw [show A * N / 2 ^ 128 = 0 from Nat.div_eq_of_lt (by omega), Nat.zero_mod]
end Go.Proofs.Ytmkjljekofondaa.Ref01
