/- Members as bits of a number below 65536: plain facts. -/
import Derived.IntWalk
import Derived.Laws.Bits64
import Derived.Laws.Bits64b
import Derived.Laws.MathBits
import Derived.Test.YtcofclkgfandfaaPrint0
import Derived.Test.YtcofclkgfandfaaPrint6
import Derived.Test.YtcofclkgfandfaaPrint9
import Derived.Test.YtcofclkgfandfaaPrint12
import Derived.Test.YtcofclkgfandfaaPrint13
import Derived.Test.YtcofclkgfandfaaPrint15
set_option linter.unusedVariables false
namespace Go.Proofs.Ytcofclkgfandfaa.Bits16
open Go
theorem u16_in {x : Int} (h : 0 ≤ x) (h2 : x ≤ 65535) : IntKind.u16.wrap x = x := by
  simp [IntKind.wrap, IntKind.bits, IntKind.signed]
  omega
theorem ofInt16 (a : Nat) (ha : a < 65536) : (BitVec.ofInt 16 (a : Int)).toNat = a := by
  rw [BitVec.ofInt_natCast, BitVec.toNat_ofNat]; exact Nat.mod_eq_of_lt (by omega)
theorem bits_and (a b : Nat) (ha : a < 65536) (hb : b < 65536) : Go.bits .and .u16 (a : Int) (b : Int) = ((a &&& b : Nat) : Int) := by
  have hx : a &&& b < 2 ^ 16 := Nat.and_lt_two_pow _ (by omega)
  show IntKind.u16.wrap ((BitVec.ofInt 16 (a : Int) &&& BitVec.ofInt 16 (b : Int)).toNat : Int) = _
  rw [BitVec.toNat_and, ofInt16 a ha, ofInt16 b hb, u16_in (by omega) (by omega)]
theorem bits_or (a b : Nat) (ha : a < 65536) (hb : b < 65536) : Go.bits .or .u16 (a : Int) (b : Int) = ((a ||| b : Nat) : Int) := by
  have hx : a ||| b < 2 ^ 16 := Nat.or_lt_two_pow (by omega) (by omega)
  show IntKind.u16.wrap ((BitVec.ofInt 16 (a : Int) ||| BitVec.ofInt 16 (b : Int)).toNat : Int) = _
  rw [BitVec.toNat_or, ofInt16 a ha, ofInt16 b hb, u16_in (by omega) (by omega)]
theorem bits_andNot (a b : Nat) (ha : a < 65536) (hb : b < 65536) : Go.bits .andNot .u16 (a : Int) (b : Int) = ((a &&& (65535 - b) : Nat) : Int) := by
  have hx : a &&& (65535 - b) < 2 ^ 16 := Nat.and_lt_two_pow _ (by omega)
  show IntKind.u16.wrap ((BitVec.ofInt 16 (a : Int) &&& ~~~ BitVec.ofInt 16 (b : Int)).toNat : Int) = _
  rw [BitVec.toNat_and, BitVec.toNat_not, ofInt16 a ha, ofInt16 b hb, show 2 ^ 16 - 1 - b = 65535 - b by omega, u16_in (by omega) (by omega)]
/-- With, without a node. -/
def wi (m n : Nat) : Nat := if n < 16 then m ||| 2 ^ n else m
def wo (m n : Nat) : Nat := if n < 16 then m &&& (65535 - 2 ^ n) else m
theorem pow_lt {n : Nat} (h : n < 16) : 2 ^ n < 65536 := by
  have := Nat.pow_lt_pow_right (a := 2) (by decide) h
  omega
theorem wi_lt {m n : Nat} (h : m < 65536) : wi m n < 65536 := by
  unfold wi
  split
  · rename_i hn
    exact Nat.or_lt_two_pow (n := 16) h (pow_lt hn)
  · exact h
/-- A bit that is not there is put in by adding it. -/
theorem or_add : ∀ (n m : Nat), m.testBit n = false → m ||| 2 ^ n = m + 2 ^ n
  | 0, m, h => by
    have h0 : m % 2 = 0 := by
      rw [Nat.testBit_zero] at h
      have := decide_eq_false_iff_not.1 h
      omega
    have h1 := Nat.or_div_two (a := m) (b := 1)
    have h2 : (m ||| 1) % 2 = 1 := by
      rw [Nat.or_mod_two_eq_one]
      right; rfl
    rw [show (1 : Nat) / 2 = 0 from rfl, Nat.or_zero] at h1
    simp only [Nat.pow_zero]
    omega
  | n + 1, m, h => by
    rw [Nat.testBit_succ] at h
    have ih := or_add n (m / 2) h
    have h1 := Nat.or_div_two (a := m) (b := 2 ^ (n + 1))
    have e : 2 ^ (n + 1) / 2 = 2 ^ n := by rw [Nat.pow_succ]; omega
    rw [e, ih] at h1
    have h2 : (m ||| 2 ^ (n + 1)) % 2 = m % 2 := by
      have h3 := Nat.or_mod_two_eq_one (a := m) (b := 2 ^ (n + 1))
      have h4 : 2 ^ (n + 1) % 2 = 0 := by rw [Nat.pow_succ]; omega
      rw [h4] at h3
      have : (m ||| 2 ^ (n + 1)) % 2 = 1 ↔ m % 2 = 1 := by rw [h3]; simp
      omega
    rw [Nat.pow_succ] at *
    omega
theorem and_bit (m n : Nat) : (m &&& 2 ^ n ≠ 0) ↔ m.testBit n = true := by
  constructor
  · intro h
    cases hb : m.testBit n
    · exfalso
      apply h
      apply Nat.eq_of_testBit_eq
      intro i
      rw [Nat.testBit_and, Nat.testBit_two_pow, Nat.zero_testBit]
      by_cases e : n = i
      · subst e; simp [hb]
      · simp [e]
    · rfl
  · intro h e
    have : (m &&& 2 ^ n).testBit n = true := by rw [Nat.testBit_and, Nat.testBit_two_pow, h]; simp
    rw [e, Nat.zero_testBit] at this
    exact absurd this (by decide)
end Go.Proofs.Ytcofclkgfandfaa.Bits16
/- Sets of members, as printed in the chapter on frames (layer 8): plain facts. -/
namespace Go.Proofs.Ytcofclkgfandfaa.Set08
open Go Go.RowKit Go.Proofs.Ytcofclkgfandfaa.Print Go.Proofs.YtcofclkgfandfaaW.PrintWords Go.Proofs.YtcofclkgfandfaaW.PrintLast Go.Proofs.YtcofclkgfandfaaW.PrintMore Go.Proofs.Ytcofclkgfandfaa.Bits16
theorem w64 {x : Int} (h : -9223372036854775808 ≤ x) (h2 : x ≤ 9223372036854775807) : wrap64 x = x := by unfold wrap64; omega
theorem shl16 {n : Nat} (h : n < 16) : shl .u16 1 (n : Int) = ((2 ^ n : Nat) : Int) := by
  have := pow_lt h
  unfold shl
  rw [show min ((n : Int).toNat) (IntKind.bits .u16) = n by simp [IntKind.bits]; omega, Int.one_mul, u16_in (Int.le_of_lt (Int.pow_pos (by decide))) (by rw [show (2 : Int) ^ n = ((2 ^ n : Nat) : Int) by simp]; omega)]
  simp
theorem bit_in {n : Nat} (h : n < 16) : frame_bit.f (n : Int) = some ((2 ^ n : Nat) : Int) := by
  unfold frame_bit.f
  rw [if_neg (by omega), if_neg (by omega), if_pos (by omega), shl16 h]
theorem has_eq {m n : Nat} (hm : m < 65536) (h : n < 16) : frame_Has.f (m : Int) (n : Int) = some (m.testBit n) := by
  unfold frame_Has.f
  rw [bit_in h, Option.bind_some, bits_and m _ hm (pow_lt h)]
  congr 1
  have := and_bit m n
  cases hb : m.testBit n
  · rw [hb] at this
    have e : m &&& 2 ^ n = 0 := by
      by_cases q : m &&& 2 ^ n = 0
      · exact q
      · exact absurd (this.1 q) (by decide)
    rw [e]
    rfl
  · have q := this.2 hb
    rw [bne_iff_ne]
    omega
theorem with_eq {m n : Nat} (hm : m < 65536) (h : n < 16) : frame_With.f (m : Int) (n : Int) = some ((wi m n : Nat) : Int) := by
  unfold frame_With.f wi
  rw [bit_in h, Option.bind_some, bits_or m _ hm (pow_lt h), if_pos h]
theorem without_eq {m n : Nat} (hm : m < 65536) (h : n < 16) : frame_Without.f (m : Int) (n : Int) = some ((wo m n : Nat) : Int) := by
  unfold frame_Without.f wo
  rw [bit_in h, Option.bind_some, bits_andNot m _ hm (pow_lt h), if_pos h]
def Fok (kd fr sl : Int) : Prop := (kd = 1 ∨ kd = 2) ∧ 0 ≤ fr ∧ fr < 16 ∧ sl ≤ 4294967296
instance (kd fr sl : Int) : Decidable (Fok kd fr sl) := by unfold Fok; infer_instance
end Go.Proofs.Ytcofclkgfandfaa.Set08
/- Plain facts on the schedule's functions (layer 7): what each printed function comes to. -/
namespace Go.Proofs.Ytcofclkgfandfaa.Medl
open Go.RowKit Go.Proofs.Ytcofclkgfandfaa.Print Go.Proofs.YtcofclkgfandfaaW.PrintWords Go.Proofs.YtcofclkgfandfaaW.PrintLast Go.Proofs.YtcofclkgfandfaaW.PrintMore
theorem w64 {x : Int} (h : -9223372036854775808 ≤ x) (h2 : x ≤ 9223372036854775807) : wrap64 x = x := by unfold wrap64; omega
theorem u64 {x : Int} (h : 0 ≤ x) (h2 : x ≤ 18446744073709551615) : IntKind.u64.wrap x = x := IntWalk.u64_in x ⟨h, h2⟩
theorem wf64 {x : Int} (h : (Lit.int .i64 x).wf = true) : -9223372036854775808 ≤ x ∧ x ≤ 9223372036854775807 := by
  simpa [Lit.wf, IntKind.min, IntKind.max, IntKind.signed, IntKind.bits] using h
/-- A schedule that may be. -/
def Ok (n s l f w : Int) : Prop := 2 ≤ n ∧ n ≤ 16 ∧ 16 ≤ s ∧ s ≤ 1048576 ∧ 1 ≤ l ∧ l ≤ s ∧ 1 ≤ f ∧ f ≤ s ∧ 1 ≤ w ∧ w ≤ s ∧ w ≤ l ∧ l + f + w < s
instance (n s l f w : Int) : Decidable (Ok n s l f w) := by unfold Ok; infer_instance
section
variable {n s l f w : Int}
theorem check (n s l f w : Int) : medl_Check.f n s l f w = some (if Ok n s l f w then 0 else 1) := rfl
theorem check_ok (h : Ok n s l f w) : medl_Check.f n s l f w = some 0 := by rw [check, if_pos h]
theorem check_no (h : ¬ Ok n s l f w) : medl_Check.f n s l f w = some 1 := by rw [check, if_neg h]
theorem may_ok (h : Ok n s l f w) {x : Int} (hx : x ≤ 4294967296) : medl_may.f n s l f w x = some 0 := by
  unfold medl_may.f
  rw [if_neg (by omega), check_ok h]
  first | rfl | simp
theorem may_no {x : Int} (h : ¬ (Ok n s l f w ∧ x ≤ 4294967296)) : medl_may.f n s l f w x = some 1 := by
  unfold medl_may.f
  by_cases hx : x ≤ 4294967296
  · rw [if_neg (by omega), check_no (fun ho => h ⟨ho, hx⟩)]
    first | rfl | simp
  · rw [if_pos (by omega)]
theorem mod_lt {x : Int} (h : Ok n s l f w) (h0 : 0 ≤ x) : 0 ≤ x % n ∧ x % n < n := by
  have := h.1
  exact ⟨Int.emod_nonneg _ (by omega), Int.emod_lt_of_pos _ (by omega)⟩
theorem owner_ok (h : Ok n s l f w) {x : Int} (h0 : 0 ≤ x) (hx : x ≤ 4294967296) : medl_Owner.f n s l f w x = some (x % n, 0) := by
  have hn := h.1
  have hn2 := h.2.1
  have hm := mod_lt h h0
  unfold medl_Owner.f
  rw [may_ok h hx]
  simp only [Option.bind_some, if_true]
  rw [u64 (by omega) (by omega), if_neg (by omega), Int.tmod_eq_emod_of_nonneg h0, w64 (by omega) (by omega)]
theorem owner_no {x : Int} (h : ¬ (Ok n s l f w ∧ x ≤ 4294967296)) : medl_Owner.f n s l f w x = some (0, 1) := by
  unfold medl_Owner.f
  rw [may_no h]
  simp
end
end Go.Proofs.Ytcofclkgfandfaa.Medl
/- A node's next slot, as printed. -/
namespace Go.Proofs.Ytcofclkgfandfaa.Medl
open Go.RowKit Go.Proofs.Ytcofclkgfandfaa.Print Go.Proofs.YtcofclkgfandfaaW.PrintWords Go.Proofs.YtcofclkgfandfaaW.PrintLast Go.Proofs.YtcofclkgfandfaaW.PrintMore
section
variable {n s l f w : Int}
end
end Go.Proofs.Ytcofclkgfandfaa.Medl
/- Whether a slot is the last of its round, as printed. -/
namespace Go.Proofs.Ytcofclkgfandfaa.Medl
open Go.RowKit Go.Proofs.Ytcofclkgfandfaa.Print Go.Proofs.YtcofclkgfandfaaW.PrintWords Go.Proofs.YtcofclkgfandfaaW.PrintLast Go.Proofs.YtcofclkgfandfaaW.PrintMore
section
variable {n s l f w : Int}
theorem last_ok (h : Ok n s l f w) {x : Int} (h0 : 0 ≤ x) (hx : x ≤ 4294967296) : medl_Last.f n s l f w x = some (decide (x % n + 1 = n), 0) := by
  have hn := h.1
  have hn2 := h.2.1
  have hm := mod_lt h h0
  unfold medl_Last.f
  rw [owner_ok h h0 hx]
  simp only [Option.bind_some, if_true]
  rw [w64 (by omega) (by omega)]
  rfl
end
end Go.Proofs.Ytcofclkgfandfaa.Medl
/- Plain facts on the document's answers for layer 7, as printed. -/
namespace Go.Proofs.Ytcofclkgfandfaa.Medl
open Go.RowKit Go.Proofs.Ytcofclkgfandfaa.Print Go.Proofs.YtcofclkgfandfaaW.PrintWords Go.Proofs.YtcofclkgfandfaaW.PrintLast Go.Proofs.YtcofclkgfandfaaW.PrintMore
section
variable {n s l f w : Int}
end
end Go.Proofs.Ytcofclkgfandfaa.Medl
/- Plain facts on members and verdicts (layer 10), as printed. -/
namespace Go.Proofs.Ytcofclkgfandfaa.Mem
open Go.RowKit Go.Proofs.Ytcofclkgfandfaa.Print Go.Proofs.YtcofclkgfandfaaW.PrintWords Go.Proofs.YtcofclkgfandfaaW.PrintLast Go.Proofs.YtcofclkgfandfaaW.PrintMore Go.Proofs.Ytcofclkgfandfaa.Medl Go.Proofs.Ytcofclkgfandfaa.Bits16
theorem shl16 {n : Nat} (h : n < 16) : shl .u16 1 (n : Int) = ((2 ^ n : Nat) : Int) := by
  have := pow_lt h
  unfold shl
  rw [show min ((n : Int).toNat) (IntKind.bits .u16) = n by simp [IntKind.bits]; omega, Int.one_mul, u16_in (Int.le_of_lt (Int.pow_pos (by decide))) (by rw [show (2 : Int) ^ n = ((2 ^ n : Nat) : Int) by simp]; omega)]
  simp
theorem bit_in {n : Nat} (h : n < 16) : frame_bit.f (n : Int) = some ((2 ^ n : Nat) : Int) := by
  unfold frame_bit.f
  rw [if_neg (by omega), if_neg (by omega), if_pos (by omega), shl16 h]
theorem has_eq {m n : Nat} (hm : m < 65536) (h : n < 16) : frame_Has.f (m : Int) (n : Int) = some (m.testBit n) := by
  unfold frame_Has.f
  rw [bit_in h, Option.bind_some, bits_and m _ hm (pow_lt h)]
  congr 1
  have := and_bit m n
  cases hb : m.testBit n
  · rw [hb] at this
    have e : m &&& 2 ^ n = 0 := by
      by_cases q : m &&& 2 ^ n = 0
      · exact q
      · exact absurd (this.1 q) (by decide)
    rw [e]
    rfl
  · have q := this.2 hb
    rw [bne_iff_ne]
    omega
theorem with_eq {m n : Nat} (hm : m < 65536) (h : n < 16) : frame_With.f (m : Int) (n : Int) = some ((wi m n : Nat) : Int) := by
  unfold frame_With.f wi
  rw [bit_in h, Option.bind_some, bits_or m _ hm (pow_lt h), if_pos h]
theorem without_eq {m n : Nat} (hm : m < 65536) (h : n < 16) : frame_Without.f (m : Int) (n : Int) = some ((wo m n : Nat) : Int) := by
  unfold frame_Without.f wo
  rw [bit_in h, Option.bind_some, bits_andNot m _ hm (pow_lt h), if_pos h]
/-- A schedule, a slot and a node that may be. -/
def MGood (n s l f w x me : Int) : Prop := Ok n s l f w ∧ x ≤ 4294967296 ∧ 0 ≤ me ∧ me < n
instance (n s l f w x me : Int) : Decidable (MGood n s l f w x me) := by unfold MGood; infer_instance
def Fok (kd fr sl : Int) : Prop := (kd = 1 ∨ kd = 2) ∧ 0 ≤ fr ∧ fr < 16 ∧ sl ≤ 4294967296
instance (kd fr sl : Int) : Decidable (Fok kd fr sl) := by unfold Fok; infer_instance
section
variable {n s l f w x me : Int}
theorem owner_nat (h : Ok n s l f w) (h0 : 0 ≤ x) : ∃ o : Nat, x % n = (o : Int) ∧ o < 16 := by
  have hm := mod_lt h h0
  have := h.2.1
  exact ⟨(x % n).toNat, by omega, by omega⟩
theorem sit_eq (h0 : 0 ≤ x) : member_sit.f n s l f w me x = some (if MGood n s l f w x me then (me, x % n, 0) else (0, 0, 1)) := by
  unfold member_sit.f
  by_cases h : Ok n s l f w ∧ x ≤ 4294967296
  · rw [owner_ok h.1 h0 h.2]
    simp only [Option.bind_some, if_true]
    by_cases h1 : me < 0
    · rw [if_pos h1, if_neg (fun q => by have := q.2.2.1; omega)]
    rw [if_neg h1]
    by_cases h2 : me ≥ n
    · rw [if_pos h2, if_neg (fun q => by have := q.2.2.2; omega)]
    rw [if_neg h2, if_pos ⟨h.1, h.2, by omega, by omega⟩]
  · rw [owner_no h]
    simp only [Option.bind_some]
    rw [if_neg (by decide), if_neg (fun q => h ⟨q.1, q.2.1⟩)]
/-- Who is there then. -/
def aft (m me o : Nat) (v : Int) : Nat := if me = o then wi m o else if v = 1 then wi m o else if v = 2 then wo (wi m o) me else wo m o
theorem after_eq {m : Nat} (hm : m < 65536) (h0 : 0 ≤ x) (v : Int) : member_After.f n s l f w me m x v =
    some (if MGood n s l f w x me ∧ 0 ≤ v ∧ v ≤ 3 then (((aft m me.toNat (x % n).toNat v : Nat) : Int), 0) else (0, 1)) := by
  unfold member_After.f
  rw [sit_eq h0]
  simp only [Option.bind_some]
  by_cases hg : MGood n s l f w x me
  · have hn := hg.1.2.1
    obtain ⟨o, ho, ho2⟩ := owner_nat hg.1 h0
    obtain ⟨me', rfl⟩ : ∃ j : Nat, me = j := ⟨me.toNat, by have := hg.2.2.1; omega⟩
    have hme : me' < 16 := by have := hg.2.2.2; omega
    rw [if_pos hg, if_pos rfl]
    by_cases hv : 0 ≤ v ∧ v ≤ 3
    · have hr : MGood n s l f w x me' ∧ 0 ≤ v ∧ v ≤ 3 := ⟨hg, hv⟩
      rw [if_pos hv, if_pos hr, ho, Int.toNat_natCast, Int.toNat_natCast]
      unfold aft
      by_cases h1 : me' = o
      · have h1' : (me' : Int) = o := by omega
        rw [if_pos h1', if_pos h1, with_eq hm hme, Option.bind_some, h1]
      have h1' : ¬ (me' : Int) = o := by omega
      rw [if_neg h1', if_neg h1]
      by_cases h2 : v = 1
      · rw [if_pos h2, if_pos h2]
        unfold member_changes_2.f
        rw [with_eq hm ho2]
        rfl
      rw [if_neg h2, if_neg h2]
      by_cases h3 : v = 2
      · rw [if_pos h3, if_pos h3]
        unfold member_changes_3.f
        rw [with_eq hm ho2, Option.bind_some, without_eq (wi_lt hm) hme]
        rfl
      rw [if_neg h3, if_neg h3]
      unfold member_changes_1.f
      rw [without_eq hm ho2]
      rfl
    · have hr : ¬ (MGood n s l f w x me' ∧ 0 ≤ v ∧ v ≤ 3) := fun q => hv q.2
      rw [if_neg hv, if_neg hr]
  · rw [if_neg hg, if_neg (show ¬ (0, 0, 1).2.2 = (0 : Int) by decide)]
    simp [hg]
end
end Go.Proofs.Ytcofclkgfandfaa.Mem
/- math/bits' Div64, as printed: the quotient and what is left. -/
namespace Go.Proofs.Ytcofclkgfandfaa.Div64
open Go Go.RowKit Go.Proofs.Ytcofclkgfandfaa.Print Go.Proofs.YtcofclkgfandfaaW.PrintWords Go.Proofs.YtcofclkgfandfaaW.PrintLast Go.Proofs.YtcofclkgfandfaaW.PrintMore
theorem uw (x : Int) : IntKind.u64.wrap x = x % 18446744073709551616 := IntKind.wrap_u64 x
theorem uin {x : Int} (h : 0 ≤ x) (h2 : x < 18446744073709551616) : IntKind.u64.wrap x = x := by rw [uw]; omega
/-- What a digit's guess is tested by. -/
theorem mulY (q y1 y0 : Int) : q * (y1 * 4294967296 + y0) = q * y1 * 4294967296 + q * y0 := by rw [Int.mul_add, Int.mul_assoc]
theorem gt_of {q Q Y V : Int} (hY : 0 ≤ Y) (h : q * Y > V) (h1 : Q * Y ≤ V) : Q < q := by
  by_cases c : q ≤ Q
  · have := Int.mul_le_mul_of_nonneg_right c hY
    omega
  · omega
theorem le_of {q Q Y V : Int} (hY : 0 ≤ Y) (h : q * Y ≤ V) (h1 : V < (Q + 1) * Y) : q ≤ Q := by
  by_cases c : Q + 1 ≤ q
  · have := Int.mul_le_mul_of_nonneg_right c hY
    omega
  · omega
section
variable {s y1 y0 U u1 u0 Q : Int}
theorem step (h1 : 2147483648 ≤ y1) (h2 : y1 < 4294967296) (h3 : 0 ≤ y0) (h4 : y0 < 4294967296) {q r : Int} (q0 : 0 ≤ q) (e : q * y1 + r = U) : q * (y1 * 4294967296 + y0) = (U - r) * 4294967296 + q * y0 := by
  rw [mulY]
  omega
theorem l0_eq (h1 : 2147483648 ≤ y1) (h2 : y1 < 4294967296) (h3 : 0 ≤ y0) (h4 : y0 < 4294967296) (v0 : 0 ≤ u1) (v1 : u1 < 4294967296) (Q0 : 0 ≤ Q) (Q1 : Q < 4294967296)
    (Qa : Q * (y1 * 4294967296 + y0) ≤ U * 4294967296 + u1) (Qb : U * 4294967296 + u1 < (Q + 1) * (y1 * 4294967296 + y0)) : ∀ (d : Nat) (k : Nat) (q r : Int), 0 ≤ r → r < 4294967296 → q * y1 + r = U → Q ≤ q → q ≤ 4294967297 → 4294967296 ≤ r + d * y1 → 2 * d + 2 ≤ k →
    ∃ j, k ≤ j + (2 * d + 2) ∧ bits_Div64.l0 k (y1 * 4294967296 + y0) s y1 y0 U u1 u0 q r = bits_Div64.j2 j (y1 * 4294967296 + y0) s y1 y0 U u1 u0 Q := by
  intro d
  induction d with
  | zero =>
    intro k q r r0 r1 e ha hb hd hk
    omega
  | succ d ih =>
    intro k q r r0 r1 e ha hb hd hk
    obtain ⟨k, rfl⟩ : ∃ j, k = j + 2 := ⟨k - 2, by omega⟩
    have hY : 0 ≤ y1 * 4294967296 + y0 := by omega
    have st := step h1 h2 h3 h4 (by omega) e
    have zq : 0 ≤ q * y0 := Int.mul_nonneg (by omega) h3
    -- the test
    obtain ⟨t, ht, hl⟩ : ∃ t : Bool, (t = true ↔ (4294967296 ≤ q ∨ q * (y1 * 4294967296 + y0) > U * 4294967296 + u1)) ∧ bits_Div64.l0 (k + 2) (y1 * 4294967296 + y0) s y1 y0 U u1 u0 q r = bits_Div64.j1 (k + 1) (y1 * 4294967296 + y0) s y1 y0 U u1 u0 q r t := by
      by_cases c : q ≥ 4294967296
      · refine ⟨true, by simp; exact Or.inl c, ?_⟩
        simp only [bits_Div64.l0]
        rw [if_pos c]
      · refine ⟨decide (q * y0 > 4294967296 * r + u1), ?_, ?_⟩
        · rw [decide_eq_true_eq]
          constructor
          · intro h; right; omega
          · rintro (h | h) <;> omega
        · have z2 : q * y0 < 18446744073709551616 := by
            have a1 := Int.mul_le_mul (show q ≤ 4294967295 by omega) (show y0 ≤ 4294967295 by omega) h3 (by omega)
            omega
          simp only [bits_Div64.l0]
          rw [if_neg c, uin zq z2, uin (x := 4294967296 * r) (by omega) (by omega), uin (by omega) (by omega)]
    rw [hl]
    simp only [bits_Div64.j1]
    by_cases c : t = true
    · rw [if_pos c]
      have hq : Q < q := by
        rcases ht.1 c with h | h
        · omega
        · exact gt_of hY h Qa
      rw [uin (x := r + y1) (by omega) (by omega), uin (x := q - 1) (by omega) (by omega)]
      have e2 : (q - 1) * y1 + (r + y1) = U := by rw [Int.sub_mul]; omega
      by_cases c2 : r + y1 ≥ 4294967296
      · rw [if_pos c2]
        refine ⟨k, by omega, ?_⟩
        have st2 := step h1 h2 h3 h4 (show 0 ≤ q - 1 by omega) e2
        have z3 : (q - 1) * y0 ≤ 4294967296 * 4294967295 := Int.mul_le_mul (show q - 1 ≤ 4294967296 by omega) (show y0 ≤ 4294967295 by omega) h3 (by omega)
        have := le_of hY (show (q - 1) * (y1 * 4294967296 + y0) ≤ U * 4294967296 + u1 by omega) Qb
        have : q - 1 = Q := by omega
        rw [this]
      · rw [if_neg c2]
        obtain ⟨j, hj, ej⟩ := ih k (q - 1) (r + y1) (by omega) (by omega) e2 (by omega) (by omega) (by
          have : ((d + 1 : Nat) : Int) * y1 = d * y1 + y1 := by rw [Int.natCast_add, Int.add_mul]; simp
          omega) (by omega)
        exact ⟨j, by omega, ej⟩
    · rw [if_neg c]
      refine ⟨k, by omega, ?_⟩
      have hn : ¬ (4294967296 ≤ q ∨ q * (y1 * 4294967296 + y0) > U * 4294967296 + u1) := fun h => c (ht.2 h)
      have := le_of hY (show q * (y1 * 4294967296 + y0) ≤ U * 4294967296 + u1 by omega) Qb
      have : q = Q := by omega
      rw [this]
/-- The second digit: the same loop; its way out tells the answer. -/
theorem l1_eq {q1 : Int} (h1 : 2147483648 ≤ y1) (h2 : y1 < 4294967296) (h3 : 0 ≤ y0) (h4 : y0 < 4294967296) (v0 : 0 ≤ u0) (v1 : u0 < 4294967296) (s0 : 0 ≤ s) (Q0 : 0 ≤ Q) (Q1 : Q < 4294967296)
    (Qa : Q * (y1 * 4294967296 + y0) ≤ U * 4294967296 + u0) (Qb : U * 4294967296 + u0 < (Q + 1) * (y1 * 4294967296 + y0)) : ∀ (d : Nat) (k : Nat) (q r : Int), 0 ≤ r → r < 4294967296 → q * y1 + r = U → Q ≤ q → q ≤ 4294967297 → 4294967296 ≤ r + d * y1 → 2 * d + 2 ≤ k →
    bits_Div64.l1 k (y1 * 4294967296 + y0) s y1 y0 u0 q1 r U q = some (IntKind.u64.wrap ((IntKind.u64.wrap (q1 * 4294967296)) + Q), shr .u64 (IntKind.u64.wrap ((IntKind.u64.wrap ((IntKind.u64.wrap (U * 4294967296)) + u0)) - (IntKind.u64.wrap (Q * (y1 * 4294967296 + y0))))) s) := by
  intro d
  induction d with
  | zero =>
    intro k q r r0 r1 e ha hb hd hk
    omega
  | succ d ih =>
    intro k q r r0 r1 e ha hb hd hk
    obtain ⟨k, rfl⟩ : ∃ j, k = j + 2 := ⟨k - 2, by omega⟩
    have hY : 0 ≤ y1 * 4294967296 + y0 := by omega
    have st := step h1 h2 h3 h4 (by omega) e
    have zq : 0 ≤ q * y0 := Int.mul_nonneg (by omega) h3
    obtain ⟨t, ht, hl⟩ : ∃ t : Bool, (t = true ↔ (4294967296 ≤ q ∨ q * (y1 * 4294967296 + y0) > U * 4294967296 + u0)) ∧ bits_Div64.l1 (k + 2) (y1 * 4294967296 + y0) s y1 y0 u0 q1 r U q = bits_Div64.j4 (k + 1) (y1 * 4294967296 + y0) s y1 y0 u0 q1 r U q t := by
      by_cases c : q ≥ 4294967296
      · refine ⟨true, by simp; exact Or.inl c, ?_⟩
        simp only [bits_Div64.l1]
        rw [if_pos c]
      · refine ⟨decide (q * y0 > 4294967296 * r + u0), ?_, ?_⟩
        · rw [decide_eq_true_eq]
          constructor
          · intro h; right; omega
          · rintro (h | h) <;> omega
        · have z2 : q * y0 < 18446744073709551616 := by
            have a1 := Int.mul_le_mul (show q ≤ 4294967295 by omega) (show y0 ≤ 4294967295 by omega) h3 (by omega)
            omega
          simp only [bits_Div64.l1]
          rw [if_neg c, uin zq z2, uin (x := 4294967296 * r) (by omega) (by omega), uin (by omega) (by omega)]
    rw [hl]
    simp only [bits_Div64.j4]
    by_cases c : t = true
    · rw [if_pos c]
      have hq : Q < q := by
        rcases ht.1 c with h | h
        · omega
        · exact gt_of hY h Qa
      rw [uin (x := r + y1) (by omega) (by omega), uin (x := q - 1) (by omega) (by omega)]
      have e2 : (q - 1) * y1 + (r + y1) = U := by rw [Int.sub_mul]; omega
      by_cases c2 : r + y1 ≥ 4294967296
      · rw [if_pos c2, if_pos s0]
        have st2 := step h1 h2 h3 h4 (show 0 ≤ q - 1 by omega) e2
        have z3 : (q - 1) * y0 ≤ 4294967296 * 4294967295 := Int.mul_le_mul (show q - 1 ≤ 4294967296 by omega) (show y0 ≤ 4294967295 by omega) h3 (by omega)
        have := le_of hY (show (q - 1) * (y1 * 4294967296 + y0) ≤ U * 4294967296 + u0 by omega) Qb
        have : q - 1 = Q := by omega
        rw [this]
      · rw [if_neg c2]
        exact ih k (q - 1) (r + y1) (by omega) (by omega) e2 (by omega) (by omega) (by
          have : ((d + 1 : Nat) : Int) * y1 = d * y1 + y1 := by rw [Int.natCast_add, Int.add_mul]; simp
          omega) (by omega)
    · rw [if_neg c, if_pos s0]
      have hn : ¬ (4294967296 ≤ q ∨ q * (y1 * 4294967296 + y0) > U * 4294967296 + u0) := fun h => c (ht.2 h)
      have := le_of hY (show q * (y1 * 4294967296 + y0) ≤ U * 4294967296 + u0 by omega) Qb
      have : q = Q := by omega
      rw [this]
end
theorem guess {y1 y0 U u1 : Int} (h1 : 2147483648 ≤ y1) (h2 : y1 < 4294967296) (h3 : 0 ≤ y0) (h4 : y0 < 4294967296) (U0 : 0 ≤ U) (UY : U < y1 * 4294967296 + y0) (v0 : 0 ≤ u1) (v1 : u1 < 4294967296) :
    ∃ Q R : Int, 0 ≤ Q ∧ Q < 4294967296 ∧ Q * (y1 * 4294967296 + y0) + R = U * 4294967296 + u1 ∧ 0 ≤ R ∧ R < y1 * 4294967296 + y0 ∧ Q ≤ U / y1 ∧ U / y1 ≤ 4294967297 ∧ U / y1 * y1 + U % y1 = U ∧ 0 ≤ U % y1 ∧ U % y1 < y1 := by
  have hY : 0 < y1 * 4294967296 + y0 := by omega
  have e := Int.mul_ediv_add_emod (U * 4294967296 + u1) (y1 * 4294967296 + y0)
  have r0 := Int.emod_nonneg (U * 4294967296 + u1) (show y1 * 4294967296 + y0 ≠ 0 by omega)
  have r1 := Int.emod_lt_of_pos (U * 4294967296 + u1) hY
  have q0 : 0 ≤ (U * 4294967296 + u1) / (y1 * 4294967296 + y0) := Int.ediv_nonneg (by omega) (by omega)
  have q1 : (U * 4294967296 + u1) / (y1 * 4294967296 + y0) < 4294967296 := Int.ediv_lt_of_lt_mul hY (by omega)
  have e2 := Int.mul_ediv_add_emod U y1
  have s0 := Int.emod_nonneg U (show y1 ≠ 0 by omega)
  have s1 := Int.emod_lt_of_pos U (show 0 < y1 by omega)
  rw [Int.mul_comm] at e e2
  refine ⟨_, _, q0, q1, e, r0, r1, ?_, ?_, e2, s0, s1⟩
  · generalize (U * 4294967296 + u1) / (y1 * 4294967296 + y0) = Q at *
    apply Int.le_ediv_of_mul_le (by omega)
    rw [mulY] at e
    have : 0 ≤ Q * y0 := Int.mul_nonneg q0 h3
    omega
  · have : U / y1 < 4294967298 := Int.ediv_lt_of_lt_mul (by omega) (by omega)
    omega
theorem or_add {a b s : Nat} (hb : b < 2 ^ s) : (a * 2 ^ s) ||| b = a * 2 ^ s + b := by
  apply Nat.eq_of_testBit_eq
  intro i
  rw [Nat.testBit_or, Nat.mul_comm a, Nat.testBit_two_pow_mul_add a hb]
  by_cases h : i < s
  · rw [if_pos h, Nat.testBit_two_pow_mul]
    simp [show ¬ s ≤ i by omega]
  · rw [if_neg h, Nat.testBit_two_pow_mul]
    have : b.testBit i = false := Nat.testBit_lt_two_pow (Nat.lt_of_lt_of_le hb (Nat.pow_le_pow_right (by decide) (by omega)))
    simp [this, show s ≤ i by omega]
theorem and32 {a : Int} (h : 0 ≤ a) (h2 : a < 18446744073709551616) : Go.bits .and .u64 a 4294967295 = a % 4294967296 := by
  obtain ⟨m, rfl⟩ : ∃ m : Nat, a = m := ⟨a.toNat, by omega⟩
  rw [show (4294967295 : Int) = ((4294967295 : Nat) : Int) from rfl, bits_and_u64_nat m _ (by omega) (by decide), show 4294967295 = 2 ^ 32 - 1 from rfl, Nat.and_two_pow_sub_one_eq_mod]
  omega
/-- One digit, of its parts. -/
theorem div_eq {k s : Nat} {hi lo d : Int} (hs : s ≤ 63) (hz : bits_LeadingZeros64.f k d = some (s : Int)) (d0 : 9223372036854775808 ≤ d * 2 ^ s) (d1 : d * 2 ^ s < 18446744073709551616) (i0 : 0 ≤ hi) (i1 : hi < d) (l0 : 0 ≤ lo) (l1 : lo < 18446744073709551616) (hk : 30 ≤ k) :
    bits_Div64.f k hi lo d = some ((hi * 18446744073709551616 + lo) / d, (hi * 18446744073709551616 + lo) % d) := by
  have p0 : (0 : Int) < 2 ^ s := Int.pow_pos (by decide)
  have dY : d ≤ d * 2 ^ s := by
    have := Int.mul_le_mul_of_nonneg_left (show (1 : Int) ≤ 2 ^ s by omega) (show 0 ≤ d by omega)
    omega
  unfold bits_Div64.f
  rw [if_neg (by omega), if_neg (by omega)]
  by_cases h0 : hi = 0
  · subst h0
    have e1 : 0 ≤ lo / d := Int.ediv_nonneg l0 (by omega)
    have e2 : lo / d ≤ lo := Int.ediv_le_self _ l0
    rw [if_pos rfl, Int.tdiv_eq_ediv_of_nonneg l0, Int.tmod_eq_emod_of_nonneg l0, uin e1 (by omega), Int.zero_mul, Int.zero_add]
  rw [if_neg h0, hz, Option.bind_some, uin (x := (s : Int)) (by omega) (by omega), uin (x := 64 - (s : Int)) (by omega) (by omega), if_pos (by omega), if_pos (by omega)]
  -- the parts
  have m1 : min ((s : Int).toNat) (IntKind.bits .u64) = s := by simp [IntKind.bits]; omega
  have m2 : min ((64 - (s : Int)).toNat) (IntKind.bits .u64) = 64 - s := by
    rw [show (64 - (s : Int)).toNat = 64 - s by omega, show IntKind.bits .u64 = 64 from rfl]
    omega
  have hiY : hi * 2 ^ s < d * 2 ^ s := Int.mul_lt_mul_of_pos_right i1 p0
  have hi0 : 0 ≤ hi * 2 ^ s := Int.mul_nonneg i0 (by omega)
  have sd : shl .u64 d (s : Int) = d * 2 ^ s := by unfold shl; rw [m1, uin (by omega) d1]
  have sh : shl .u64 hi (s : Int) = hi * 2 ^ s := by unfold shl; rw [m1, uin hi0 (by omega)]
  have sl : shl .u64 lo (s : Int) = (lo * 2 ^ s) % 18446744073709551616 := by unfold shl; rw [m1, uw]
  have sr : shr .u64 lo (64 - (s : Int)) = lo * 2 ^ s / 18446744073709551616 := by
    unfold shr
    rw [m2, show (18446744073709551616 : Int) = 2 ^ (64 - s) * 2 ^ s by rw [← Int.pow_add, show 64 - s + s = 64 by omega]; decide, Int.mul_ediv_mul_of_pos_left _ _ p0]
  have c0 : 0 ≤ lo * 2 ^ s / 18446744073709551616 := Int.ediv_nonneg (Int.mul_nonneg l0 (by omega)) (by omega)
  have c1 : lo * 2 ^ s / 18446744073709551616 < 2 ^ s := Int.ediv_lt_of_lt_mul (by omega) (by rw [Int.mul_comm]; exact Int.mul_lt_mul_of_pos_left l1 p0)
  have so : Go.bits .or .u64 (hi * 2 ^ s) (lo * 2 ^ s / 18446744073709551616) = hi * 2 ^ s + lo * 2 ^ s / 18446744073709551616 := by
    obtain ⟨a, rfl⟩ : ∃ a : Nat, hi = a := ⟨hi.toNat, by omega⟩
    obtain ⟨b, eb⟩ : ∃ b : Nat, lo * 2 ^ s / 18446744073709551616 = b := ⟨(lo * 2 ^ s / 18446744073709551616).toNat, by omega⟩
    rw [eb] at c1 ⊢
    have ep : ((2 : Int) ^ s) = ((2 ^ s : Nat) : Int) := by simp
    rw [ep] at c1 hiY d1 hi0 ⊢
    have hb : b < 2 ^ s := by omega
    have ha : a * 2 ^ s < 18446744073709551616 := by
      have : ((a * 2 ^ s : Nat) : Int) = (a : Int) * ((2 ^ s : Nat) : Int) := by simp
      omega
    have p64 : 2 ^ s ≤ 2 ^ 63 := Nat.pow_le_pow_right (by decide) hs
    rw [show (a : Int) * ((2 ^ s : Nat) : Int) = ((a * 2 ^ s : Nat) : Int) by simp, bits_or_u64_nat _ _ ha (by omega), or_add hb]
    omega
  rw [sd, sh, sl, sr, so]
  obtain ⟨Y, eY⟩ : ∃ Y, d * 2 ^ s = Y := ⟨_, rfl⟩
  obtain ⟨y1, ey1⟩ : ∃ y1, Y / 4294967296 = y1 := ⟨_, rfl⟩
  obtain ⟨y0, ey0⟩ : ∃ y0, Y % 4294967296 = y0 := ⟨_, rfl⟩
  have eY2 : Y = y1 * 4294967296 + y0 := by omega
  obtain ⟨U, eU⟩ : ∃ U, hi * 2 ^ s + lo * 2 ^ s / 18446744073709551616 = U := ⟨_, rfl⟩
  obtain ⟨L, eL⟩ : ∃ L, (lo * 2 ^ s) % 18446744073709551616 = L := ⟨_, rfl⟩
  have L0 : 0 ≤ L ∧ L < 18446744073709551616 := by omega
  have hN : U * 18446744073709551616 + L = (hi * 18446744073709551616 + lo) * 2 ^ s := by
    rw [Int.add_mul, Int.mul_right_comm]
    omega
  have UY : U < Y := by
    have : (hi * 18446744073709551616 + lo) * 2 ^ s < (d * 18446744073709551616) * 2 ^ s := Int.mul_lt_mul_of_pos_right (by omega) p0
    rw [Int.mul_right_comm d] at this
    omega
  rw [eY, eU, eL, and32 (by omega) (by omega), and32 L0.1 L0.2, ey1, ey0]
  rw [eY] at d0 d1
  have h1 : 2147483648 ≤ y1 := by omega
  have h2 : y1 < 4294967296 := by omega
  have h3 : 0 ≤ y0 := by omega
  have h4 : y0 < 4294967296 := by omega
  have U0 : 0 ≤ U := by omega
  obtain ⟨u1, eu1⟩ : ∃ u1, L / 4294967296 = u1 := ⟨_, rfl⟩
  obtain ⟨u0, eu0⟩ : ∃ u0, L % 4294967296 = u0 := ⟨_, rfl⟩
  rw [eu1, eu0]
  have eL2 : L = u1 * 4294967296 + u0 := by omega
  have b1 : 0 ≤ u1 ∧ u1 < 4294967296 := by omega
  have b0 : 0 ≤ u0 ∧ u0 < 4294967296 := by omega
  clear sd sh sl sr so m1 m2 hiY hi0 c0 c1
  rw [eY2] at UY ⊢
  obtain ⟨Q, R, Q0, Q1, e1, R0, R1, g1, g2, g3, g4, g5⟩ := guess h1 h2 h3 h4 U0 UY b1.1 b1.2
  obtain ⟨P, S, P0, P1, f1, S0, S1, k1, k2, k3, k4, k5⟩ := guess h1 h2 h3 h4 R0 R1 b0.1 b0.2
  have t1 : 0 ≤ U / y1 := Int.ediv_nonneg U0 (by omega)
  have t2 : 0 ≤ U / y1 * y1 := Int.mul_nonneg t1 (by omega)
  rw [if_neg (by omega), Int.tdiv_eq_ediv_of_nonneg U0, uin (x := U / y1) t1 (by omega), uin (x := U / y1 * y1) t2 (by omega), uin (x := U - U / y1 * y1) (by omega) (by omega), show U - U / y1 * y1 = U % y1 by omega]
  obtain ⟨j, hj, ej⟩ := l0_eq (s := (s : Int)) (u0 := u0) h1 h2 h3 h4 b1.1 b1.2 Q0 Q1 (show Q * (y1 * 4294967296 + y0) ≤ U * 4294967296 + u1 by omega) (show U * 4294967296 + u1 < (Q + 1) * (y1 * 4294967296 + y0) by rw [Int.add_mul]; omega) 2 k (U / y1) (U % y1) g4 (by omega) g3 g1 g2 (by omega) (by omega)
  rw [ej]
  obtain ⟨j, rfl⟩ : ∃ i, j = i + 1 := ⟨j - 1, by omega⟩
  simp only [bits_Div64.j2]
  have w1 : IntKind.u64.wrap ((IntKind.u64.wrap ((IntKind.u64.wrap (U * 4294967296)) + u1)) - (IntKind.u64.wrap (Q * (y1 * 4294967296 + y0)))) = R := by
    generalize Q * (y1 * 4294967296 + y0) = Z at *
    rw [uw, uw, uw, uw]
    omega
  have t3 : 0 ≤ R / y1 := Int.ediv_nonneg R0 (by omega)
  have t4 : 0 ≤ R / y1 * y1 := Int.mul_nonneg t3 (by omega)
  rw [if_neg (by omega), w1, Int.tdiv_eq_ediv_of_nonneg R0, uin (x := R / y1) t3 (by omega), uin (x := R / y1 * y1) t4 (by omega), uin (x := R - R / y1 * y1) (by omega) (by omega), show R - R / y1 * y1 = R % y1 by omega,
    l1_eq (s := (s : Int)) (q1 := Q) h1 h2 h3 h4 b0.1 b0.2 (by omega) P0 P1 (show P * (y1 * 4294967296 + y0) ≤ R * 4294967296 + u0 by omega) (show R * 4294967296 + u0 < (P + 1) * (y1 * 4294967296 + y0) by rw [Int.add_mul]; omega) 2 j (R / y1) (R % y1) k4 (by omega) k3 k1 k2 (by omega) (by omega)]
  have w2 : IntKind.u64.wrap ((IntKind.u64.wrap ((IntKind.u64.wrap (R * 4294967296)) + u0)) - (IntKind.u64.wrap (P * (y1 * 4294967296 + y0)))) = S := by
    generalize P * (y1 * 4294967296 + y0) = Z at *
    rw [uw, uw, uw, uw]
    omega
  have w3 : IntKind.u64.wrap ((IntKind.u64.wrap (Q * 4294967296)) + P) = Q * 4294967296 + P := by
    rw [uin (x := Q * 4294967296) (by omega) (by omega), uin (by omega) (by omega)]
  rw [w2, w3]
  -- what it comes to
  have fin : (hi * 18446744073709551616 + lo) * 2 ^ s = (Q * 4294967296 + P) * d * 2 ^ s + S := by
    rw [Int.mul_assoc (Q * 4294967296 + P), eY, eY2, Int.add_mul (Q * 4294967296), Int.mul_right_comm Q]
    omega
  obtain ⟨V, eV⟩ : ∃ V, hi * 18446744073709551616 + lo = V := ⟨_, rfl⟩
  rw [eV] at fin ⊢
  have fin2 : S = (V - (Q * 4294967296 + P) * d) * 2 ^ s := by rw [Int.sub_mul]; omega
  have sS : shr .u64 S (s : Int) = V - (Q * 4294967296 + P) * d := by
    unfold shr
    rw [show min ((s : Int).toNat) (IntKind.bits .u64) = s by simp [IntKind.bits]; omega, fin2, Int.mul_ediv_cancel _ (by omega)]
  rw [sS]
  have r0 : 0 ≤ V - (Q * 4294967296 + P) * d := by
    rw [← sS]
    unfold shr
    exact Int.ediv_nonneg S0 (Int.le_of_lt (Int.pow_pos (by decide)))
  have r1 : V - (Q * 4294967296 + P) * d < d := by
    apply Int.lt_of_mul_lt_mul_right (a := (2 : Int) ^ s) _ (by omega)
    rw [← fin2, eY, eY2]
    exact S1
  have u := (Int.ediv_emod_unique (a := V) (b := d) (r := V - (Q * 4294967296 + P) * d) (q := Q * 4294967296 + P) (by omega)).2 ⟨by rw [Int.mul_comm d]; omega, r0, r1⟩
  rw [u.1, u.2]
end Go.Proofs.Ytcofclkgfandfaa.Div64
/- Plain facts on oscillators (layer 6), as printed. -/
namespace Go.Proofs.Ytcofclkgfandfaa.Osc
open Go.RowKit Go.Proofs.Ytcofclkgfandfaa.Print Go.Proofs.YtcofclkgfandfaaW.PrintWords Go.Proofs.YtcofclkgfandfaaW.PrintLast Go.Proofs.YtcofclkgfandfaaW.PrintMore Go.Proofs.Ytcofclkgfandfaa.Medl Go.Proofs.Ytcofclkgfandfaa.Div64
theorem mul64_eq {a b : Int} (a0 : 0 ≤ a) (a1 : a < 18446744073709551616) (b0 : 0 ≤ b) (b1 : b < 18446744073709551616) : bits_Mul64.f a b = some (a * b / 18446744073709551616, a * b % 18446744073709551616) := by
  unfold bits_Mul64.f
  have h := mul64_arith a b a0 a1 b0 b1
  have e : ∀ x : Int, Go.bits .and .u64 (IntKind.u64.wrap x) 4294967295 = (x % 18446744073709551616) % 4294967296 := fun x => by
    rw [uw, and32 (by omega) (by omega)]
  rw [e, and32 a0 a1, and32 b0 b1]
  simp only [uw]
  rw [h]
theorem addLo {x y : Int} (x0 : 0 ≤ x) (y0 : 0 ≤ y) : Go.Proofs.YtcofclkgfandfaaX.add64Lo x y = (x + y) % 18446744073709551616 := by
  unfold Go.Proofs.YtcofclkgfandfaaX.add64Lo
  rw [show Extern.MathBitsCarry.m64 = 18446744073709551616 from rfl]
  omega
theorem addHi {x y : Int} (x0 : 0 ≤ x) (y0 : 0 ≤ y) : Go.Proofs.YtcofclkgfandfaaX.add64Hi x y = (x + y) / 18446744073709551616 := by
  unfold Go.Proofs.YtcofclkgfandfaaX.add64Hi
  rw [show Extern.MathBitsCarry.m64 = 18446744073709551616 from rfl]
  omega
/-- An oscillator that may be. -/
def Oc (p d r : Int) : Prop := 1 ≤ p ∧ p ≤ 1000000000 ∧ -1000000 ≤ d ∧ d ≤ 1000000 ∧ 0 ≤ r ∧ r < 1000000000
instance (p d r : Int) : Decidable (Oc p d r) := by unfold Oc; infer_instance
section
variable {p d r t : Int}
theorem ocheck (hd : -9223372036854775808 ≤ d ∧ d ≤ 9223372036854775807) : osc_Check.f p d r = some (if Oc p d r then 0 else 1) := by
  unfold osc_Check.f
  by_cases h1 : p < 1
  · rw [if_pos h1, if_neg (fun q => by have := q.1; omega)]
  rw [if_neg h1]
  by_cases h2 : p > 1000000000
  · rw [if_pos h2, if_neg (fun q => by have := q.2.1; omega)]
  rw [if_neg h2]
  by_cases h3 : mx d (wrap64 (-d)) > 1000000
  · rw [if_pos h3, if_neg (fun q => by
      obtain ⟨_, _, a, b, _⟩ := q
      rw [w64 (by omega) (by omega)] at h3
      unfold mx at h3
      split at h3 <;> omega)]
  rw [if_neg h3]
  by_cases h4 : d < -1000000
  · rw [if_pos h4, if_neg (fun q => by have := q.2.2.1; omega)]
  rw [if_neg h4]
  by_cases h5 : r < 0
  · rw [if_pos h5, if_neg (fun q => by have := q.2.2.2.2.1; omega)]
  rw [if_neg h5]
  by_cases h6 : r ≥ 1000000000
  · rw [if_pos h6, if_neg (fun q => by have := q.2.2.2.2.2; omega)]
  have h7 : d ≤ 1000000 := by
    unfold mx at h3
    split at h3 <;> omega
  rw [if_neg h6, if_pos ⟨by omega, by omega, by omega, h7, by omega, by omega⟩]
/-- Its rate. -/
def rt (p d : Int) : Int := p * (1000000000 + d)
theorem rt_bound (h : Oc p d r) : 999000000 * p ≤ rt p d ∧ rt p d ≤ 1001000000 * p := by
  obtain ⟨a1, a2, a3, a4, _⟩ := h
  unfold rt
  have e1 := Int.mul_le_mul_of_nonneg_left (show 999000000 ≤ 1000000000 + d by omega) (show 0 ≤ p by omega)
  have e2 := Int.mul_le_mul_of_nonneg_left (show 1000000000 + d ≤ 1001000000 by omega) (show 0 ≤ p by omega)
  omega
theorem rate_eq (hd : -9223372036854775808 ≤ d ∧ d ≤ 9223372036854775807) : osc_Rate.f p d r = some (if Oc p d r then (rt p d, 0) else (0, 1)) := by
  unfold osc_Rate.f
  rw [ocheck hd]
  by_cases h : Oc p d r
  · have b := rt_bound h
    obtain ⟨a1, a2, a3, a4, _⟩ := id h
    rw [if_pos h, if_pos h, Option.bind_some, if_pos rfl, w64 (x := 1000000000 + d) (by omega) (by omega)]
    unfold rt at *
    rw [w64 (by omega) (by omega)]
  · rw [if_neg h, if_neg h]
    rfl
/-- How long ticks take. -/
def run (p d r t : Int) : Int × Int × Int × Int × Int :=
  if Oc p d r ∧ 0 ≤ t ∧ t ≤ 1099511627776 then (if (rt p d * t + r) / 1000000000 > 1152921504606846976 then (0, 0, 0, 0, 2) else ((rt p d * t + r) / 1000000000, p, d, (rt p d * t + r) % 1000000000, 0)) else (0, 0, 0, 0, 1)
theorem lz30 : bits_LeadingZeros64.f 30 1000000000 = some 34 := by decide +kernel
theorem lz {k : Nat} (hk : 30 ≤ k) : bits_LeadingZeros64.f k 1000000000 = some ((34 : Nat) : Int) := at_rounds (fun k => bits_LeadingZeros64.mono _ k) hk lz30
theorem run_eq {k : Nat} (hk : 40 ≤ k) (hd : -9223372036854775808 ≤ d ∧ d ≤ 9223372036854775807) : osc_Run.f k p d r t = some (run p d r t) := by
  obtain ⟨k, rfl⟩ : ∃ j, k = j + 1 := ⟨k - 1, by omega⟩
  unfold osc_Run.f run
  rw [rate_eq hd, Option.bind_some]
  have no : ∀ q : Int, osc_Run.j0 (k + 1) t q true p d r = some (0, 0, 0, 0, 1) := fun q => by simp [osc_Run.j0]
  by_cases h : Oc p d r
  case neg =>
    have hr : ¬ (Oc p d r ∧ 0 ≤ t ∧ t ≤ 1099511627776) := fun q => h q.1
    rw [if_neg h, if_neg hr, if_neg (show ¬ (0, 1).2 = (0 : Int) by decide), no]
  rw [if_pos h, if_pos rfl]
  by_cases h1 : t < 0
  · have hr : ¬ (Oc p d r ∧ 0 ≤ t ∧ t ≤ 1099511627776) := fun q => by have := q.2.1; omega
    rw [if_pos h1, if_neg hr, no]
  rw [if_neg h1]
  by_cases h2 : t > 1099511627776
  · have hr : ¬ (Oc p d r ∧ 0 ≤ t ∧ t ≤ 1099511627776) := fun q => by have := q.2.2; omega
    rw [decide_eq_true h2, if_neg hr, no]
  have hr : Oc p d r ∧ 0 ≤ t ∧ t ≤ 1099511627776 := ⟨h, by omega, by omega⟩
  have b := rt_bound h
  obtain ⟨a1, a2, a3, a4, a5, a6⟩ := id h
  rw [decide_eq_false h2, if_pos hr]
  simp only [osc_Run.j0]
  have z0 : 0 ≤ rt p d * t := Int.mul_nonneg (by omega) (by omega)
  have z1 : rt p d * t ≤ 1001000000000000000 * 1099511627776 := Int.mul_le_mul (by omega) (by omega) (by omega) (by omega)
  rw [if_neg (by decide), uin (x := rt p d) (by omega) (by omega), uin (x := t) (by omega) (by omega), mul64_eq (by omega) (by omega) (by omega) (by omega), Option.bind_some, uin (x := r) (by omega) (by omega)]
  simp only
  generalize rt p d * t = N at *
  rw [addHi (by omega) (by omega), addLo (by omega) (by omega), uin (x := N / 18446744073709551616 + _) (by omega) (by omega)]
  have e1 : N / 18446744073709551616 + (N % 18446744073709551616 + r) / 18446744073709551616 = (N + r) / 18446744073709551616 := by omega
  have e2 : (N % 18446744073709551616 + r) % 18446744073709551616 = (N + r) % 18446744073709551616 := by omega
  rw [e1, e2]
  by_cases h3 : (N + r) / 18446744073709551616 ≥ 1000000000
  · rw [if_pos h3, if_pos (by omega)]
  rw [if_neg h3, div_eq (s := 34) (by decide) (lz (by omega)) (by decide) (by decide) (by omega) (by omega) (by omega) (by omega) (by omega), Option.bind_some, show (N + r) / 18446744073709551616 * 18446744073709551616 + (N + r) % 18446744073709551616 = N + r by omega]
  simp only
  by_cases h4 : (N + r) / 1000000000 > 1152921504606846976
  · rw [if_pos h4, if_pos h4]
  · rw [if_neg h4, if_neg h4, w64 (by omega) (by omega), w64 (by omega) (by omega)]
end
end Go.Proofs.Ytcofclkgfandfaa.Osc
/- Plain facts on times that may be (layer 1), as printed. -/
namespace Go.Proofs.Ytcofclkgfandfaa.Medl
open Go.RowKit Go.Proofs.Ytcofclkgfandfaa.Print Go.Proofs.YtcofclkgfandfaaW.PrintWords Go.Proofs.YtcofclkgfandfaaW.PrintLast Go.Proofs.YtcofclkgfandfaaW.PrintMore
/-- A time that may be. -/
def Tm (x : Int) : Prop := -1152921504606846976 ≤ x ∧ x ≤ 1152921504606846976
instance (x : Int) : Decidable (Tm x) := by unfold Tm; infer_instance
theorem may1_eq (x : Int) : pico_May_1.f x = some (decide (¬ Tm x)) := by
  unfold pico_May_1.f
  by_cases h : x > 1152921504606846976
  · rw [if_pos h, decide_eq_true (show ¬ Tm x by unfold Tm; omega)]
  · rw [if_neg h]
    congr 1
    rw [decide_eq_decide]
    unfold Tm
    omega
theorem rd_nat (xs : List Int) (j : Nat) : rd xs (j : Int) = xs.getD j 0 := by simp [rd]
theorem mayidx (xs : List Int) (hx : xs.length ≤ 9223372036854775807) (d : Nat) : ∀ (k : Nat) (i : Nat), i ≤ xs.length → xs.length - i = d → d < k →
    ∃ r, slices_IndexFunc_int64_int64_at_pico_May_1.l0 k xs (xs.length : Int) (i : Int) = some r ∧ (r ≥ 0 ↔ ∃ x ∈ xs.drop i, ¬ Tm x) := by
  induction d with
  | zero =>
    intro k i hi hd hk
    obtain ⟨k, rfl⟩ : ∃ m, k = m + 1 := ⟨k - 1, by omega⟩
    refine ⟨-1, ?_, ?_⟩
    · simp only [slices_IndexFunc_int64_int64_at_pico_May_1.l0]
      rw [if_neg (by omega)]
    · rw [List.drop_of_length_le (by omega)]
      simp
  | succ d ih =>
    intro k i hi hd hk
    obtain ⟨k, rfl⟩ : ∃ m, k = m + 1 := ⟨k - 1, by omega⟩
    have hlt : i < xs.length := by omega
    have hdrop : xs.drop i = xs.getD i 0 :: xs.drop (i + 1) := by rw [List.drop_eq_getElem_cons hlt, List.getD_eq_getElem?_getD, List.getElem?_eq_getElem hlt]; rfl
    simp only [slices_IndexFunc_int64_int64_at_pico_May_1.l0]
    rw [if_pos (by omega), if_pos (by omega), if_pos (by omega), rd_nat, may1_eq]
    simp only [Option.bind_some]
    by_cases ht : Tm (xs.getD i 0)
    · rw [decide_eq_false (by simpa using ht), if_neg (by decide), w64 (by omega) (by omega)]
      obtain ⟨r, hr, h⟩ := ih k (i + 1) (by omega) (by omega) (by omega)
      refine ⟨r, hr, ?_⟩
      rw [h, hdrop]
      constructor
      · rintro ⟨x, hx2, hq⟩
        exact ⟨x, List.mem_cons_of_mem _ hx2, hq⟩
      · rintro ⟨x, hx2, hq⟩
        rcases List.mem_cons.1 hx2 with rfl | h2
        · exact absurd ht hq
        · exact ⟨x, h2, hq⟩
    · rw [decide_eq_true ht, if_pos rfl]
      refine ⟨i, rfl, ?_⟩
      rw [hdrop]
      exact ⟨fun _ => ⟨_, List.mem_cons_self, ht⟩, fun _ => by omega⟩
theorem may_eq {k : Nat} (xs : List Int) (hx : xs.length ≤ 9223372036854775807) (hk : xs.length < k) : pico_May.f k xs = some (decide (∀ x ∈ xs, Tm x)) := by
  unfold pico_May.f slices_ContainsFunc_int64_int64_at_pico_May_1.f slices_IndexFunc_int64_int64_at_pico_May_1.f
  obtain ⟨r, hr, h⟩ := mayidx xs hx xs.length k 0 (by omega) (by omega) hk
  rw [show (0 : Int) = ((0 : Nat) : Int) from rfl, hr]
  simp only [Option.bind_some, Option.some.injEq]
  rw [Bool.eq_iff_iff]
  simp only [Bool.not_eq_true', decide_eq_false_iff_not, decide_eq_true_eq]
  rw [show ((r : Int) ≥ ((0 : Nat) : Int)) ↔ r ≥ 0 from Iff.rfl, h, List.drop_zero]
  constructor
  · intro h1 x hx
    by_cases q : Tm x
    · exact q
    · exact absurd ⟨x, hx, q⟩ h1
  · rintro h1 ⟨x, hx, q⟩
    exact q (h1 x hx)
theorem may_one {k : Nat} (hk : 2 ≤ k) (x : Int) : pico_May.f k [x] = some (decide (Tm x)) := by
  rw [may_eq [x] (by simp) (by simp; omega)]
  simp
theorem may_two {k : Nat} (hk : 3 ≤ k) (x y : Int) : pico_May.f k [x, y] = some (decide (Tm x ∧ Tm y)) := by
  rw [may_eq [x, y] (by simp) (by simp; omega)]
  simp
theorem told_eq {k : Nat} (hk : 2 ≤ k) (x : Int) : pico_told.f k x = some (if Tm x then (x, 0) else (0, 2)) := by
  unfold pico_told.f
  rw [may_one hk]
  by_cases h : Tm x
  · simp [h]
  · simp [h]
theorem add_eq {k : Nat} (hk : 3 ≤ k) (x y : Int) : pico_Add.f k x y = some (if Tm x ∧ Tm y then (if Tm (x + y) then (x + y, 0) else (0, 2)) else (0, 1)) := by
  unfold pico_Add.f
  rw [may_two hk]
  by_cases h : Tm x ∧ Tm y
  · rw [decide_eq_true h, if_pos h]
    have h1 := h.1
    have h2 := h.2
    unfold Tm at h1 h2
    simp only [Option.bind_some, if_true]
    rw [told_eq (by omega), w64 (by omega) (by omega)]
    simp only [Option.bind_some]
  · rw [decide_eq_false h, if_neg h]
    simp
end Go.Proofs.Ytcofclkgfandfaa.Medl
/- Plain facts on nodes (layer 13), as printed: which may be, and which are the same. -/
namespace Go.Proofs.Ytcofclkgfandfaa.Node13
open Go Go.RowKit Go.Proofs.Ytcofclkgfandfaa.Print Go.Proofs.YtcofclkgfandfaaW.PrintWords Go.Proofs.YtcofclkgfandfaaW.PrintLast Go.Proofs.YtcofclkgfandfaaW.PrintMore Go.Proofs.Ytcofclkgfandfaa.Medl Go.Proofs.Ytcofclkgfandfaa.Osc
def W64 (x : Int) : Prop := -9223372036854775808 ≤ x ∧ x ≤ 9223372036854775807
theorem rd_at {l : List Int} {i : Nat} (h : i < l.length) : rd l (i : Int) = l[i] := by
  unfold rd
  rw [Int.toNat_natCast]
  simp [List.getD, List.getElem?_eq_getElem h]
theorem eqs_l0 (a b : List Int) (hab : a.length = b.length) (ha : a.length ≤ 4611686018427387904) (d : Nat) : ∀ (k i : Nat), i ≤ a.length → a.length - i = d → d < k → slices_Equal_int64_int64.l0 k a b (a.length : Int) (i : Int) = some (decide (a.drop i = b.drop i)) := by
  induction d with
  | zero =>
    intro k i hi hd hk
    obtain ⟨k, rfl⟩ : ∃ m, k = m + 1 := ⟨k - 1, by omega⟩
    rw [slices_Equal_int64_int64.l0, if_neg (by omega), List.drop_of_length_le (by omega), List.drop_of_length_le (by omega), decide_eq_true rfl]
  | succ d ih =>
    intro k i hi hd hk
    obtain ⟨k, rfl⟩ : ∃ m, k = m + 1 := ⟨k - 1, by omega⟩
    have h1 : i < a.length := by omega
    have h2 : i < b.length := by omega
    rw [slices_Equal_int64_int64.l0, if_pos (by omega), if_pos (by omega), if_pos (by omega), if_pos (by omega), rd_at h1, rd_at h2, List.drop_eq_getElem_cons h1, List.drop_eq_getElem_cons h2]
    by_cases h : a[i] = b[i]
    · rw [if_pos h, show wrap64 ((i : Int) + 1) = ((i + 1 : Nat) : Int) from by unfold wrap64; omega, ih k (i + 1) (by omega) (by omega) (by omega)]
      exact congrArg some (decide_eq_decide.2 ⟨fun e => by rw [h, e], fun e => (List.cons.inj e).2⟩)
    · rw [if_neg h, decide_eq_false fun e => h (List.cons.inj e).1]
theorem eqs {k : Nat} (a b : List Int) (ha : a.length ≤ 1000000) (hk : a.length < k) : slices_Equal_int64_int64.f k a b = some (decide (a = b)) := by
  unfold slices_Equal_int64_int64.f
  by_cases h : (a.length : Int) = (b.length : Int)
  · rw [if_pos h]
    exact eqs_l0 a b (by omega) (by omega) a.length k 0 (by omega) (by omega) hk
  · rw [if_neg h, decide_eq_false fun e => h (by rw [e])]
/-- Which nodes are the same. -/
theorem same {k : Nat} (a b c d e f g h i j m : Int) (l : List Int) (s : Bool) (v a' b' c' d' e' f' g' h' i' j' m' : Int) (l' : List Int) (s' : Bool) (v' : Int) (hl : l.length ≤ 1000000) (hk : l.length < k) :
    node_Same.f k a b c d e f g h i j m l s v a' b' c' d' e' f' g' h' i' j' m' l' s' v' = some (decide (a = a' ∧ b = b' ∧ c = c' ∧ d = d' ∧ e = e' ∧ f = f' ∧ g = g' ∧ h = h' ∧ i = i' ∧ j = j' ∧ m = m' ∧ l = l' ∧ s = s' ∧ v = v')) := by
  unfold node_Same.f
  rw [eqs l l' hl hk, Option.bind_some]
  by_cases q : l = l'
  · rw [decide_eq_true q, if_pos rfl]
    simp only [node_Same_1.f, Option.bind_some]
    congr 1
    rw [Bool.eq_iff_iff]
    simp only [Bool.and_eq_true, beq_iff_eq, decide_eq_true_eq]
    constructor
    · rintro ⟨x1, x2, x3, x4, ⟨x5, x6, x7⟩, x8, x9, ⟨x10, x11⟩, x12, x13⟩
      exact ⟨x1, x2, x3, x4, x5, x6, x7, x8, x9, x10, x11, q, x12, x13⟩
    · rintro ⟨x1, x2, x3, x4, x5, x6, x7, x8, x9, x10, x11, _, x12, x13⟩
      exact ⟨x1, x2, x3, x4, ⟨x5, x6, x7⟩, x8, x9, ⟨x10, x11⟩, x12, x13⟩
  · rw [decide_eq_false q, if_neg (by decide), decide_eq_false fun z => q z.2.2.2.2.2.2.2.2.2.2.2.1]
theorem far {m4 d : Int} (h1 : 0 ≤ m4) (h2 : m4 ≤ 1048576) : node_far.f (wrap64 (-m4)) m4 d = some (decide ¬(-m4 ≤ d ∧ d ≤ m4)) := by
  unfold node_far.f node_within_int64.f
  rw [show wrap64 (-m4) = -m4 from by unfold wrap64; omega]
  by_cases a : d ≥ -m4
  · rw [if_pos a, Option.bind_some]
    by_cases b : d ≤ m4
    · rw [decide_eq_true b, decide_eq_false (show ¬¬(-m4 ≤ d ∧ d ≤ m4) from fun z => z ⟨a, b⟩)]
      rfl
    · rw [decide_eq_false b, decide_eq_true (show ¬(-m4 ≤ d ∧ d ≤ m4) from fun z => b z.2)]
      rfl
  · rw [if_neg a, Option.bind_some, decide_eq_true (show ¬(-m4 ≤ d ∧ d ≤ m4) from fun z => a z.1)]
    rfl
theorem idx {m4 : Int} (h1 : 0 ≤ m4) (h2 : m4 ≤ 1048576) (l : List Int) (hl : l.length ≤ 1000000) (d : Nat) : ∀ (k i : Nat), i ≤ l.length → l.length - i = d → d < k → ∃ r, node_idxFar.l0 (wrap64 (-m4)) m4 k l (l.length : Int) (i : Int) = some r ∧ ((0 ≤ r) ↔ ¬ ∀ x ∈ l.drop i, -m4 ≤ x ∧ x ≤ m4) := by
  induction d with
  | zero =>
    intro k i hi hd hk
    obtain ⟨k, rfl⟩ : ∃ m, k = m + 1 := ⟨k - 1, by omega⟩
    rw [node_idxFar.l0, if_neg (by omega), List.drop_of_length_le (by omega)]
    exact ⟨-1, rfl, ⟨fun z => absurd z (by decide), fun z => absurd (fun x hx => absurd hx List.not_mem_nil) z⟩⟩
  | succ d ih =>
    intro k i hi hd hk
    obtain ⟨k, rfl⟩ : ∃ m, k = m + 1 := ⟨k - 1, by omega⟩
    have h : i < l.length := by omega
    rw [node_idxFar.l0, if_pos (by omega), if_pos (by omega), if_pos (by omega), rd_at h, far h1 h2, Option.bind_some, List.drop_eq_getElem_cons h]
    by_cases q : -m4 ≤ l[i] ∧ l[i] ≤ m4
    · rw [decide_eq_false (show ¬¬(-m4 ≤ l[i] ∧ l[i] ≤ m4) from fun z => z q), if_neg (by decide), show wrap64 ((i : Int) + 1) = ((i + 1 : Nat) : Int) from by unfold wrap64; omega]
      obtain ⟨r, e, hr⟩ := ih k (i + 1) (by omega) (by omega) (by omega)
      refine ⟨r, e, hr.trans (not_congr ?_)⟩
      constructor
      · intro z x hx
        rcases List.mem_cons.1 hx with rfl | hx
        · exact q
        · exact z x hx
      · exact fun z x hx => z x (List.mem_cons_of_mem _ hx)
    · rw [decide_eq_true q, if_pos rfl]
      exact ⟨(i : Int), rfl, ⟨fun _ z => q (z _ (List.mem_cons_self ..)), fun _ => by omega⟩⟩
def Near (m4 : Int) (l : List Int) : Prop := ∀ x ∈ l, -m4 ≤ x ∧ x ≤ m4
instance (m4 : Int) (l : List Int) : Decidable (Near m4 l) := by unfold Near; infer_instance
theorem any {m4 : Int} (h1 : 0 ≤ m4) (h2 : m4 ≤ 1048576) (l : List Int) (hl : l.length ≤ 1000000) {k : Nat} (hk : l.length < k) : node_anyFar.f (wrap64 (-m4)) m4 k l = some (decide ¬ Near m4 l) := by
  obtain ⟨r, e, hr⟩ := idx h1 h2 l hl l.length k 0 (by omega) (by omega) hk
  have e : node_idxFar.l0 (wrap64 (-m4)) m4 k l (l.length : Int) 0 = some r := e
  unfold node_anyFar.f node_idxFar.f
  rw [e, Option.bind_some]
  exact congrArg some (decide_eq_decide.2 hr)
theorem win (a b c : Int) : node_within_int.f a b c = some (decide (b ≤ a ∧ a ≤ c)) := by
  unfold node_within_int.f
  by_cases h : a ≥ b
  · rw [if_pos h]
    exact congrArg some (decide_eq_decide.2 ⟨fun z => ⟨h, z⟩, fun z => z.2⟩)
  · rw [if_neg h, decide_eq_false fun z => h z.1]
theorem win64 (a b c : Int) : node_within_int64.f a b c = some (decide (b ≤ a ∧ a ≤ c)) := win a b c
/-- A node that may be. -/
def Nok (m0 m1 m2 m3 m4 a b c d e f g h i j m : Int) (l : List Int) (s : Bool) (v : Int) : Prop :=
  (Ok m0 m1 m2 m3 m4 ∧ Oc e f g ∧ (0 ≤ a ∧ a < m0) ∧ (0 ≤ b ∧ b ≤ 3) ∧ c ≤ 4294967296 ∧ 0 ≤ d ∧ Tm d) ∧ ((-m4 ≤ h ∧ h ≤ m4) ∧ Near m4 l ∧ (l.length : Int) ≤ m0 ∧ (0 ≤ j ∧ j ≤ 1073741824) ∧ (0 ≤ m ∧ m ≤ 1073741824) ∧ (0 ≤ v ∧ v ≤ 3)) ∧ (b = 0 → c = 0 ∧ d = 0 ∧ h = 0 ∧ i = 0 ∧ j = 0 ∧ m = 0 ∧ l = [] ∧ s = false ∧ v = 0)
instance (m0 m1 m2 m3 m4 a b c d e f g h i j m : Int) (l : List Int) (s : Bool) (v : Int) : Decidable (Nok m0 m1 m2 m3 m4 a b c d e f g h i j m l s v) := by unfold Nok Ok Tm; infer_instance
theorem j0_no {k : Nat} (x y m0 m1 m2 m3 m4 a b c d e f g h i j m : Int) (l : List Int) (s : Bool) (v : Int) : node_Check.j0 (k + 1) false x y m0 m1 m2 m3 m4 a b c d e f g h i j m l s v = some 1 := by
  simp only [node_Check.j0]
  rfl
theorem j0_yes {k : Nat} {m0 m1 m2 m3 m4 a b c d e f g h i j m : Int} {l : List Int} {s : Bool} {v : Int} (h1 : 0 ≤ m4) (h2 : m4 ≤ 1048576) (hl : l.length ≤ 1000000) (hk : l.length < k) : node_Check.j0 (k + 1) true m4 (wrap64 (-m4)) m0 m1 m2 m3 m4 a b c d e f g h i j m l s v =
    some (if ((-m4 ≤ h ∧ h ≤ m4) ∧ Near m4 l ∧ (l.length : Int) ≤ m0 ∧ (0 ≤ j ∧ j ≤ 1073741824) ∧ (0 ≤ m ∧ m ≤ 1073741824) ∧ (0 ≤ v ∧ v ≤ 3)) ∧ (b = 0 → c = 0 ∧ d = 0 ∧ h = 0 ∧ i = 0 ∧ j = 0 ∧ m = 0 ∧ l = [] ∧ s = false ∧ v = 0) then 0 else 1) := by
  simp only [node_Check.j0]
  rw [if_pos trivial, win64, Option.bind_some, any h1 h2 l hl hk, show wrap64 (-m4) = -m4 from by unfold wrap64; omega]
  by_cases c1 : -m4 ≤ h ∧ h ≤ m4
  case neg => rw [decide_eq_false c1, if_neg (by decide), if_neg fun z => c1 z.1.1]
  rw [decide_eq_true c1, if_pos rfl, Option.bind_some]
  by_cases c2 : Near m4 l
  case neg => rw [decide_eq_true c2, if_pos rfl, if_neg fun z => c2 z.1.2.1]
  rw [decide_eq_false (show ¬¬Near m4 l from fun z => z c2), if_neg (by decide)]
  by_cases c3 : (l.length : Int) ≤ m0
  case neg => rw [if_neg c3, if_neg fun z => c3 z.1.2.2.1]
  rw [if_pos c3, win, Option.bind_some]
  by_cases c4 : 0 ≤ j ∧ j ≤ 1073741824
  case neg => rw [decide_eq_false c4, if_neg (by decide), if_neg fun z => c4 z.1.2.2.2.1]
  rw [decide_eq_true c4, if_pos rfl, win, Option.bind_some]
  by_cases c5 : 0 ≤ m ∧ m ≤ 1073741824
  case neg => rw [decide_eq_false c5, if_neg (by decide), if_neg fun z => c5 z.1.2.2.2.2.1]
  rw [decide_eq_true c5, if_pos rfl, win, Option.bind_some]
  by_cases c6 : 0 ≤ v ∧ v ≤ 3
  case neg => rw [decide_eq_false c6, if_neg (by decide), if_neg fun z => c6 z.1.2.2.2.2.2]
  rw [decide_eq_true c6, if_pos rfl]
  by_cases c7 : b = 0
  case neg => rw [if_neg c7, if_pos ⟨⟨c1, c2, c3, c4, c5, c6⟩, fun z => absurd z c7⟩]
  rw [if_pos c7, same _ _ _ _ _ _ _ _ _ _ _ _ _ _ _ _ _ _ _ _ _ _ _ _ _ _ _ _ hl hk, Option.bind_some]
  by_cases c8 : c = 0 ∧ d = 0 ∧ h = 0 ∧ i = 0 ∧ j = 0 ∧ m = 0 ∧ l = [] ∧ s = false ∧ v = 0
  · rw [decide_eq_true ⟨rfl, c7, c8.1, c8.2.1, rfl, rfl, rfl, c8.2.2.1, c8.2.2.2.1, c8.2.2.2.2.1, c8.2.2.2.2.2.1, c8.2.2.2.2.2.2.1, c8.2.2.2.2.2.2.2.1, c8.2.2.2.2.2.2.2.2⟩, if_pos rfl, if_pos ⟨⟨c1, c2, c3, c4, c5, c6⟩, fun _ => c8⟩]
  · rw [decide_eq_false (fun z => c8 (by obtain ⟨_, _, z1, z2, _, _, _, z3, z4, z5, z6, z7, z8, z9⟩ := z; exact ⟨z1, z2, z3, z4, z5, z6, z7, z8, z9⟩)), if_neg (by decide), if_neg fun z => c8 (z.2 c7)]
theorem check13 {k : Nat} {m0 m1 m2 m3 m4 a b c d e f g h i j m : Int} {l : List Int} {s : Bool} {v : Int} (hf : W64 f) (hl : l.length ≤ 1000000) (hk : l.length + 4 ≤ k) : node_Check.f k m0 m1 m2 m3 m4 a b c d e f g h i j m l s v = some (if Nok m0 m1 m2 m3 m4 a b c d e f g h i j m l s v then 0 else 1) := by
  obtain ⟨k, rfl⟩ : ∃ z, k = z + 1 := ⟨k - 1, by omega⟩
  unfold node_Check.f
  by_cases c0 : Ok m0 m1 m2 m3 m4
  case neg => rw [check_no c0, Option.bind_some, if_neg (by decide), j0_no, if_neg fun z => c0 z.1.1]
  have hm : 0 ≤ m4 ∧ m4 ≤ 1048576 ∧ 2 ≤ m0 ∧ m0 ≤ 16 := by
    have := c0
    unfold Ok at this
    omega
  rw [check_ok c0, Option.bind_some, if_pos rfl, ocheck hf]
  by_cases c1 : Oc e f g
  case neg => rw [if_neg c1, Option.bind_some, if_neg (by decide), j0_no, if_neg fun z => c1 z.1.2.1]
  rw [if_pos c1, Option.bind_some, if_pos rfl, win, Option.bind_some, show wrap64 (m0 - 1) = m0 - 1 from by unfold wrap64; omega]
  by_cases c2 : 0 ≤ a ∧ a ≤ m0 - 1
  case neg => rw [decide_eq_false c2, if_neg (by decide), j0_no, if_neg fun z => c2 ⟨z.1.2.2.1.1, by have := z.1.2.2.1.2; omega⟩]
  rw [decide_eq_true c2, if_pos rfl, win, Option.bind_some]
  by_cases c3 : 0 ≤ b ∧ b ≤ 3
  case neg => rw [decide_eq_false c3, if_neg (by decide), j0_no, if_neg fun z => c3 z.1.2.2.2.1]
  rw [decide_eq_true c3, if_pos rfl]
  by_cases c4 : c ≤ 4294967296
  case neg => rw [if_neg c4, j0_no, if_neg fun z => c4 z.1.2.2.2.2.1]
  rw [if_pos c4]
  by_cases c5 : d ≥ 0
  case neg => rw [if_neg c5, j0_no, if_neg fun z => c5 z.1.2.2.2.2.2.1]
  rw [if_pos c5, may_one (by omega), Option.bind_some]
  by_cases c6 : Tm d
  case neg => rw [decide_eq_false c6, j0_no, if_neg fun z => c6 z.1.2.2.2.2.2.2]
  rw [decide_eq_true c6, j0_yes hm.1 hm.2.1 hl (by omega)]
  have hA : Ok m0 m1 m2 m3 m4 ∧ Oc e f g ∧ (0 ≤ a ∧ a < m0) ∧ (0 ≤ b ∧ b ≤ 3) ∧ c ≤ 4294967296 ∧ 0 ≤ d ∧ Tm d := ⟨c0, c1, ⟨c2.1, by omega⟩, c3, c4, c5, c6⟩
  split
  · rename_i q
    have hN : Nok m0 m1 m2 m3 m4 a b c d e f g h i j m l s v := ⟨hA, q⟩
    rw [if_pos hN]
  · rename_i q
    have hN : ¬ Nok m0 m1 m2 m3 m4 a b c d e f g h i j m l s v := fun z => q z.2
    rw [if_neg hN]
/-! Beginning. -/
theorem begin13 {k : Nat} {m0 m1 m2 m3 m4 a b c d e f g h i j m : Int} {l : List Int} {s : Bool} {v now : Int} (hf : W64 f) (hl : l.length ≤ 1000000) (hk : l.length + 4 ≤ k) :
    node_begin.f k m0 m1 m2 m3 m4 a b c d e f g h i j m v s l now = some (if Nok m0 m1 m2 m3 m4 a b c d e f g h i j m l s v ∧ 0 ≤ now ∧ Tm now then 0 else 1) := by
  unfold node_begin.f
  rw [if_pos (by omega), check13 hf hl hk, Option.bind_some]
  by_cases h1 : Nok m0 m1 m2 m3 m4 a b c d e f g h i j m l s v
  · rw [if_pos h1, if_pos rfl]
    by_cases h2 : now < 0
    · rw [if_pos h2, if_neg fun z => by have := z.2.1; omega]
    · rw [if_neg h2, may_one (by omega), Option.bind_some]
      by_cases h3 : Tm now
      · rw [decide_eq_true h3, if_pos rfl, if_pos ⟨h1, by omega, h3⟩]
      · rw [decide_eq_false h3, if_neg (by decide), if_neg fun z => h3 z.2.2]
  · rw [if_neg h1, if_neg (by decide), if_neg fun z => h1 z.1]
theorem run_fine {k : Nat} (hk : 40 ≤ k) {p d r t : Int} (h : Oc p d r) (hd : W64 d) (h0 : 0 ≤ t) (h1 : t ≤ 1099511627776) (h2 : (rt p d * t + r) / 1000000000 ≤ 1152921504606846976) : osc_Run.f k p d r t = some ((rt p d * t + r) / 1000000000, p, d, (rt p d * t + r) % 1000000000, 0) := by
  rw [run_eq hk hd]
  unfold run
  rw [if_pos ⟨h, h0, h1⟩, if_neg (by omega)]
theorem run_small {p d r t : Int} (h : Oc p d r) (h0 : 0 ≤ t) (h1 : t ≤ 134217728) : 0 ≤ (rt p d * t + r) / 1000000000 ∧ (rt p d * t + r) / 1000000000 ≤ 144115188075855872 := by
  have b := rt_bound h
  obtain ⟨p1, p2, _, _, r0, r1⟩ := h
  have e3 : 0 ≤ rt p d * t := Int.mul_nonneg (by omega) (by omega)
  have e4 : rt p d * t ≤ 1001000000000000000 * 134217728 := Int.mul_le_mul (by omega) h1 (by omega) (by omega)
  omega
/-- A time from now that is not too far. -/
theorem timer_fine {k : Nat} (hk : 40 ≤ k) (s : Rs) (hd : W64 s.od) (ho : Oc s.op s.od s.orr) (he : s.er = 0) {t : Int} (h0 : 0 ≤ t) (h1 : t ≤ 134217728) (hs : 0 ≤ s.st) (hs2 : s.st ≤ 1008806316530991104) :
    node_timer.f k s t = some { s with ac := s.ac ++ [⟨1, s.st + (rt s.op s.od * t + s.orr) / 1000000000, z42, 0, 0⟩] } := by
  have b := run_small ho h0 h1
  have hfl : s.fl 0 = s := by unfold Rs.fl; rw [if_pos he, if_pos rfl]
  unfold node_timer.f node_at.f
  rw [run_fine hk ho hd h0 (by omega) (by omega), Option.bind_some, add_eq (by omega)]
  have t1 : Tm s.st ∧ Tm ((rt s.op s.od * t + s.orr) / 1000000000) := by unfold Tm; omega
  have t2 : Tm (s.st + (rt s.op s.od * t + s.orr) / 1000000000) := by unfold Tm; omega
  rw [if_pos t1, if_pos t2, Option.bind_some, Option.bind_some]
  simp only [hfl]
end Go.Proofs.Ytcofclkgfandfaa.Node13
