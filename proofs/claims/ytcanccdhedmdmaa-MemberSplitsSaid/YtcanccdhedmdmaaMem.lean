/- Plain facts on members and verdicts (layer 10), as printed. -/
import Derived.Test.YtcanccdhedmdmaaMedl
import Derived.Test.YtcanccdhedmdmaaRef07
import Derived.Test.YtcanccdhedmdmaaBits16
import Derived.Test.YtcanccdhedmdmaaPrint0
import Derived.Test.YtcanccdhedmdmaaPrint2
import Derived.Test.YtcanccdhedmdmaaPrint4
import Derived.Test.YtcanccdhedmdmaaPrint5
import Derived.Test.YtcanccdhedmdmaaPrint9
import Derived.Test.YtcanccdhedmdmaaPrint13
import Derived.Test.YtcanccdhedmdmaaPrint14
set_option linter.unusedVariables false
set_option linter.unusedSimpArgs false
namespace Go.Proofs.Ytcanccdhedmdmaa.Mem
open Go.RowKit Go.Proofs.Ytcanccdhedmdmaa.Print Go.Proofs.YtcanccdhedmdmaaW.PrintWords Go.Proofs.YtcanccdhedmdmaaW.PrintLast Go.Proofs.YtcanccdhedmdmaaW.PrintMore Go.Proofs.Ytcanccdhedmdmaa.Medl Go.Proofs.Ytcanccdhedmdmaa.Bits16
theorem shl16 {n : Nat} (h : n < 16) : shl .u16 1 (n : Int) = ((2 ^ n : Nat) : Int) := by
  have := pow_lt h
  unfold shl
  rw [show min ((n : Int).toNat) (IntKind.bits .u16) = n by simp [IntKind.bits]; omega, Int.one_mul, u16_in (Int.le_of_lt (Int.pow_pos (by decide))) (by rw [show (2 : Int) ^ n = ((2 ^ n : Nat) : Int) by simp]; omega)]
  simp
theorem shr16 {m n : Nat} (h : n < 16) : shr .u16 (m : Int) (n : Int) = ((m / 2 ^ n : Nat) : Int) := by
  unfold shr
  rw [show min ((n : Int).toNat) (IntKind.bits .u16) = n by simp [IntKind.bits]; omega]
  simp
theorem bit_in {n : Nat} (h : n < 16) : frame_bit.f (n : Int) = some ((2 ^ n : Nat) : Int) := by
  unfold frame_bit.f
  rw [if_neg (by omega), if_neg (by omega), if_pos (by omega), shl16 h]
theorem has_eq {m n : Nat} (hm : m < 65536) (h : n < 16) : frame_Has.f (m : Int) (n : Int) = some (m.testBit n) := by
  unfold frame_Has.f
  rw [bit_in h, Option.bind_some, bits_and m _ hm (pow_lt h)]
  congr 1
  have := and_bit m n
  cases hb : m.testBit n
  · rw [hb] at this
    have e : m &&& 2 ^ n = 0 := by
      by_cases q : m &&& 2 ^ n = 0
      · exact q
      · exact absurd (this.1 q) (by decide)
    rw [e]
    rfl
  · have q := this.2 hb
    rw [bne_iff_ne]
    omega
theorem with_eq {m n : Nat} (hm : m < 65536) (h : n < 16) : frame_With.f (m : Int) (n : Int) = some ((wi m n : Nat) : Int) := by
  unfold frame_With.f wi
  rw [bit_in h, Option.bind_some, bits_or m _ hm (pow_lt h), if_pos h]
theorem without_eq {m n : Nat} (hm : m < 65536) (h : n < 16) : frame_Without.f (m : Int) (n : Int) = some ((wo m n : Nat) : Int) := by
  unfold frame_Without.f wo
  rw [bit_in h, Option.bind_some, bits_andNot m _ hm (pow_lt h), if_pos h]
theorem rhas_eq {m n : Nat} (hm : m < 65536) (h : n < 16) : palletref08_Has.f (m : Int) (n : Int) = some (m.testBit n) := by
  unfold palletref08_Has.f
  rw [if_pos (by omega), if_pos (by omega), if_pos (by omega), shr16 h, Int.tmod_eq_emod_of_nonneg (Int.natCast_nonneg _)]
  congr 1
  have := shr_bit m n
  cases hb : m.testBit n
  · rw [hb] at this
    rw [beq_eq_false_iff_ne]
    intro q
    have : (m / 2 ^ n) % 2 = 1 := by omega
    simp_all
  · have := this.2 hb
    rw [beq_iff_eq]
    omega
theorem rwith_eq {m n : Nat} (hm : m < 65536) (h : n < 16) : palletref08_With.f (m : Int) (n : Int) = some ((wi m n : Nat) : Int) := by
  have hl := wi_lt (n := n) hm
  have e := wi_eq (m := m) h
  unfold palletref08_With.f
  rw [if_neg (by omega), if_neg (by omega), rhas_eq hm h]
  simp only [Option.bind_some]
  by_cases hb : m.testBit n = true
  · rw [if_pos hb] at e ⊢
    rw [e]
  · rw [if_neg hb] at e ⊢
    rw [if_pos (by omega), shl16 h, u16_in (by omega) (by omega)]
    congr 1
    omega
theorem rwithout_eq {m n : Nat} (hm : m < 65536) (h : n < 16) : palletref08_Without.f (m : Int) (n : Int) = some ((wo m n : Nat) : Int) := by
  have hl := wo_lt (n := n) hm
  have e := wo_eq hm h
  unfold palletref08_Without.f
  rw [rhas_eq hm h]
  simp only [Option.bind_some]
  by_cases hb : m.testBit n = true
  · have hle : 2 ^ n ≤ m := by
      have := Nat.ge_two_pow_of_testBit hb
      exact this
    rw [if_pos hb] at e ⊢
    rw [if_pos (by omega), shl16 h, u16_in (by omega) (by omega)]
    congr 1
    omega
  · rw [if_neg hb] at e ⊢
    rw [e]
/-- A schedule, a slot and a node that may be. -/
def MGood (n s l f w x me : Int) : Prop := Ok n s l f w ∧ x ≤ 4294967296 ∧ 0 ≤ me ∧ me < n
instance (n s l f w x me : Int) : Decidable (MGood n s l f w x me) := by unfold MGood; infer_instance
def Fok (kd fr sl : Int) : Prop := (kd = 1 ∨ kd = 2) ∧ 0 ≤ fr ∧ fr < 16 ∧ sl ≤ 4294967296
instance (kd fr sl : Int) : Decidable (Fok kd fr sl) := by unfold Fok; infer_instance
section
variable {n s l f w x me : Int}
theorem owner_nat (h : Ok n s l f w) (h0 : 0 ≤ x) : ∃ o : Nat, x % n = (o : Int) ∧ o < 16 := by
  have hm := mod_lt h h0
  have := h.2.1
  exact ⟨(x % n).toNat, by omega, by omega⟩
theorem sit_eq (h0 : 0 ≤ x) : member_sit.f n s l f w me x = some (if MGood n s l f w x me then (me, x % n, 0) else (0, 0, 1)) := by
  unfold member_sit.f
  by_cases h : Ok n s l f w ∧ x ≤ 4294967296
  · rw [owner_ok h.1 h0 h.2]
    simp only [Option.bind_some, if_true]
    by_cases h1 : me < 0
    · rw [if_pos h1, if_neg (fun q => by have := q.2.2.1; omega)]
    rw [if_neg h1]
    by_cases h2 : me ≥ n
    · rw [if_pos h2, if_neg (fun q => by have := q.2.2.2; omega)]
    rw [if_neg h2, if_pos ⟨h.1, h.2, by omega, by omega⟩]
  · rw [owner_no h]
    simp only [Option.bind_some]
    rw [if_neg (by decide), if_neg (fun q => h ⟨q.1, q.2.1⟩)]
theorem fcheck_eq {k : Nat} (hk : 1 ≤ k) (kd fr sl g : Int) : frame_Check.f k kd fr sl g = some (if Fok kd fr sl then 0 else 1) := by
  obtain ⟨k, rfl⟩ : ∃ m, k = m + 1 := ⟨k - 1, by omega⟩
  have j : ∀ b, frame_Check.j0 (k + 1) b kd fr sl g = some (if b = false ∧ 0 ≤ fr ∧ fr < 16 ∧ sl ≤ 4294967296 then 0 else 1) := by
    intro b
    simp only [frame_Check.j0]
    cases b
    · rw [if_neg (by decide)]
      by_cases h1 : fr < 0
      · rw [if_pos h1, if_neg (by omega)]
      rw [if_neg h1]
      by_cases h2 : fr ≥ 16
      · rw [if_pos h2, if_neg (by omega)]
      rw [if_neg h2]
      by_cases h3 : sl > 4294967296
      · rw [if_pos h3, if_neg (by omega)]
      rw [if_neg h3, if_pos ⟨rfl, by omega, by omega, by omega⟩]
    · simp
  unfold frame_Check.f
  rw [j, j]
  by_cases h1 : kd = 1
  · rw [if_pos h1]
    congr 1
    unfold Fok
    simp [h1]
  · rw [if_neg h1]
    congr 1
    unfold Fok
    by_cases h2 : kd = 2
    · simp [h2]
    · have e : (kd != 2) = true := bne_iff_ne.2 h2
      simp [h1, h2, e]
/-- What a frame is. -/
def vd (m me o : Nat) (g : Int) : Int := if g = (wi m o : Nat) then 1 else if me ≠ o ∧ m.testBit me = true ∧ g = (wo (wi m o) me : Nat) then 2 else 3
theorem judge_eq {k : Nat} (hk : 5 ≤ k) {m : Nat} (hm : m < 65536) (h0 : 0 ≤ x) (kd fr sl g : Int) : member_Judge.f k n s l f w me m x kd fr sl g =
    some (if MGood n s l f w x me ∧ Fok kd fr sl then (if fr = x % n ∧ sl = x then vd m me.toNat (x % n).toNat g else 3, 0) else (0, 1)) := by
  obtain ⟨k, rfl⟩ : ∃ j, k = j + 2 := ⟨k - 2, by omega⟩
  unfold member_Judge.f
  rw [sit_eq h0]
  simp only [Option.bind_some]
  by_cases hg : MGood n s l f w x me
  · have hn := hg.1.2.1
    obtain ⟨o, ho, ho2⟩ := owner_nat hg.1 h0
    obtain ⟨me', rfl⟩ : ∃ j : Nat, me = j := ⟨me.toNat, by have := hg.2.2.1; omega⟩
    have hme : me' < 16 := by have := hg.2.2.2; omega
    rw [if_pos hg, if_pos rfl, fcheck_eq (by omega), Option.bind_some]
    by_cases hf : Fok kd fr sl
    · rw [if_pos hf, if_pos ⟨hg, hf⟩, ho, Int.toNat_natCast, Int.toNat_natCast]
      simp only [member_Judge.j0]
      rw [if_pos trivial, with_eq hm ho2, Option.bind_some]
      have fin : ∀ b, member_Judge.j1 (k + 1) me' m (wi m o : Nat) b kd fr sl g me' o = some (if b = false then vd m me' o g else 3, 0) := by
        intro b
        simp only [member_Judge.j1]
        cases b
        · rw [if_neg (by decide), if_pos rfl]
          unfold vd
          by_cases h1 : g = (wi m o : Nat)
          · rw [if_pos h1, if_pos h1]
          rw [if_neg h1, if_neg h1]
          by_cases h2 : me' = o
          · rw [if_pos (by omega), if_neg (fun q => q.1 h2)]
          rw [if_neg (by omega), has_eq hm hme, Option.bind_some]
          by_cases h3 : m.testBit me' = true
          · rw [if_pos h3, without_eq (wi_lt hm) hme, Option.bind_some]
            by_cases h4 : g = (wo (wi m o) me' : Nat)
            · rw [if_pos h4, if_pos ⟨h2, h3, h4⟩]
            · rw [if_neg h4, if_neg (fun q => h4 q.2.2)]
          · rw [if_neg h3, if_neg (fun q => h3 q.2.1)]
        · simp
      rw [fin, fin]
      by_cases h1 : fr = o
      · rw [if_pos h1]
        by_cases h2 : sl = x
        · have e : (sl != x) = false := by simp [h2]
          rw [e, if_pos rfl, if_pos ⟨h1, h2⟩]
        · have e : (sl != x) = true := bne_iff_ne.2 h2
          rw [e, if_neg (by decide), if_neg (fun q => h2 q.2)]
      · rw [if_neg h1, if_neg (show ¬ true = false by decide), if_neg (fun q => h1 q.1)]
    · rw [if_neg hf, if_neg (fun q => hf q.2)]
      simp [member_Judge.j0]
  · rw [if_neg hg, if_neg (show ¬ (0, 0, 1).2.2 = (0 : Int) by decide)]
    simp [member_Judge.j0, hg]
/-- Who is there then. -/
def aft (m me o : Nat) (v : Int) : Nat := if me = o then wi m o else if v = 1 then wi m o else if v = 2 then wo (wi m o) me else wo m o
theorem aft_lt {m : Nat} (hm : m < 65536) (me o : Nat) (v : Int) : aft m me o v < 65536 := by
  unfold aft
  split
  · exact wi_lt hm
  split
  · exact wi_lt hm
  split
  · exact wo_lt (wi_lt hm)
  · exact wo_lt hm
theorem after_eq {m : Nat} (hm : m < 65536) (h0 : 0 ≤ x) (v : Int) : member_After.f n s l f w me m x v =
    some (if MGood n s l f w x me ∧ 0 ≤ v ∧ v ≤ 3 then (((aft m me.toNat (x % n).toNat v : Nat) : Int), 0) else (0, 1)) := by
  unfold member_After.f
  rw [sit_eq h0]
  simp only [Option.bind_some]
  by_cases hg : MGood n s l f w x me
  · have hn := hg.1.2.1
    obtain ⟨o, ho, ho2⟩ := owner_nat hg.1 h0
    obtain ⟨me', rfl⟩ : ∃ j : Nat, me = j := ⟨me.toNat, by have := hg.2.2.1; omega⟩
    have hme : me' < 16 := by have := hg.2.2.2; omega
    rw [if_pos hg, if_pos rfl]
    by_cases hv : 0 ≤ v ∧ v ≤ 3
    · have hr : MGood n s l f w x me' ∧ 0 ≤ v ∧ v ≤ 3 := ⟨hg, hv⟩
      rw [if_pos hv, if_pos hr, ho, Int.toNat_natCast, Int.toNat_natCast]
      unfold aft
      by_cases h1 : me' = o
      · have h1' : (me' : Int) = o := by omega
        rw [if_pos h1', if_pos h1, with_eq hm hme, Option.bind_some, h1]
      have h1' : ¬ (me' : Int) = o := by omega
      rw [if_neg h1', if_neg h1]
      by_cases h2 : v = 1
      · rw [if_pos h2, if_pos h2]
        unfold member_changes_2.f
        rw [with_eq hm ho2]
        rfl
      rw [if_neg h2, if_neg h2]
      by_cases h3 : v = 2
      · rw [if_pos h3, if_pos h3]
        unfold member_changes_3.f
        rw [with_eq hm ho2, Option.bind_some, without_eq (wi_lt hm) hme]
        rfl
      rw [if_neg h3, if_neg h3]
      unfold member_changes_1.f
      rw [without_eq hm ho2]
      rfl
    · have hr : ¬ (MGood n s l f w x me' ∧ 0 ≤ v ∧ v ≤ 3) := fun q => hv q.2
      rw [if_neg hv, if_neg hr]
  · rw [if_neg hg, if_neg (show ¬ (0, 0, 1).2.2 = (0 : Int) by decide)]
    simp [hg]
end
end Go.Proofs.Ytcanccdhedmdmaa.Mem
