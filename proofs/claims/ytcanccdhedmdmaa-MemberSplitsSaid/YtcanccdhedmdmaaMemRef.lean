/- What the document says of members and verdicts (layer 10), as printed. -/
import Derived.Test.YtcanccdhedmdmaaMem
import Derived.Test.YtcanccdhedmdmaaPrint0
import Derived.Test.YtcanccdhedmdmaaPrint7
import Derived.Test.YtcanccdhedmdmaaPrint13
import Derived.Test.YtcanccdhedmdmaaPrint15
import Derived.Test.YtcanccdhedmdmaaPrint16
import Derived.Test.YtcanccdhedmdmaaPrint17
set_option linter.unusedVariables false
set_option linter.unusedSimpArgs false
namespace Go.Proofs.Ytcanccdhedmdmaa.Mem
open Go.RowKit Go.Proofs.Ytcanccdhedmdmaa.Print Go.Proofs.YtcanccdhedmdmaaW.PrintWords Go.Proofs.YtcanccdhedmdmaaW.PrintLast Go.Proofs.YtcanccdhedmdmaaW.PrintMore Go.Proofs.Ytcanccdhedmdmaa.Medl Go.Proofs.Ytcanccdhedmdmaa.Bits16
theorem wi_wo {m me o : Nat} (hm : m < 65536) (hme : me < 16) (ho : o < 16) (h : me ≠ o) : wi (wo m me) o = wo (wi m o) me := by
  apply Nat.eq_of_testBit_eq
  intro i
  rw [wi_bit _ _ _ ho, wo_bit _ _ _ hm hme, wo_bit _ _ _ (wi_lt hm) hme, wi_bit _ _ _ ho]
  by_cases e : me = i
  · subst e
    simp
    exact fun q => h q.symm
  · simp [e]
section
variable {n s l f w x me : Int}
theorem rmay {k : Nat} (hk : 5 ≤ k) (h0 : 0 ≤ x) : palletref10_may.f k n s l f w me x = some (if Ok n s l f w ∧ x ≤ 4294967296 then (x % n, decide (0 ≤ me ∧ me < n)) else (0, false)) := by
  unfold palletref10_may.f
  by_cases h : Ok n s l f w ∧ x ≤ 4294967296
  · rw [refowner_ok h.1 hk h0 h.2, if_pos h]
    simp only [Option.bind_some, if_true]
    by_cases h1 : me ≥ 0
    · rw [if_pos h1]
      simp [h1]
    · rw [if_neg h1, decide_eq_false (fun q => h1 q.1)]
  · rw [refowner_no hk h, if_neg h]
    simp
theorem rfcheck_eq (kd fr sl g : Int) : palletref08_Check.f kd fr sl g = some (if Fok kd fr sl then 0 else 1) := by
  have j : (if fr < 0 then some (1 : Int) else if fr > 15 then some 1 else if sl > 4294967296 then some 1 else some 0) = some (if 0 ≤ fr ∧ fr < 16 ∧ sl ≤ 4294967296 then 0 else 1) := by
    by_cases h1 : fr < 0
    · rw [if_pos h1, if_neg (by omega)]
    rw [if_neg h1]
    by_cases h2 : fr > 15
    · rw [if_pos h2, if_neg (by omega)]
    rw [if_neg h2]
    by_cases h3 : sl > 4294967296
    · rw [if_pos h3, if_neg (by omega)]
    rw [if_neg h3, if_pos ⟨by omega, by omega, by omega⟩]
  unfold palletref08_Check.f Fok
  rw [j]
  by_cases h1 : kd = 1
  · simp [h1]
  · by_cases h2 : kd = 2
    · simp [h2]
    · simp [h1, h2]
theorem rjudge_eq {k : Nat} (hk : 7 ≤ k) {m : Nat} (hm : m < 65536) (h0 : 0 ≤ x) (kd fr sl g : Int) : palletref10_Judge.f k n s l f w me m x kd fr sl g =
    some (if MGood n s l f w x me ∧ Fok kd fr sl then (if fr = x % n ∧ sl = x then vd m me.toNat (x % n).toNat g else 3, 0) else (0, 1)) := by
  obtain ⟨k, rfl⟩ : ∃ j, k = j + 2 := ⟨k - 2, by omega⟩
  unfold palletref10_Judge.f
  rw [rmay (by omega) h0]
  simp only [Option.bind_some]
  have no : ∀ o : Int, palletref10_Judge.j0 (k + 2) me m x o true kd fr sl g = some (0, 1) := fun o => by simp [palletref10_Judge.j0]
  by_cases hg : MGood n s l f w x me
  · have hn := hg.1.2.1
    obtain ⟨o, ho, ho2⟩ := owner_nat hg.1 h0
    obtain ⟨me', rfl⟩ : ∃ j : Nat, me = j := ⟨me.toNat, by have := hg.2.2.1; omega⟩
    have hme : me' < 16 := by have := hg.2.2.2; omega
    have hy : Ok n s l f w ∧ x ≤ 4294967296 := ⟨hg.1, hg.2.1⟩
    have hd : decide (0 ≤ (me' : Int) ∧ (me' : Int) < n) = true := decide_eq_true hg.2.2
    rw [if_pos hy, hd, if_pos rfl, rfcheck_eq, Option.bind_some]
    by_cases hf : Fok kd fr sl
    · have hr : MGood n s l f w x me' ∧ Fok kd fr sl := ⟨hg, hf⟩
      rw [if_pos hf, if_pos hr, ho, Int.toNat_natCast, Int.toNat_natCast]
      simp only [palletref10_Judge.j0]
      have fin : ∀ b, palletref10_Judge.j1 (k + 1) me' m o b kd fr sl g = some (if b = false then vd m me' o g else 3, 0) := by
        intro b
        simp only [palletref10_Judge.j1]
        cases b
        · rw [if_neg (by decide), if_pos rfl, rwith_eq hm ho2, Option.bind_some]
          unfold vd
          by_cases h1 : g = (wi m o : Nat)
          · rw [if_pos h1, if_pos h1]
          rw [if_neg h1, if_neg h1]
          by_cases h2 : me' = o
          · have h2' : (me' : Int) = o := by omega
            rw [if_pos h2', if_neg (fun q => q.1 h2)]
          have h2' : ¬ (me' : Int) = o := by omega
          rw [if_neg h2', rhas_eq hm hme, Option.bind_some]
          by_cases h3 : m.testBit me' = true
          · rw [if_pos h3, rwithout_eq hm hme, Option.bind_some, rwith_eq (wo_lt hm) ho2, Option.bind_some, wi_wo hm hme ho2 h2]
            by_cases h4 : g = (wo (wi m o) me' : Nat)
            · rw [if_pos h4, if_pos ⟨h2, h3, h4⟩]
            · rw [if_neg h4, if_neg (fun q => h4 q.2.2)]
          · rw [if_neg h3, if_neg (fun q => h3 q.2.1)]
        · simp
      rw [fin, fin, if_neg (by decide)]
      by_cases h1 : fr = o
      · rw [if_pos h1]
        by_cases h2 : sl = x
        · have e : (sl != x) = false := by simp [h2]
          rw [e, if_pos rfl, if_pos ⟨h1, h2⟩]
        · have e : (sl != x) = true := bne_iff_ne.2 h2
          rw [e, if_neg (by decide), if_neg (fun q => h2 q.2)]
      · rw [if_neg h1, if_neg (show ¬ true = false by decide), if_neg (fun q => h1 q.1)]
    · have hr : ¬ (MGood n s l f w x me' ∧ Fok kd fr sl) := fun q => hf q.2
      rw [if_neg hf, if_neg hr, show ((1 : Int) != 0) = true by decide, no]
  · have hr : ¬ (MGood n s l f w x me ∧ Fok kd fr sl) := fun q => hg q.1
    rw [if_neg hr]
    by_cases hy : Ok n s l f w ∧ x ≤ 4294967296
    · rw [if_pos hy, decide_eq_false (fun q => hg ⟨hy.1, hy.2, q⟩), if_neg (fun q : false = true => Bool.noConfusion q), no]
    · rw [if_neg hy, if_neg (by decide), no]
theorem rafter_eq {k : Nat} (hk : 7 ≤ k) {m : Nat} (hm : m < 65536) (h0 : 0 ≤ x) (v : Int) : palletref10_After.f k n s l f w me m x v =
    some (if MGood n s l f w x me ∧ 0 ≤ v ∧ v ≤ 3 then (((aft m me.toNat (x % n).toNat v : Nat) : Int), 0) else (0, 1)) := by
  obtain ⟨k, rfl⟩ : ∃ j, k = j + 2 := ⟨k - 2, by omega⟩
  unfold palletref10_After.f
  rw [rmay (by omega) h0]
  simp only [Option.bind_some]
  have no : ∀ o : Int, palletref10_After.j0 (k + 2) me m v o true = some (0, 1) := fun o => by simp [palletref10_After.j0]
  by_cases hg : MGood n s l f w x me
  · have hn := hg.1.2.1
    obtain ⟨o, ho, ho2⟩ := owner_nat hg.1 h0
    obtain ⟨me', rfl⟩ : ∃ j : Nat, me = j := ⟨me.toNat, by have := hg.2.2.1; omega⟩
    have hme : me' < 16 := by have := hg.2.2.2; omega
    have hy : Ok n s l f w ∧ x ≤ 4294967296 := ⟨hg.1, hg.2.1⟩
    have hd : decide (0 ≤ (me' : Int) ∧ (me' : Int) < n) = true := decide_eq_true hg.2.2
    rw [if_pos hy, hd, if_pos rfl]
    by_cases hv : 0 ≤ v ∧ v ≤ 3
    · have hr : MGood n s l f w x me' ∧ 0 ≤ v ∧ v ≤ 3 := ⟨hg, hv⟩
      have hv0 : ¬ v < 0 := by omega
      rw [if_pos hr, if_neg hv0, decide_eq_false (show ¬ v > 3 by omega), ho, Int.toNat_natCast, Int.toNat_natCast]
      simp only [palletref10_After.j0]
      rw [if_neg (by decide)]
      unfold aft
      by_cases h1 : me' = o
      · have h1' : (o : Int) = me' := by omega
        rw [if_pos h1', if_pos h1]
        simp only [palletref10_After.j1]
        rw [if_pos trivial, rwith_eq hm ho2]
        rfl
      have h1' : ¬ (o : Int) = me' := by omega
      rw [if_neg h1', if_neg h1]
      simp only [palletref10_After.j1]
      by_cases h2 : v = 1
      · rw [if_pos h2, if_pos (by simp [h2]), rwith_eq hm ho2]
        rfl
      rw [if_neg h2, if_neg (by simp [h2])]
      by_cases h3 : v = 2
      · rw [if_pos h3, if_pos h3, rwith_eq hm ho2, Option.bind_some, rwithout_eq (wi_lt hm) hme]
        rfl
      rw [if_neg h3, if_neg h3, rwithout_eq hm ho2]
      rfl
    · have hr : ¬ (MGood n s l f w x me' ∧ 0 ≤ v ∧ v ≤ 3) := fun q => hv q.2
      rw [if_neg hr]
      by_cases h1 : v < 0
      · rw [if_pos h1, no]
      · rw [if_neg h1, decide_eq_true (show v > 3 by omega), no]
  · have hr : ¬ (MGood n s l f w x me ∧ 0 ≤ v ∧ v ≤ 3) := fun q => hg q.1
    rw [if_neg hr]
    by_cases hy : Ok n s l f w ∧ x ≤ 4294967296
    · rw [if_pos hy, decide_eq_false (fun q => hg ⟨hy.1, hy.2, q⟩), if_neg (fun q : false = true => Bool.noConfusion q), no]
    · rw [if_neg hy, if_neg (by decide), no]
end
/-- A tally behind one more. -/
def Cok (g b v : Int) : Prop := 0 ≤ v ∧ v ≤ 3 ∧ 0 ≤ g ∧ 0 ≤ b ∧ g ≤ 1073741824 ∧ b ≤ 1073741824
instance (g b v : Int) : Decidable (Cok g b v) := by unfold Cok; infer_instance
def cnt (g b v : Int) : Int × Int × Int := if Cok g b v then (if v = 1 ∨ v = 2 then (mn (wrap64 (g + 1)) 1073741824, b, 0) else if v = 3 then (g, mn (wrap64 (b + 1)) 1073741824, 0) else (g, b, 0)) else (0, 0, 1)
theorem cnt_eq {k : Nat} (hk : 2 ≤ k) (g b v : Int) : member_Count.f k g b v = some (cnt g b v) := by
  obtain ⟨k, rfl⟩ : ∃ m, k = m + 2 := ⟨k - 2, by omega⟩
  unfold member_Count.f cnt
  have no : member_Count.j0 (k + 2) v true g b = some (0, 0, 1) := by simp [member_Count.j0]
  have yes : member_Count.j0 (k + 2) v false g b = some (if v = 1 ∨ v = 2 then (mn (wrap64 (g + 1)) 1073741824, b, 0) else if v = 3 then (g, mn (wrap64 (b + 1)) 1073741824, 0) else if v = 0 then (g, b, 0) else (0, 0, 1)) := by
    simp only [member_Count.j0, member_Count.j1]
    rw [if_neg (by decide)]
    by_cases h0 : v = 0
    · subst h0; simp
    by_cases h1 : v = 1
    · subst h1; simp
    by_cases h2 : v = 2
    · subst h2; simp
    by_cases h3 : v = 3
    · subst h3; simp
    · simp [h0, h1, h2, h3]
  by_cases m1 : mn g b < 0
  · have hc : ¬ Cok g b v := fun q => by have := q.2.2.1; have := q.2.2.2.1; unfold mn at m1; split at m1 <;> omega
    rw [if_pos m1, no, if_neg hc]
  rw [if_neg m1]
  by_cases m2 : mx g b > 1073741824
  · have hc : ¬ Cok g b v := fun q => by have := q.2.2.2.2.1; have := q.2.2.2.2.2; unfold mx at m2; split at m2 <;> omega
    rw [decide_eq_true m2, no, if_neg hc]
  rw [decide_eq_false m2, yes]
  have hb : 0 ≤ g ∧ 0 ≤ b ∧ g ≤ 1073741824 ∧ b ≤ 1073741824 := by
    unfold mn at m1
    unfold mx at m2
    split at m1 <;> split at m2 <;> omega
  by_cases hv : 0 ≤ v ∧ v ≤ 3
  · have hc : Cok g b v := ⟨hv.1, hv.2, hb⟩
    rw [if_pos hc]
    by_cases h1 : v = 1 ∨ v = 2
    · rw [if_pos h1, if_pos h1]
    rw [if_neg h1, if_neg h1]
    by_cases h3 : v = 3
    · rw [if_pos h3, if_pos h3]
    · rw [if_neg h3, if_neg h3, if_pos (by omega)]
  · have hc : ¬ Cok g b v := fun q => hv ⟨q.1, q.2.1⟩
    rw [if_neg hc, if_neg (by omega), if_neg (by omega), if_neg (by omega)]
theorem rcnt_eq {k : Nat} (hk : 2 ≤ k) (g b v : Int) : palletref10_Count.f k g b v = some (cnt g b v) := by
  obtain ⟨k, rfl⟩ : ∃ m, k = m + 2 := ⟨k - 2, by omega⟩
  have no : palletref10_Count.j0 (k + 2) v true g b = some (0, 0, 1) := by simp [palletref10_Count.j0]
  unfold palletref10_Count.f
  by_cases hc : Cok g b v
  · obtain ⟨a1, a2, a3, a4, a5, a6⟩ := id hc
    unfold cnt
    rw [if_pos hc, if_neg (by omega), if_neg (by omega), if_neg (by omega), if_neg (by omega), if_neg (by omega), decide_eq_false (by omega)]
    simp only [palletref10_Count.j0, palletref10_Count.j1]
    have hv : v = 0 ∨ v = 1 ∨ v = 2 ∨ v = 3 := by omega
    rcases hv with rfl | rfl | rfl | rfl <;> simp
  · have e : cnt g b v = (0, 0, 1) := by unfold cnt; rw [if_neg hc]
    rw [e]
    by_cases h1 : v < 0
    · rw [if_pos h1, no]
    rw [if_neg h1]
    by_cases h2 : v > 3
    · rw [if_pos h2, no]
    rw [if_neg h2]
    by_cases h3 : g < 0
    · rw [if_pos h3, no]
    rw [if_neg h3]
    by_cases h4 : b < 0
    · rw [if_pos h4, no]
    rw [if_neg h4]
    by_cases h5 : g > 1073741824
    · rw [if_pos h5, no]
    rw [if_neg h5, decide_eq_true (by by_cases q : b > 1073741824; exact q; exact absurd ⟨by omega, by omega, by omega, by omega, by omega, by omega⟩ hc), no]
end Go.Proofs.Ytcanccdhedmdmaa.Mem
