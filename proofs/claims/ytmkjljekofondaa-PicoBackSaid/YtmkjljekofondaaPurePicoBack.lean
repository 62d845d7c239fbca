/- What was added is taken away again; what is written is read as it was. Conditions: none but that each number is of its kind. -/
import Derived.Test.YtmkjljekofondaaScale01
import Derived.Test.YtmkjljekofondaaLive01
import Derived.Test.YtmkjljekofondaaText01
import Derived.Test.YtmkjljekofondaaPrint0
import Derived.Test.YtmkjljekofondaaPrint6
import Derived.Test.YtmkjljekofondaaPrint19
set_option linter.unusedVariables false
set_option linter.unusedSimpArgs false
namespace Go.Proofs.Ytmkjljekofondaa.Pure
open Go.RowKit Go.Proofs.Ytmkjljekofondaa.Print Go.Proofs.YtmkjljekofondaaW.PrintWords Go.Proofs.YtmkjljekofondaaW.PrintLast Go.Proofs.YtmkjljekofondaaW.PrintMore
open Go Go.Proofs.Ytmkjljekofondaa.Medl Go.Proofs.Ytmkjljekofondaa.Scale01 Go.Proofs.Ytmkjljekofondaa.Text01
theorem sc_unit {V P : Nat} (b : Bool) (h : V * P ≤ 1152921504606846976) (hP : 0 < P) (hp : P ≤ 1000000000000) : sc (if b = true then -(V : Int) else (V : Int)) (P : Int) 1 = ((if b = true then -((V * P : Nat) : Int) else ((V * P : Nat) : Int)), 0, 0) := by
  have hV : V ≤ V * P := Nat.le_mul_of_pos_right _ hP
  have e : (if b = true then -(V : Int) else (V : Int)) * (P : Int) = (if b = true then -((V * P : Nat) : Int) else ((V * P : Nat) : Int)) := by
    cases b <;> simp [Int.neg_mul]
  unfold sc
  rw [e, Int.ediv_one, Int.emod_one]
  have t1 : Tm (if b = true then -(V : Int) else (V : Int)) := by unfold Tm; split <;> omega
  have t2 : Tm (if b = true then -((V * P : Nat) : Int) else ((V * P : Nat) : Int)) := by unfold Tm; split <;> omega
  rw [if_pos ⟨t1, by unfold Tm; omega, by unfold Tm; omega, by decide⟩, if_pos t2]
theorem pos_unit (u : Nat) : 0 < unitPs u ∧ unitPs u ≤ 1000000000000 := by
  match u with
  | 0 => decide
  | 1 => decide
  | 2 => decide
  | 3 => decide
  | n + 4 => show 0 < 1 ∧ 1 ≤ 1000000000000; decide
theorem back_j0 {k : Nat} (hk : 2200 ≤ k) (a : Int) : palletlaw01_PicoBack.j0 k a true = some true := by
  obtain ⟨k, rfl⟩ : ∃ m, k = m + 1 := ⟨k - 1, by omega⟩
  simp only [palletlaw01_PicoBack.j0]
  by_cases ha : Tm a
  · obtain ⟨u, hu, hm, e⟩ := text_eq (k := k) (by omega) a ha
    have A := ab_tm ha
    obtain ⟨m, em⟩ : ∃ m : Nat, ab a = m := ⟨(ab a).toNat, by omega⟩
    obtain ⟨hP, hp⟩ := pos_unit u
    rw [em, Int.toNat_natCast] at hm e
    have hV : m / unitPs u * unitPs u = m := Nat.div_mul_cancel (Nat.dvd_of_mod_eq_zero hm)
    have hle : m / unitPs u ≤ m := Nat.div_le_self _ _
    have hl := dg_len 19 (m / unitPs u) (Nat.lt_of_lt_of_le (show m / unitPs u < 18446744073709551616 by omega) (by decide))
    rw [e, Option.bind_some]
    simp only [if_true]
    rw [List.append_assoc, read_eq (by omega) _ _ u hu (dg_dig _) (by omega) (by omega) (by rw [dl_dg]; omega), dl_dg, sc_unit _ (by omega) hP hp, hV, Option.bind_some]
    unfold rp
    simp only [if_true]
    rw [if_pos]
    · rfl
    · rw [← em]
      unfold ab
      by_cases c : a < 0
      · rw [decide_eq_true c, if_pos rfl, if_pos c]
        omega
      · rw [decide_eq_false c, if_neg (by decide), if_neg c]
  · have e : pico_Text.f k a = some ((⟨#[]⟩ : ByteArray), 1) := by
      unfold pico_Text.f
      rw [may_one (by omega), Option.bind_some, decide_eq_false ha, if_neg (by decide)]
    rw [e, Option.bind_some, may_one (by omega), decide_eq_false ha]
    simp
theorem PicoBack : ∀ (a0 : Int) (a1 : Int), (Lit.int .i64 a0).wf = true → (Lit.int .i64 a1).wf = true → ∃ k, palletlaw01_PicoBack.f k a0 a1 = some true := by
  intro a b _ _
  obtain ⟨k, hk⟩ : ∃ k : Nat, k = 3000 := ⟨_, rfl⟩
  refine ⟨k, ?_⟩
  unfold palletlaw01_PicoBack.f
  rw [live1 (by omega), Option.bind_some, if_pos rfl, add_eq (by omega), add_eq (by omega), Option.bind_some, back_j0 (by omega)]
  by_cases h : (Tm a ∧ Tm b) ∧ Tm (a + b)
  · obtain ⟨⟨ha, hb⟩, hs⟩ := h
    rw [Int.add_comm b a]
    simp only [ha, hb, hs, and_self, if_true]
    rw [sub_eq (by omega), show a + b - b = a by omega]
    simp [ha, hb, hs]
  · by_cases h1 : Tm a ∧ Tm b
    · rw [if_pos h1, if_neg (fun q => h ⟨h1, q⟩)]
      simp
    · rw [if_neg h1]
      simp
end Go.Proofs.Ytmkjljekofondaa.Pure
