/- Each unit is a thousand of the one below; so many of a unit are read as so many times it, with noughts ahead, too. Conditions: none but that each number is of its kind. -/
import Derived.Test.YtmkjljekofondaaScale01
import Derived.Test.YtmkjljekofondaaLive01
import Derived.Test.YtmkjljekofondaaText01
import Derived.Test.YtmkjljekofondaaPrint0
import Derived.Test.YtmkjljekofondaaPrint17
import Derived.Test.YtmkjljekofondaaPrint18
set_option linter.unusedVariables false
set_option linter.unusedSimpArgs false
namespace Go.Proofs.Ytmkjljekofondaa.Pure
open Go.RowKit Go.Proofs.Ytmkjljekofondaa.Print Go.Proofs.YtmkjljekofondaaW.PrintWords Go.Proofs.YtmkjljekofondaaW.PrintLast Go.Proofs.YtmkjljekofondaaW.PrintMore
open Go Go.Proofs.Ytmkjljekofondaa.Medl Go.Proofs.Ytmkjljekofondaa.Scale01 Go.Proofs.Ytmkjljekofondaa.Text01
theorem sc_u (V P : Nat) (h : V * P ≤ 1152921504606846976) (hP : 0 < P) (hp : P ≤ 1000000000000) : rp (sc (V : Int) (P : Int) 1) = (((V * P : Nat) : Int), 0) := by
  have hV : V ≤ V * P := Nat.le_mul_of_pos_right _ hP
  unfold sc
  rw [Int.ediv_one, Int.emod_one, ← Int.natCast_mul, if_pos ⟨by unfold Tm; omega, by unfold Tm; omega, by unfold Tm; omega, by decide⟩, if_pos (by unfold Tm; omega)]
  rfl
theorem pos_u (u : Nat) : 0 < unitPs u ∧ unitPs u ≤ 1000000000000 := by
  match u with
  | 0 => decide
  | 1 => decide
  | 2 => decide
  | 3 => decide
  | n + 4 => show 0 < 1 ∧ 1 ≤ 1000000000000; decide
abbrev UL : List ByteArray := [(⟨#[112, 115]⟩ : ByteArray), (⟨#[110, 115]⟩ : ByteArray), (⟨#[117, 115]⟩ : ByteArray), (⟨#[109, 115]⟩ : ByteArray), (⟨#[115]⟩ : ByteArray)]
theorem UL_rd (i : Nat) (hi : i ≤ 4) : rdOf ByteArray.empty UL (i : Int) = bs (unitName (4 - i)) := by
  have : i = 0 ∨ i = 1 ∨ i = 2 ∨ i = 3 ∨ i = 4 := by omega
  rcases this with rfl | rfl | rfl | rfl | rfl <;> rfl
theorem nought (j : Nat) (hj : j ≤ 10) : dl (List.replicate j 48 ++ [50, 53]) = 25 := by
  have h : ∀ j : Fin 11, dl (List.replicate j.val 48 ++ [50, 53]) = 25 := by decide
  exact h ⟨j, by omega⟩
theorem rd_1m {k : Nat} (hk : 100 ≤ k) : pico_Read.f k (⟨#[49, 109]⟩ : ByteArray) = some (0, 4) := at_rounds (fun k => pico_Read.mono _ k) hk (by decide +kernel)
theorem name_len (u : Nat) : 1 ≤ (unitName u).length ∧ (unitName u).length ≤ 2 := by
  match u with
  | 0 => decide
  | 1 => decide
  | 2 => decide
  | 3 => decide
  | n + 4 => show 1 ≤ 2 ∧ 2 ≤ 2; decide
theorem unit_step {k : Nat} (hk : 2200 ≤ k) (n x : Int) (hn : -2147483648 ≤ n ∧ n ≤ 2147483647) (hx : 0 ≤ x ∧ x ≤ 255) (last : Int) (i : Nat) (hi : i ≤ 4) (hlast : i = 0 ∨ ((unitPs (4 - i) : Int) = 1000 * last ∧ 0 ≤ last ∧ last ≤ 1000000000000)) :
    palletlaw01_PicoUnits.l0 (k + 3) n x true last UL 5 (i : Int) = palletlaw01_PicoUnits.l0 k n x true (unitPs (4 - i)) UL 5 ((i + 1 : Nat) : Int) := by
  obtain ⟨hP, hp⟩ := pos_u (4 - i)
  obtain ⟨hn1, hn2⟩ := name_len (4 - i)
  have ht : Tm n := by unfold Tm; omega
  obtain ⟨u, hu, hm, et⟩ := text_eq (k := k + 1) (by omega) n ht
  have hdl := dg_len 19 ((ab n).toNat / unitPs u) (by
    have := Nat.div_le_self (ab n).toNat (unitPs u)
    have hA := ab_tm ht
    exact Nat.lt_of_lt_of_le (show (ab n).toNat / unitPs u < 18446744073709551616 by omega) (by decide))
  have r1 := read_eq (k := k) (by omega) false [49] (4 - i) (by omega) (by intro y hy; simp at hy; omega) (by simp) (by simp) (by decide)
  obtain ⟨j, hj⟩ : ∃ j : Nat, x % 11 = j := ⟨(x % 11).toNat, by omega⟩
  have r2 := read_eq (k := k) (by omega) false (List.replicate j 48 ++ [50, 53]) (4 - i) (by omega) (by
    intro y hy
    rcases List.mem_append.1 hy with h | h
    · have := (List.mem_replicate.1 h).2
      omega
    · simp at h
      omega) (by simp) (by simp; omega) (by rw [nought j (by omega)]; decide)
  rw [if_neg (by decide), sc_u _ _ (by rw [show dl [49] = 1 by decide]; omega) hP hp, show dl [49] = 1 by decide] at r1
  rw [if_neg (by decide), nought j (by omega), sc_u _ _ (by omega) hP hp] at r2
  have e1 : (⟨#[49]⟩ : ByteArray) ++ bs (unitName (4 - i)) = bs (sg false ++ ([49] ++ unitName (4 - i))) := bs_append [49] _
  have e2 : ((⟨#[48, 48, 48, 48, 48, 48, 48, 48, 48, 48]⟩ : ByteArray).extract 0 ((j : Int)).toNat ++ (⟨#[50, 53]⟩ : ByteArray)) ++ bs (unitName (4 - i)) = bs (sg false ++ ((List.replicate j 48 ++ [50, 53]) ++ unitName (4 - i))) := by
    have e3 : (⟨#[48, 48, 48, 48, 48, 48, 48, 48, 48, 48]⟩ : ByteArray) = bs (List.replicate 10 48) := rfl
    rw [e3, bs_extract, Int.toNat_natCast, List.take_replicate, Nat.min_eq_left (by omega), List.drop_zero, show (⟨#[50, 53]⟩ : ByteArray) = bs [50, 53] from rfl, bs_append, bs_append]
    rfl
  have tail : ∀ bad : Bool, bad = false → palletlaw01_PicoUnits.j1 (k + 2) n x true (bs (unitName (4 - i))) (unitPs (4 - i)) UL 5 (i : Int) bad = palletlaw01_PicoUnits.l0 k n x true (unitPs (4 - i)) UL 5 ((i + 1 : Nat) : Int) := by
    intro bad hb
    rw [hb, palletlaw01_PicoUnits.j1, if_neg (by decide), w64 (x := n) (by omega) (by omega), et, Option.bind_some]
    simp only [if_true]
    have hsz : decide ((((bs (sg (decide (n < 0)) ++ dg ((ab n).toNat / unitPs u) ++ unitName u)).size : Nat) : Int) < 2) = false := by
      have := name_len u
      rw [bs_size, List.length_append, List.length_append, decide_eq_false (by omega)]
    have hsz2 : ((⟨#[48, 48, 48, 48, 48, 48, 48, 48, 48, 48]⟩ : ByteArray).extract 0 ((j : Int)).toNat).size = j := by
      rw [show (⟨#[48, 48, 48, 48, 48, 48, 48, 48, 48, 48]⟩ : ByteArray) = bs (List.replicate 10 48) from rfl, bs_extract, Int.toNat_natCast, List.take_replicate, Nat.min_eq_left (by omega), List.drop_zero, bs_size, List.length_replicate]
    rw [hsz, palletlaw01_PicoUnits.j2, if_neg (by decide), bs_size, if_pos (by omega), e1, r1, Option.bind_some, Int.tmod_eq_emod_of_nonneg hx.1, hj, if_pos (by omega), if_pos (by omega), hsz2, if_pos (by omega), ByteArray.size_append, hsz2, if_pos (by show j + 2 + _ ≤ _; omega), e2, r2, Option.bind_some]
    simp only [if_true]
    rw [if_pos (by omega), w64 (x := 25 * ((unitPs (4 - i) : Nat) : Int)) (by omega) (by omega), if_pos (by omega), w64 (by omega) (by omega), show (i : Int) + 1 = ((i + 1 : Nat) : Int) by omega]
  rw [palletlaw01_PicoUnits.l0, if_pos (by omega), if_pos (by omega), if_pos (by show (i : Int) < 5; omega), UL_rd i hi, Unit_eq _ (by omega), Option.bind_some]
  simp only [if_true]
  by_cases c : (i : Int) > 0
  · rw [if_pos c]
    refine tail _ ?_
    have h2 := hlast.resolve_left (by omega)
    rw [w64 (by omega) (by omega), ← h2.1]
    simp
  · rw [if_neg c]
    exact tail _ rfl
theorem PicoUnits : ∀ (a0 : Int) (a1 : Int), (Lit.int .i32 a0).wf = true → (Lit.int .u8 a1).wf = true → ∃ k, palletlaw01_PicoUnits.f k a0 a1 = some true := by
  intro n x hn hx
  have hn := wf32 hn
  have hx := wfu8 hx
  obtain ⟨k, hk⟩ : ∃ k : Nat, k = 3000 := ⟨_, rfl⟩
  refine ⟨k + 1 + 15, ?_⟩
  unfold palletlaw01_PicoUnits.f
  rw [live1 (by omega), Option.bind_some, if_pos rfl, Option.bind_some]
  show palletlaw01_PicoUnits.l0 (k + 1 + 15) n x true 0 UL 5 ((0 : Nat) : Int) = some true
  rw [show k + 1 + 15 = (k + 1 + 12) + 3 by omega, unit_step (by omega) n x hn hx 0 0 (by decide) (Or.inl rfl),
    show k + 1 + 12 = (k + 1 + 9) + 3 by omega, unit_step (by omega) n x hn hx _ (0 + 1) (by decide) (Or.inr (by decide)),
    show k + 1 + 9 = (k + 1 + 6) + 3 by omega, unit_step (by omega) n x hn hx _ (0 + 1 + 1) (by decide) (Or.inr (by decide)),
    show k + 1 + 6 = (k + 1 + 3) + 3 by omega, unit_step (by omega) n x hn hx _ (0 + 1 + 1 + 1) (by decide) (Or.inr (by decide)),
    unit_step (by omega) n x hn hx _ (0 + 1 + 1 + 1 + 1) (by decide) (Or.inr (by decide)), palletlaw01_PicoUnits.l0, if_neg (by decide), rd_1m (by omega)]
  rfl
end Go.Proofs.Ytmkjljekofondaa.Pure
