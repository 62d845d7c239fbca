/- A time's text, and its reading (layer 1), as printed. -/
import Derived.Test.YtmkjljekofondaaScale01
import Derived.Test.YtmkjljekofondaaLive01
import Derived.Lib.Bytes
import Derived.Test.YtmkjljekofondaaPrint0
import Derived.Test.YtmkjljekofondaaPrint5
import Derived.Test.YtmkjljekofondaaPrint6
import Derived.Test.YtmkjljekofondaaPrint12
import Derived.Test.YtmkjljekofondaaPrint16
import Derived.Test.YtmkjljekofondaaPrint17
set_option linter.unusedVariables false
set_option linter.unusedSimpArgs false
namespace Go.Proofs.Ytmkjljekofondaa.Text01
open Go Go.RowKit Go.Proofs.Ytmkjljekofondaa.Print Go.Proofs.YtmkjljekofondaaW.PrintWords Go.Proofs.YtmkjljekofondaaW.PrintLast Go.Proofs.YtmkjljekofondaaW.PrintMore Go.Proofs.Ytmkjljekofondaa.Medl Go.Proofs.Ytmkjljekofondaa.Scale01
/-- A text out of numbers. -/
def bs (l : List Nat) : ByteArray := ⟨(l.map UInt8.ofNat).toArray⟩
def cn (l : List Nat) : List Int := l.map fun a : Nat => (a : Int)
def By (l : List Nat) : Prop := ∀ x ∈ l, x < 256
theorem nums_bs (l : List Nat) : strOfNums (cn l) = bs l := by
  unfold strOfNums cn bs
  rw [List.map_map]
  congr 2
theorem bs_size (l : List Nat) : (bs l).size = l.length := by simp [bs, ByteArray.size]
theorem bs_append (l m : List Nat) : bs l ++ bs m = bs (l ++ m) := by
  apply ByteArray.ext
  rw [ByteArray.data_append]
  simp [bs]
theorem bs_extract (l : List Nat) (i j : Nat) : (bs l).extract i j = bs ((l.take j).drop i) := by
  apply ByteArray.ext
  rw [ByteArray.data_extract]
  simp [bs, List.map_drop, List.map_take, List.extract_eq_take_drop, List.drop_take]
theorem bs_toList (l : List Nat) : (bs l).toList = l.map UInt8.ofNat := by
  rw [← nums_bs, Go.Lib.strOfNums_toList]
  unfold Go.Lib.bytesOf cn
  rw [List.map_map]
  rfl
theorem ofNat_inj {l m : List Nat} (hl : By l) (hm : By m) (h : l.map UInt8.ofNat = m.map UInt8.ofNat) : l = m := by
  induction l generalizing m with
  | nil => cases m with
    | nil => rfl
    | cons b m => simp at h
  | cons a l ih =>
    cases m with
    | nil => simp at h
    | cons b m =>
      simp only [List.map_cons, List.cons.injEq] at h
      have e := UInt8.toNat_inj.2 h.1
      have h1 := hl a (by simp)
      have h2 := hm b (by simp)
      rw [UInt8.toNat_ofNat', UInt8.toNat_ofNat', Nat.mod_eq_of_lt h1, Nat.mod_eq_of_lt h2] at e
      rw [e, ih (fun c hc => hl c (by simp [hc])) (fun c hc => hm c (by simp [hc])) h.2]
theorem bt_bs {l : List Nat} (hl : By l) (i : Nat) (hi : i < l.length) : bt (bs l) (i : Int) = ((l.getD i 0 : Nat) : Int) := by
  unfold bt
  rw [dif_pos (by rw [Int.toNat_natCast, bs_size]; exact hi)]
  simp only [Int.toNat_natCast]
  rw [ByteArray.getElem_eq_getElem_data]
  simp only [bs, List.getElem_toArray, List.getElem_map]
  rw [List.getD_eq_getElem?_getD, List.getElem?_eq_getElem hi]
  have := hl _ (List.getElem_mem hi)
  rw [UInt8.toNat_ofNat', Nat.mod_eq_of_lt this]
  rfl
/-- A number's digits. -/
def dg (n : Nat) : List Nat := if n < 10 then [48 + n] else dg (n / 10) ++ [48 + n % 10]
termination_by n
theorem dg_small {n : Nat} (h : n < 10) : dg n = [48 + n] := by rw [dg, if_pos h]
theorem dg_step {n : Nat} (h : ¬ n < 10) : dg n = dg (n / 10) ++ [48 + n % 10] := by rw [dg, if_neg h]
theorem dg_dig (n : Nat) : ∀ x ∈ dg n, 48 ≤ x ∧ x ≤ 57 := by
  induction n using Nat.strongRecOn with
  | _ n ih =>
    by_cases h : n < 10
    · rw [dg_small h]
      intro x hx
      simp at hx
      omega
    · rw [dg_step h]
      intro x hx
      rcases List.mem_append.1 hx with h1 | h1
      · exact ih (n / 10) (by omega) x h1
      · simp at h1
        omega
theorem dg_len (j : Nat) : ∀ n, n < 10 ^ (j + 1) → 1 ≤ (dg n).length ∧ (dg n).length ≤ j + 1 := by
  induction j with
  | zero =>
    intro n h
    rw [dg_small (by simpa using h)]
    simp
  | succ j ih =>
    intro n h
    by_cases h1 : n < 10
    · rw [dg_small h1]
      simp
    · rw [dg_step h1, List.length_append, List.length_singleton]
      have := ih (n / 10) (by rw [Nat.pow_succ] at h; omega)
      omega
/-- What digits come to. -/
def dl (l : List Nat) : Nat := l.foldl (fun n c => 10 * n + (c - 48)) 0
theorem dl_snoc (l : List Nat) (c : Nat) : dl (l ++ [c]) = 10 * dl l + (c - 48) := by
  unfold dl
  rw [List.foldl_append]
  rfl
theorem dl_dg (n : Nat) : dl (dg n) = n := by
  induction n using Nat.strongRecOn with
  | _ n ih =>
    by_cases h : n < 10
    · rw [dg_small h]
      simp [dl]
    · rw [dg_step h, dl_snoc, ih (n / 10) (by omega)]
      omega
theorem digits_eq (j : Nat) : ∀ (k n : Nat) (l : List Int), n < 10 ^ (j + 1) → n < 18446744073709551616 → j < k → l.length ≤ 1000 → pico_digits.f k l (n : Int) = some (l ++ cn (dg n)) := by
  induction j with
  | zero =>
    intro k n l h hn hk hl
    obtain ⟨k, rfl⟩ : ∃ m, k = m + 1 := ⟨k - 1, by omega⟩
    have h : n < 10 := by simpa using h
    rw [pico_digits.f, if_neg (by omega), if_pos (by omega), dg_small h, Int.tmod_eq_emod_of_nonneg (by omega), show (48 + (n : Int) % 10) % 256 = ((48 + n : Nat) : Int) by omega]
    rfl
  | succ j ih =>
    intro k n l h hn hk hl
    obtain ⟨k, rfl⟩ : ∃ m, k = m + 1 := ⟨k - 1, by omega⟩
    by_cases h1 : n < 10
    · rw [pico_digits.f, if_neg (by omega), if_pos (by omega), dg_small h1, Int.tmod_eq_emod_of_nonneg (by omega), show (48 + (n : Int) % 10) % 256 = ((48 + n : Nat) : Int) by omega]
      rfl
    · have hl' : (dg (n / 10)).length ≤ 20 := (dg_len 19 _ (Nat.lt_of_lt_of_le (show n / 10 < 18446744073709551616 by omega) (by decide))).2
      rw [pico_digits.f, if_pos (by omega), Int.tdiv_eq_ediv_of_nonneg (by omega), Div64.uin (by omega) (by omega), show (n : Int) / 10 = ((n / 10 : Nat) : Int) by omega, ih k (n / 10) l (by rw [Nat.pow_succ] at h; omega) (by omega) (by omega) hl, Option.bind_some, if_pos (by rw [List.length_append]; unfold cn; rw [List.length_map]; omega), dg_step h1, Int.tmod_eq_emod_of_nonneg (by omega), show (48 + (n : Int) % 10) % 256 = ((48 + n % 10 : Nat) : Int) by omega, List.append_assoc]
      unfold cn
      rw [List.map_append]
      rfl
theorem digits' {k : Nat} (hk : 30 ≤ k) (n : Nat) (hn : n < 18446744073709551616) (l : List Int) (hl : l.length ≤ 1000) : pico_digits.f k l (n : Int) = some (l ++ cn (dg n)) :=
  digits_eq 19 k n l (Nat.lt_of_lt_of_le hn (by decide)) hn (by omega) hl
/-- The units. -/
def unitName : Nat → List Nat
  | 0 => [115]
  | 1 => [109, 115]
  | 2 => [117, 115]
  | 3 => [110, 115]
  | _ => [112, 115]
def unitPs : Nat → Nat
  | 0 => 1000000000000
  | 1 => 1000000000
  | 2 => 1000000
  | 3 => 1000
  | _ => 1
theorem unit_by (u : Nat) : By (unitName u) := by
  intro x hx
  match u with
  | 0 => simp [unitName] at hx; omega
  | 1 => simp [unitName] at hx; omega
  | 2 => simp [unitName] at hx; omega
  | 3 => simp [unitName] at hx; omega
  | n + 4 => simp [unitName] at hx; omega
theorem Unit_eq (u : Nat) (hu : u ≤ 4) : pico_Unit.f (bs (unitName u)) = some ((unitPs u : Int), true) := by
  unfold pico_Unit.f
  rw [bs_toList]
  have : u = 0 ∨ u = 1 ∨ u = 2 ∨ u = 3 ∨ u = 4 := by omega
  rcases this with rfl | rfl | rfl | rfl | rfl <;> decide
/-- A time's text. -/
def sg (b : Bool) : List Nat := if b then [45] else []
theorem sg_by (b : Bool) : By (sg b) := by
  cases b
  · intro x hx; cases hx
  · intro x hx; simp [sg] at hx; omega
theorem dig_by {l : List Nat} (h : ∀ x ∈ l, 48 ≤ x ∧ x ≤ 57) : By l := fun x hx => by have := h x hx; omega
theorem by_append {l m : List Nat} (h : By l) (h2 : By m) : By (l ++ m) := fun x hx => (List.mem_append.1 hx).elim (h x) (h2 x)
theorem fin_eq {k : Nat} (hk : 30 ≤ k) (b : Bool) (n : Nat) (hn : n < 18446744073709551616) (u : Nat) (nm : ByteArray) (hnm : nm = bs (unitName u)) (w : Nat) (hw : w ≤ 10) :
    ((pico_digits.f k (cn (sg b)) (n : Int)).bind fun t => if (strOfNums t).size + w ≤ 9223372036854775807 then some (strOfNums t ++ nm, (0 : Int)) else none) = some (bs (sg b ++ dg n ++ unitName u), 0) := by
  have hl : (cn (sg b)).length ≤ 1 := by cases b <;> simp [sg, cn]
  have hl' : (dg n).length ≤ 20 := (dg_len 19 _ (Nat.lt_of_lt_of_le hn (by decide))).2
  have e : cn (sg b) ++ cn (dg n) = cn (sg b ++ dg n) := by unfold cn; rw [List.map_append]
  have hs : (sg b).length ≤ 1 := by cases b <;> simp [sg]
  rw [digits' hk n hn _ (by omega), Option.bind_some, e, nums_bs, bs_size, if_pos (by rw [List.length_append]; omega), hnm, bs_append]
theorem text_eq {k : Nat} (hk : 60 ≤ k) (a : Int) (ha : Tm a) : ∃ u : Nat, u ≤ 4 ∧ (ab a).toNat % unitPs u = 0 ∧ pico_Text.f k a = some (bs (sg (decide (a < 0)) ++ dg ((ab a).toNat / unitPs u) ++ unitName u), 0) := by
  obtain ⟨k, rfl⟩ : ∃ m, k = m + 5 := ⟨k - 5, by omega⟩
  have A := ab_tm ha
  obtain ⟨m, em⟩ : ∃ m : Nat, ab a = m := ⟨(ab a).toNat, by omega⟩
  have fin : ∀ (k u : Nat) (nm : ByteArray) (w : Nat) (P : Nat), 30 ≤ k → nm = bs (unitName u) → unitPs u = P → 0 < P → w ≤ 10 → ((pico_digits.f k (cn (sg (decide (a < 0)))) (IntKind.u64.wrap (Int.tdiv (m : Int) (P : Int)))).bind fun t => if (strOfNums t).size + w ≤ 9223372036854775807 then some (strOfNums t ++ nm, (0 : Int)) else none) = some (bs (sg (decide (a < 0)) ++ dg (m / unitPs u) ++ unitName u), 0) := by
    intro k u nm w P hk hnm hP hp hw
    have hle : m / P ≤ m := Nat.div_le_self _ _
    rw [Int.tdiv_eq_ediv_of_nonneg (by omega), ← Int.natCast_ediv, hP]
    obtain ⟨q, hq⟩ : ∃ q, m / P = q := ⟨_, rfl⟩
    rw [hq] at hle ⊢
    rw [Div64.uin (by omega) (by omega)]
    exact fin_eq hk _ _ (by omega) u nm hnm w hw
  have main : ∃ u : Nat, u ≤ 4 ∧ m % unitPs u = 0 ∧ pico_Text.j0 (k + 5) a (cn (sg (decide (a < 0)))) = some (bs (sg (decide (a < 0)) ++ dg (m / unitPs u) ++ unitName u), 0) := by
    simp only [pico_Text.j0]
    rw [size_eq ha, Option.bind_some, em, Int.tmod_eq_emod_of_nonneg (by omega)]
    have j1 : ∀ x : Prop, True := fun _ => trivial
    by_cases c0 : (m : Int) % 1000000000000 = 0 ∧ (m : Int) > 0
    · rw [if_pos c0.1, if_pos c0.2]
      exact ⟨0, by decide, by show m % 1000000000000 = 0; omega, fin (k + 4) 0 _ 1 1000000000000 (by omega) rfl rfl (by decide) (by decide)⟩
    have s0 : (if (m : Int) % 1000000000000 = 0 then (if (m : Int) > 0 then ((pico_digits.f (k + 4) (cn (sg (decide (a < 0)))) (IntKind.u64.wrap (Int.tdiv (m : Int) 1000000000000))).bind fun t => (if (strOfNums t).size + 1 ≤ 9223372036854775807 then (some ((strOfNums t) ++ (⟨#[115]⟩ : ByteArray), (0 : Int))) else (none))) else (pico_Text.j1 (k + 4) (cn (sg (decide (a < 0)))) (m : Int))) else (pico_Text.j1 (k + 4) (cn (sg (decide (a < 0)))) (m : Int))) = pico_Text.j1 (k + 4) (cn (sg (decide (a < 0)))) (m : Int) := by
      by_cases h1 : (m : Int) % 1000000000000 = 0
      · rw [if_pos h1, if_neg (fun h => c0 ⟨h1, h⟩)]
      · rw [if_neg h1]
    rw [s0]
    simp only [pico_Text.j1]
    rw [Int.tmod_eq_emod_of_nonneg (by omega)]
    by_cases c1 : (m : Int) % 1000000000 = 0 ∧ (m : Int) > 0
    · rw [if_pos c1.1, if_pos c1.2]
      exact ⟨1, by decide, by show m % 1000000000 = 0; omega, fin (k + 3) 1 _ 2 1000000000 (by omega) rfl rfl (by decide) (by decide)⟩
    have s1 : (if (m : Int) % 1000000000 = 0 then (if (m : Int) > 0 then ((pico_digits.f (k + 3) (cn (sg (decide (a < 0)))) (IntKind.u64.wrap (Int.tdiv (m : Int) 1000000000))).bind fun t => (if (strOfNums t).size + 2 ≤ 9223372036854775807 then (some ((strOfNums t) ++ (⟨#[109, 115]⟩ : ByteArray), (0 : Int))) else (none))) else (pico_Text.j2 (k + 3) (cn (sg (decide (a < 0)))) (m : Int))) else (pico_Text.j2 (k + 3) (cn (sg (decide (a < 0)))) (m : Int))) = pico_Text.j2 (k + 3) (cn (sg (decide (a < 0)))) (m : Int) := by
      by_cases h1 : (m : Int) % 1000000000 = 0
      · rw [if_pos h1, if_neg (fun h => c1 ⟨h1, h⟩)]
      · rw [if_neg h1]
    rw [s1]
    simp only [pico_Text.j2]
    rw [Int.tmod_eq_emod_of_nonneg (by omega)]
    by_cases c2 : (m : Int) % 1000000 = 0 ∧ (m : Int) > 0
    · rw [if_pos c2.1, if_pos c2.2]
      exact ⟨2, by decide, by show m % 1000000 = 0; omega, fin (k + 2) 2 _ 2 1000000 (by omega) rfl rfl (by decide) (by decide)⟩
    have s2 : (if (m : Int) % 1000000 = 0 then (if (m : Int) > 0 then ((pico_digits.f (k + 2) (cn (sg (decide (a < 0)))) (IntKind.u64.wrap (Int.tdiv (m : Int) 1000000))).bind fun t => (if (strOfNums t).size + 2 ≤ 9223372036854775807 then (some ((strOfNums t) ++ (⟨#[117, 115]⟩ : ByteArray), (0 : Int))) else (none))) else (pico_Text.j3 (k + 2) (cn (sg (decide (a < 0)))) (m : Int))) else (pico_Text.j3 (k + 2) (cn (sg (decide (a < 0)))) (m : Int))) = pico_Text.j3 (k + 2) (cn (sg (decide (a < 0)))) (m : Int) := by
      by_cases h1 : (m : Int) % 1000000 = 0
      · rw [if_pos h1, if_neg (fun h => c2 ⟨h1, h⟩)]
      · rw [if_neg h1]
    rw [s2]
    simp only [pico_Text.j3]
    rw [Int.tmod_eq_emod_of_nonneg (by omega)]
    by_cases c3 : (m : Int) % 1000 = 0 ∧ (m : Int) > 0
    · rw [if_pos c3.1, if_pos c3.2]
      exact ⟨3, by decide, by show m % 1000 = 0; omega, fin (k + 1) 3 _ 2 1000 (by omega) rfl rfl (by decide) (by decide)⟩
    have s3 : (if (m : Int) % 1000 = 0 then (if (m : Int) > 0 then ((pico_digits.f (k + 1) (cn (sg (decide (a < 0)))) (IntKind.u64.wrap (Int.tdiv (m : Int) 1000))).bind fun t => (if (strOfNums t).size + 2 ≤ 9223372036854775807 then (some ((strOfNums t) ++ (⟨#[110, 115]⟩ : ByteArray), (0 : Int))) else (none))) else (pico_Text.j4 (k + 1) (cn (sg (decide (a < 0)))) (m : Int))) else (pico_Text.j4 (k + 1) (cn (sg (decide (a < 0)))) (m : Int))) = pico_Text.j4 (k + 1) (cn (sg (decide (a < 0)))) (m : Int) := by
      by_cases h1 : (m : Int) % 1000 = 0
      · rw [if_pos h1, if_neg (fun h => c3 ⟨h1, h⟩)]
      · rw [if_neg h1]
    rw [s3]
    simp only [pico_Text.j4]
    have f4 := fin k 4 (⟨#[112, 115]⟩ : ByteArray) 2 1 (by omega) rfl rfl (by decide) (by decide)
    rw [Int.natCast_one, Int.tdiv_one] at f4
    refine ⟨4, by decide, by show m % 1 = 0; omega, ?_⟩
    by_cases c : (m : Int) > 0
    · rw [if_pos c]
      exact f4
    · rw [if_neg c]
      exact f4
  obtain ⟨u, hu, hm, e⟩ := main
  refine ⟨u, hu, by rw [em, Int.toNat_natCast]; exact hm, ?_⟩
  unfold pico_Text.f
  rw [may_one (by omega), Option.bind_some, decide_eq_true ha, if_pos rfl, em, Int.toNat_natCast]
  by_cases c : a < 0
  · rw [if_pos c, if_pos (by decide)]
    rw [decide_eq_true c] at e ⊢
    exact e
  · rw [if_neg c]
    rw [decide_eq_false c] at e ⊢
    exact e
/-- Reading one. -/
def rp (p : Int × Int × Int) : Int × Int := if p.2.2 = 0 then (p.1, 0) else (0, 2)
theorem mul_eq {k : Nat} (hk : 60 ≤ k) (x y : Int) : pico_Mul.f k x y = some ((sc x y 1).1, (sc x y 1).2.2) := by
  unfold pico_Mul.f
  rw [scale_eq hk]
  rfl
theorem dl_le (l m : List Nat) : dl l ≤ dl (l ++ m) := by
  unfold dl
  rw [List.foldl_append]
  generalize l.foldl (fun n c => 10 * n + (c - 48)) 0 = n
  induction m generalizing n with
  | nil => exact Nat.le_refl _
  | cons c m ih => exact Nat.le_trans (by omega) (ih (10 * n + (c - 48)))
theorem read_l1 {k0 : Nat} (hk : 60 ≤ k0) (ds nm : List Nat) (hd : ∀ x ∈ ds, 48 ≤ x ∧ x ≤ 57) (hnm : By nm) (b : Bool) (ps : Int) (hV : dl ds ≤ 1152921504606846976) (hl : ds.length ≤ 1000) (d : Nat) : ∀ (i : Nat), i ≤ ds.length → ds.length - i = d →
    pico_Read.l1 (k0 + d + 1) (bs (ds ++ nm)) b ps (dl (ds.take i) : Int) (ds.length : Int) (i : Int) = some (rp (sc (if b = true then -(dl ds : Int) else (dl ds : Int)) ps 1)) := by
  induction d with
  | zero =>
    intro i hi hd0
    rw [pico_Read.l1, if_neg (by omega), List.take_of_length_le (by omega), w64 (x := -(dl ds : Int)) (by omega) (by omega), mul_eq (by omega), mul_eq (by omega)]
    unfold rp
    cases b
    · simp only [Bool.false_eq_true, if_false, Option.bind_some]
      split <;> rfl
    · simp only [if_true, Option.bind_some]
      split <;> rfl
  | succ d ih =>
    intro i hi hd0
    have hlt : i < ds.length := by omega
    have hm : ds.getD i 0 ∈ ds := by
      rw [List.getD_eq_getElem?_getD, List.getElem?_eq_getElem hlt]
      exact List.getElem_mem hlt
    have hc := hd _ hm
    have e1 : ds.take (i + 1) = ds.take i ++ [ds.getD i 0] := by
      rw [List.take_add_one, List.getD_eq_getElem?_getD, List.getElem?_eq_getElem hlt]
      rfl
    have e2 : dl (ds.take (i + 1)) = 10 * dl (ds.take i) + (ds.getD i 0 - 48) := by rw [e1, dl_snoc]
    have hle : dl (ds.take (i + 1)) ≤ dl ds := by
      have := dl_le (ds.take (i + 1)) (ds.drop (i + 1))
      rw [List.take_append_drop] at this
      exact this
    have e0 : k0 + (d + 1) + 1 = (k0 + d + 1) + 1 := by omega
    have eg : (ds ++ nm).getD i 0 = ds.getD i 0 := by rw [List.getD_eq_getElem?_getD, List.getElem?_append_left hlt, List.getD_eq_getElem?_getD]
    rw [e0, pico_Read.l1, if_pos (by omega), if_neg (by omega), if_pos (by omega), bs_size, if_pos (by rw [List.length_append]; omega), bt_bs (by_append (dig_by hd) hnm) i (by rw [List.length_append]; omega), eg, w64 (x := 10 * (dl (ds.take i) : Int)) (by omega) (by omega), show 10 * (dl (ds.take i) : Int) + (((ds.getD i 0 : Nat) : Int) - 48) % 256 = ((dl (ds.take (i + 1)) : Nat) : Int) by rw [e2]; omega, w64 (x := ((dl (ds.take (i + 1)) : Nat) : Int)) (by omega) (by omega), if_neg (by omega), w64 (x := (i : Int) + 1) (by omega) (by omega), show (i : Int) + 1 = ((i + 1 : Nat) : Int) by omega]
    exact ih (i + 1) (by omega) (by omega)
theorem read_l0 (k0 : Nat) (ds nm : List Nat) (hd : ∀ x ∈ ds, 48 ≤ x ∧ x ≤ 57) (hnm : By nm) (b : Bool) (hl : ds.length ≤ 1000) (hstop : nm = [] ∨ 57 < nm.getD 0 0) (d : Nat) : ∀ (i : Nat), i ≤ ds.length → ds.length - i = d →
    pico_Read.l0 (k0 + d + 1) (bs (ds ++ nm)) b (i : Int) = pico_Read.j3 k0 (bs (ds ++ nm)) b (ds.length : Int) := by
  induction d with
  | zero =>
    intro i hi hd0
    obtain rfl : i = ds.length := by omega
    rw [pico_Read.l0, bs_size]
    cases nm with
    | nil => rw [if_neg (by rw [List.append_nil]; omega)]
    | cons c nm =>
      have hs : 57 < c := by rcases hstop with h | h; (· cases h); (· exact h)
      rw [if_pos (by rw [List.length_append, List.length_cons]; omega), if_pos (by omega), bt_bs (by_append (dig_by hd) hnm) _ (by rw [List.length_append, List.length_cons]; omega)]
      have eg : (ds ++ c :: nm).getD ds.length 0 = c := by rw [List.getD_eq_getElem?_getD, List.getElem?_append_right (Nat.le_refl _), Nat.sub_self]; rfl
      rw [eg, if_pos (by omega), if_neg (by omega)]
  | succ d ih =>
    intro i hi hd0
    have hlt : i < ds.length := by omega
    have hm : ds.getD i 0 ∈ ds := by
      rw [List.getD_eq_getElem?_getD, List.getElem?_eq_getElem hlt]
      exact List.getElem_mem hlt
    have hc := hd _ hm
    have eg : (ds ++ nm).getD i 0 = ds.getD i 0 := by rw [List.getD_eq_getElem?_getD, List.getElem?_append_left hlt, List.getD_eq_getElem?_getD]
    rw [show k0 + (d + 1) + 1 = (k0 + d + 1) + 1 by omega, pico_Read.l0, bs_size, if_pos (by rw [List.length_append]; omega), if_pos (by omega), bt_bs (by_append (dig_by hd) hnm) i (by rw [List.length_append]; omega), eg, if_pos (by omega), if_pos (by omega), w64 (by omega) (by omega), show (i : Int) + 1 = ((i + 1 : Nat) : Int) by omega]
    exact ih (i + 1) (by omega) (by omega)
theorem bs_tail (l m : List Nat) : (bs (l ++ m)).extract l.length (bs (l ++ m)).size = bs m := by
  rw [bs_size, bs_extract, List.take_of_length_le (Nat.le_refl _), List.drop_left]
theorem read_head {k : Nat} (b : Bool) (l : List Nat) (hl : By l) (hn : 0 < l.length) (h1 : l.length ≤ 100000) (h0 : l.getD 0 0 ≠ 45) : pico_Read.f (k + 2) (bs (sg b ++ l)) = pico_Read.l0 k (bs l) b 0 := by
  unfold pico_Read.f
  have hs : (sg b ++ l).length = (sg b).length + l.length := List.length_append
  rw [bs_size, if_pos (by omega), if_pos (by omega), show (0 : Int) = ((0 : Nat) : Int) from rfl, bt_bs (by_append (sg_by b) hl) 0 (by omega)]
  cases b
  · show pico_Read.j0 (k + 1 + 1) (bs l) (bs l) false (((l.getD 0 0 : Nat) : Int) == 45) = _
    rw [show (((l.getD 0 0 : Nat) : Int) == 45) = false from beq_eq_false_iff_ne.2 (by omega), pico_Read.j0, if_neg (by decide), pico_Read.j1]
    rfl
  · show pico_Read.j0 (k + 1 + 1) (bs (45 :: l)) (bs (45 :: l)) false true = _
    rw [pico_Read.j0, if_pos rfl, bs_size, List.length_cons, if_pos (by omega), pico_Read.j1]
    have e : (bs (45 :: l)).extract 1 (l.length + 1) = bs l := by
      rw [bs_extract, List.take_of_length_le (by simp)]
      rfl
    rw [e]
    rfl
theorem read_eq {k : Nat} (hk : 2100 ≤ k) (b : Bool) (ds : List Nat) (u : Nat) (hu : u ≤ 4) (hd : ∀ x ∈ ds, 48 ≤ x ∧ x ≤ 57) (hne : 0 < ds.length) (hl : ds.length ≤ 1000) (hV : dl ds ≤ 1152921504606846976) :
    pico_Read.f k (bs (sg b ++ (ds ++ unitName u))) = some (rp (sc (if b = true then -(dl ds : Int) else (dl ds : Int)) (unitPs u) 1)) := by
  obtain ⟨k, rfl⟩ : ∃ m, k = (((m + 60) + ds.length + 1 + 1 + 1) + ds.length + 1) + 2 := ⟨k - 60 - 2 * ds.length - 6, by omega⟩
  have hB : By (ds ++ unitName u) := by_append (dig_by hd) (unit_by u)
  have h0 : (ds ++ unitName u).getD 0 0 = ds.getD 0 0 := by rw [List.getD_eq_getElem?_getD, List.getElem?_append_left hne, List.getD_eq_getElem?_getD]
  have hm : ds.getD 0 0 ∈ ds := by
    rw [List.getD_eq_getElem?_getD, List.getElem?_eq_getElem hne]
    exact List.getElem_mem hne
  have hc := hd _ hm
  have hul : (unitName u).length ≤ 2 := by
    match u with
    | 0 => decide
    | 1 => decide
    | 2 => decide
    | 3 => decide
    | n + 4 => show 2 ≤ 2; decide
  rw [read_head b _ hB (by rw [List.length_append]; omega) (by rw [List.length_append]; omega) (by rw [h0]; omega)]
  have e1 := read_l0 ((k + 60) + ds.length + 1 + 1 + 1) ds (unitName u) hd (unit_by u) b hl (Or.inr (by
    match u with
    | 0 => decide
    | 1 => decide
    | 2 => decide
    | 3 => decide
    | n + 4 => show 57 < 112; decide)) ds.length 0 (by omega) (by omega)
  rw [show ((0 : Nat) : Int) = 0 from rfl] at e1
  rw [e1, pico_Read.j3, if_pos (by omega), bs_size, if_pos (by rw [List.length_append]; omega), Int.toNat_natCast]
  have e2 := bs_tail ds (unitName u)
  rw [bs_size] at e2
  rw [e2, Unit_eq u hu, Option.bind_some, if_neg (by omega)]
  simp only [Bool.not_true]
  rw [pico_Read.j4, if_neg (by decide)]
  have e3 := read_l1 (k0 := k + 60) (by omega) ds (unitName u) hd (unit_by u) b (unitPs u) hV hl ds.length 0 (by omega) (by omega)
  exact e3
end Go.Proofs.Ytmkjljekofondaa.Text01
