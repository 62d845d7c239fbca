/- Plain facts on numbers written as bytes (layer 2), as printed. -/
import Derived.Test.YtogdelhofdelgaaLen64
import Derived.Test.YtogdelhofdelgaaDigits
import Derived.Test.YtogdelhofdelgaaPrint0
import Derived.Test.YtogdelhofdelgaaPrint2
import Derived.Test.YtogdelhofdelgaaPrint3
import Derived.Test.YtogdelhofdelgaaPrint4
import Derived.Test.YtogdelhofdelgaaPrint5
import Derived.Test.YtogdelhofdelgaaPrint6
set_option linter.unusedVariables false
set_option linter.unusedSimpArgs false
namespace Go.Proofs.Ytogdelhofdelgaa.Wire
open Go Go.RowKit Go.Proofs.Ytogdelhofdelgaa.Print Go.Proofs.YtogdelhofdelgaaW.PrintWords Go.Proofs.YtogdelhofdelgaaW.PrintLast Go.Proofs.YtogdelhofdelgaaW.PrintMore Go.Proofs.Ytogdelhofdelgaa.Len64 Go.Proofs.Ytogdelhofdelgaa.Digits
theorem or128a : ∀ i : Fin 256, Go.bits .or .u8 128 (i.val : Int) = 128 + (i.val : Int) % 128 := by decide +kernel
theorem and127a : ∀ i : Fin 256, Go.bits .and .u8 (i.val : Int) 127 = (i.val : Int) % 128 := by decide +kernel
theorem or128 (t : Nat) : Go.bits .or .u8 128 ((t : Int) % 256) = ((t % 128 + 128 : Nat) : Int) := by
  have h := or128a ⟨t % 256, by omega⟩
  simp only at h
  rw [show ((t : Int) % 256) = ((t % 256 : Nat) : Int) by omega, h]
  omega
theorem and127 (t : Nat) : Go.bits .and .u8 ((t : Int) % 256) 127 = ((t % 128 : Nat) : Int) := by
  have h := and127a ⟨t % 256, by omega⟩
  simp only at h
  rw [show ((t : Int) % 256) = ((t % 256 : Nat) : Int) by omega, h]
  omega
/-- What is put on a group: that more come. -/
def off7 (j : Nat) : Nat := if j = 0 then 0 else 128
def cs (l : List Nat) : List Int := l.map fun a : Nat => (a : Int)
theorem shr7 (n j : Nat) (hj : j ≤ 9) : shr .u64 (n : Int) (7 * (j : Int)) = ((n / 128 ^ j : Nat) : Int) := by
  unfold shr
  rw [show (7 * (j : Int)).toNat = 7 * j by omega, show IntKind.bits .u64 = 64 from rfl, Nat.min_eq_left (by omega), Int.pow_mul, show (2 : Int) ^ 7 = 128 by decide]
  simp
theorem put_l0 (n : Nat) : ∀ (j k : Nat) (x0 : List Int), j ≤ 9 → j < k → x0.length + j ≤ 1000 → wire_put.l0 k x0 (n : Int) (j : Int) = some (x0 ++ cs (G 128 off7 j n))
  | 0, k, x0, hj, hk, hx => by
    obtain ⟨k, rfl⟩ : ∃ m, k = m + 1 := ⟨k - 1, by omega⟩
    simp only [wire_put.l0]
    rw [if_neg (by omega), if_pos (by omega), and127]
    rfl
  | j + 1, k, x0, hj, hk, hx => by
    obtain ⟨k, rfl⟩ : ∃ m, k = m + 1 := ⟨k - 1, by omega⟩
    have ih := put_l0 n j k (x0 ++ [(((n / 128 ^ (j + 1)) % 128 + 128 : Nat) : Int)]) (by omega) (by omega)
    simp only [wire_put.l0]
    rw [if_pos (by omega), w64 (x := 7 * ((j + 1 : Nat) : Int)) (by omega) (by omega), if_pos (by omega), if_pos (by omega), shr7 n (j + 1) hj, or128, w64 (by omega) (by omega), show ((j + 1 : Nat) : Int) - 1 = (j : Int) by omega]
    rw [ih (by rw [List.length_append, List.length_singleton]; omega), List.append_assoc]
    rfl
theorem put_eq (n : Nat) (hn : n < 18446744073709551616) {k : Nat} (hk : 40 ≤ k) (x0 : List Int) (hx : x0.length ≤ 900) : ∃ j : Nat, j ≤ 9 ∧ wire_put.f k x0 (n : Int) = some (x0 ++ cs (G 128 off7 j n)) ∧ n < 128 ^ (j + 1) ∧ (j = 0 ∨ 128 ^ j ≤ n) := by
  obtain ⟨k, rfl⟩ : ∃ m, k = m + 1 := ⟨k - 1, by omega⟩
  by_cases h0 : n = 0
  · subst h0
    refine ⟨0, by decide, ?_, by decide, Or.inl rfl⟩
    unfold wire_put.f
    rw [show ((0 : Nat) : Int) = 0 from rfl, len_zero (by omega), Option.bind_some, show wrap64 (mx 1 (wrap64 (Int.tdiv (wrap64 (0 + 6)) 7)) - 1) = ((0 : Nat) : Int) by decide +kernel]
    exact put_l0 0 0 (k + 1) x0 (by decide) (by omega) (by omega)
  · obtain ⟨L, e, l1, l2, l3, l4⟩ := len_eq (k := k) (x := (n : Int)) (by omega) (by omega)
    have p1 : 2 ^ (L - 1) ≤ n := by
      have : ((2 ^ (L - 1) : Nat) : Int) ≤ n := by simpa using l3
      omega
    have p2 : n < 2 ^ L := by
      have e2 : 2 ^ L = 2 ^ (L - 1) * 2 := by rw [← Nat.pow_succ, show (L - 1).succ = L by omega]
      have : (n : Int) < ((2 ^ (L - 1) * 2 : Nat) : Int) := by simpa using l4
      omega
    refine ⟨(L + 6) / 7 - 1, by omega, ?_, ?_, Or.inr ?_⟩
    · unfold wire_put.f
      have e3 : wrap64 (mx 1 (wrap64 (Int.tdiv (wrap64 ((L : Int) + 6)) 7)) - 1) = (((L + 6) / 7 - 1 : Nat) : Int) := by
        rw [w64 (x := (L : Int) + 6) (by omega) (by omega), Int.tdiv_eq_ediv_of_nonneg (by omega), w64 (x := ((L : Int) + 6) / 7) (by omega) (by omega)]
        unfold mx
        split <;> (rw [w64 (by omega) (by omega)]; omega)
      rw [e, Option.bind_some, e3]
      exact put_l0 n _ (k + 1) x0 (by omega) (by omega) (by omega)
    · have : 2 ^ L ≤ 128 ^ ((L + 6) / 7 - 1 + 1) := by
        rw [show 128 = 2 ^ 7 by decide, ← Nat.pow_mul]
        exact Nat.pow_le_pow_right (by decide) (by omega)
      omega
    · have : 128 ^ ((L + 6) / 7 - 1) ≤ 2 ^ (L - 1) := by
        rw [show 128 = 2 ^ 7 by decide, ← Nat.pow_mul]
        exact Nat.pow_le_pow_right (by decide) (by omega)
      omega
theorem shr8 (n j : Nat) (hj : j ≤ 8) : shr .u64 (n : Int) (8 * (j : Int)) = ((n / 256 ^ j : Nat) : Int) := by
  unfold shr
  rw [show (8 * (j : Int)).toNat = 8 * j by omega, show IntKind.bits .u64 = 64 from rfl, Nat.min_eq_left (by omega), Int.pow_mul, show (2 : Int) ^ 8 = 256 by decide]
  simp
theorem fixed_l0 (n : Nat) : ∀ (j k : Nat) (x0 : List Int), j ≤ 7 → j + 1 < k → x0.length + j ≤ 1000 → wire_Fixed.l0 k (n : Int) x0 (8 * ((j : Int) + 1)) = some (x0 ++ cs (G 256 (fun _ => 0) j n), 0)
  | 0, k, x0, hj, hk, hx => by
    obtain ⟨k, rfl⟩ : ∃ m, k = m + 2 := ⟨k - 2, by omega⟩
    have s0 := shr8 n 0 (by omega)
    rw [show 8 * ((0 : Nat) : Int) = 0 by decide, Nat.pow_zero, Nat.div_one] at s0
    simp only [wire_Fixed.l0]
    rw [if_pos (by omega), show wrap64 (8 * (((0 : Nat) : Int) + 1) - 8) = 0 by decide +kernel, if_pos (by omega), if_pos (by omega), s0, if_neg (by omega)]
    simp [G, cs]
  | j + 1, k, x0, hj, hk, hx => by
    obtain ⟨k, rfl⟩ : ∃ m, k = m + 1 := ⟨k - 1, by omega⟩
    have ih := fixed_l0 n j k (x0 ++ [(((n / 256 ^ (j + 1)) % 256 : Nat) : Int)]) (by omega) (by omega) (by rw [List.length_append, List.length_singleton]; omega)
    simp only [wire_Fixed.l0]
    rw [if_pos (by omega), w64 (by omega) (by omega), show 8 * (((j + 1 : Nat) : Int) + 1) - 8 = 8 * ((j + 1 : Nat) : Int) by omega, if_pos (by omega), if_pos (by omega), shr8 n (j + 1) (by omega), show (((n / 256 ^ (j + 1) : Nat) : Int) % 256) = (((n / 256 ^ (j + 1)) % 256 : Nat) : Int) by omega, show 8 * ((j + 1 : Nat) : Int) = 8 * ((j : Int) + 1) by omega, ih, List.append_assoc]
    rfl
theorem clone_eq (l : List Int) (h : l.length < 17592186044416) : slices_Clone_byte_byte.f l = some l := by unfold slices_Clone_byte_byte.f; rw [if_pos h]
theorem vary_one (n : Nat) (hn : n < 18446744073709551616) {k : Nat} (hk : 60 ≤ k) : ∃ j : Nat, j ≤ 9 ∧ wire_Vary.f k [] [(n : Int)] = some (cs (G 128 off7 j n)) ∧ n < 128 ^ (j + 1) ∧ (j = 0 ∨ 128 ^ j ≤ n) := by
  obtain ⟨k, rfl⟩ : ∃ m, k = m + 2 := ⟨k - 2, by omega⟩
  obtain ⟨j, h1, h2, h3, h4⟩ := put_eq n hn (k := k + 1) (by omega) [] (by simp)
  refine ⟨j, h1, ?_, h3, h4⟩
  unfold wire_Vary.f
  rw [clone_eq [] (by simp), Option.bind_some]
  simp only [wire_Vary.l0, List.length_singleton]
  rw [if_pos (by decide), if_pos (by decide), if_pos (by decide), show rd [(n : Int)] 0 = (n : Int) from rfl, h2, Option.bind_some, show wrap64 ((0 : Int) + 1) = 1 by decide +kernel, if_neg (by decide)]
  rfl
theorem fixed8 (n : Nat) (hn : n < 18446744073709551616) {k : Nat} (hk : 60 ≤ k) : wire_Fixed.f k [] 8 (n : Int) = some (cs (G 256 (fun _ => 0) 7 n), 0) := by
  obtain ⟨k, rfl⟩ : ∃ m, k = m + 1 := ⟨k - 1, by omega⟩
  obtain ⟨L, e, l1⟩ : ∃ L : Nat, bits_Len64.f (k + 1) (n : Int) = some (L : Int) ∧ L ≤ 64 := by
    by_cases h0 : n = 0
    · subst h0
      exact ⟨0, len_zero (by omega), by omega⟩
    · obtain ⟨L, e, _, l2, _⟩ := len_eq (k := k) (x := (n : Int)) (by omega) (by omega)
      exact ⟨L, e, l2⟩
  unfold wire_Fixed.f wire_wide.f
  rw [if_pos (by decide), Option.bind_some, if_pos (by decide), e, Option.bind_some, show wrap64 (8 * 8) = 64 by decide +kernel, decide_eq_false (by omega)]
  simp only [wire_Fixed.j0]
  rw [if_neg (by decide), clone_eq [] (by simp), Option.bind_some]
  have g : slices_Grow_byte_byte.f [] 8 = some [] := by decide
  rw [g, Option.bind_some, show wrap64 (8 * 8) = 8 * (((7 : Nat) : Int) + 1) by decide +kernel, fixed_l0 n 7 k [] (by decide) (by omega) (by decide)]
  rfl
theorem G_lt (B : Nat) (off : Nat → Nat) (h : ∀ (m j : Nat), m % B + off j < 256) (n : Nat) : ∀ j, ∀ a ∈ G B off j n, a < 256
  | 0, a, ha => by
    simp only [G, List.mem_singleton] at ha
    subst ha
    exact h n 0
  | j + 1, a, ha => by
    simp only [G, List.mem_cons] at ha
    rcases ha with rfl | ha
    · exact h _ _
    · exact G_lt B off h n j a ha
theorem off7_lt (m j : Nat) : m % 128 + off7 j < 256 := by
  unfold off7
  split <;> omega
theorem zero_lt (m j : Nat) : m % 256 + (fun _ => 0) j < 256 := by
  show m % 256 + 0 < 256
  omega
theorem bytes_inj : ∀ (x y : List Nat), (∀ a ∈ x, a < 256) → (∀ a ∈ y, a < 256) → (strOfNums (cs x)).toList = (strOfNums (cs y)).toList → x = y := by
  intro x y hx hy h
  unfold cs at h
  rw [Go.Lib.strOfNums_toList, Go.Lib.strOfNums_toList] at h
  induction x generalizing y with
  | nil => cases y with
    | nil => rfl
    | cons b y => simp [Go.Lib.bytesOf] at h
  | cons a x ih =>
    cases y with
    | nil => simp [Go.Lib.bytesOf] at h
    | cons b y =>
      have h1 := hx a (by simp)
      have h2 := hy b (by simp)
      simp only [Go.Lib.bytesOf, List.map_cons, List.cons.injEq] at h
      have i := ih y (fun c hc => hx c (by simp [hc])) (fun c hc => hy c (by simp [hc])) h.2
      have e := UInt8.toNat_inj.2 h.1
      rw [Int.toNat_natCast, Int.toNat_natCast, UInt8.toNat_ofNat', UInt8.toNat_ofNat', Nat.mod_eq_of_lt h1, Nat.mod_eq_of_lt h2] at e
      rw [e, i]
end Go.Proofs.Ytogdelhofdelgaa.Wire
