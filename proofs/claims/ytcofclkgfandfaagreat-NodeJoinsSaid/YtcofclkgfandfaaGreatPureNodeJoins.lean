/- A node that listens and hears a frame is in its slot, by its time, with its members, and its sender; heard again the frame changes nothing. Conditions: none but the kinds of the values. -/
import Derived.Test.YtcofclkgfandfaaGreatNb
import Derived.Test.YtcofclkgfandfaaGreatPrint0
import Derived.Test.YtcofclkgfandfaaGreatPrint7
import Derived.Test.YtcofclkgfandfaaGreatPrint11
import Derived.Test.YtcofclkgfandfaaGreatPrint12
import Derived.Test.YtcofclkgfandfaaGreatPrint25
import Derived.Test.YtcofclkgfandfaaGreatPrint29
import Derived.Test.YtcofclkgfandfaaGreatPrint36
import Derived.Test.YtcofclkgfandfaaGreatPrint39
import Derived.Test.YtcofclkgfandfaaGreatPrint41
import Derived.Test.YtcofclkgfandfaaGreatPrint42
set_option linter.unusedVariables false
set_option linter.unusedSimpArgs false
namespace Go.Proofs.YtcofclkgfandfaaGreat.Pure
open Go Go.RowKit Go.Proofs.YtcofclkgfandfaaGreat.Print Go.Proofs.YtcofclkgfandfaaGreatW.PrintWords Go.Proofs.YtcofclkgfandfaaGreatW.PrintLast Go.Proofs.YtcofclkgfandfaaGreatW.PrintMore Go.Proofs.YtcofclkgfandfaaGreat.Medl Go.Proofs.YtcofclkgfandfaaGreat.Osc Go.Proofs.YtcofclkgfandfaaGreat.Node13 Go.Proofs.YtcofclkgfandfaaGreat.Set08 Go.Proofs.YtcofclkgfandfaaGreat.Bits16 Go.Proofs.YtcofclkgfandfaaGreat.Wire Go.Proofs.YtcofclkgfandfaaGreat.WireSpec Go.Proofs.YtcofclkgfandfaaGreat.Wire2 Go.Proofs.YtcofclkgfandfaaGreat.Wire4 Go.Proofs.YtcofclkgfandfaaGreat.Frame08
theorem live13 : palletlaw13_live.f 40002 = some true := by decide +kernel
theorem lead_facts {p d r l s : Int} (h : Oc p d r) (hl : 1 ≤ l) (hs : l + 3 ≤ s) (hs2 : s ≤ 1048576) :
    (rt p d * l + r) / 1000000000 ≤ 2 * l * p ∧ (rt p d * l + r) / 1000000000 + 2 ≤ (rt p d * s + r) / 1000000000 := by
  have b := rt_bound h
  obtain ⟨p1, p2, _, _, r0, r1⟩ := h
  have e1 : rt p d * l ≤ 1001000000 * p * l := Int.mul_le_mul_of_nonneg_right b.2 (by omega)
  have e2 : rt p d * (l + 3) ≤ rt p d * s := Int.mul_le_mul_of_nonneg_left hs (by omega)
  have e5 : 1 * 1 ≤ p * l := Int.mul_le_mul p1 hl (by omega) (by omega)
  rw [Int.mul_add] at e2
  rw [Int.mul_assoc] at e1
  rw [show 2 * l * p = 2 * (p * l) by rw [Int.mul_assoc, Int.mul_comm l p]]
  generalize rt p d * l = A at *
  generalize rt p d * s = B at *
  generalize p * l = C at *
  generalize rt p d = R at *
  omega
theorem mask : ∀ n j : Fin 16, (65535 - 2 ^ n.val).testBit j.val = decide (j ≠ n) := by decide +kernel
theorem wo_bit (m : Nat) {i f : Nat} (hi : i < 16) (hf : f < 16) : (wo m i).testBit f = (m.testBit f && decide (f ≠ i)) := by
  have h := mask ⟨i, hi⟩ ⟨f, hf⟩
  simp only [ne_eq, Fin.mk.injEq] at h
  rw [wo, if_pos hi, Nat.testBit_and, h]
theorem wi_bit (m : Nat) {f : Nat} (hf : f < 16) : (wi m f).testBit f = true := by
  rw [wi, if_pos hf, Nat.testBit_or, Nat.testBit_two_pow_self, Bool.or_true]
theorem wi_lt {m : Nat} (hm : m < 65536) {f : Nat} (hf : f < 16) : wi m f < 65536 := by
  rw [wi, if_pos hf]
  exact Nat.or_lt_two_pow (n := 16) hm (pow_lt hf)
theorem wo_lt {m : Nat} (hm : m < 65536) {f : Nat} (hf : f < 16) : wo m f < 65536 := by
  rw [wo, if_pos hf]
  exact Nat.lt_of_le_of_lt Nat.and_le_left hm
theorem timers2 {k : Nat} (a b T : Int) : palletlaw13_timers.f (k + 3) [⟨3, 0, z43, a, b⟩, ⟨1, T, z43, 0, 0⟩] = some [T] := by
  unfold palletlaw13_timers.f
  simp [palletlaw13_timers.l0, rd_T66, wrap64]

section
variable {m0 m1 m2 m3 m4 p d r now : Int} {id kd fr n g : Nat}
/-- A node that listens. -/
def LN (m0 m1 m2 m3 m4 p d r : Int) (id : Nat) : Rs := ⟨id, 1, 0, 0, p, d, r, 0, 0, 0, 0, [], false, 0, m0, m1, m2, m3, m4, [], 0⟩
/-- A node that has joined. -/
def JN (m0 m1 m2 m3 m4 p d r : Int) (id : Nat) (st : Int) (n me : Nat) (T : Int) : Rs := ⟨id, 2, n, st, p, d, r, 0, me, 1, 0, [0], false, 1, m0, m1, m2, m3, m4, [⟨3, 0, z43, 3, wrap64 n⟩, ⟨1, T, z43, 0, 0⟩], 0⟩
theorem tm0 : Tm 0 := by unfold Tm; omega
theorem nok_listen (h : Nok m0 m1 m2 m3 m4 id 0 0 0 p d r 0 0 0 0 [] false 0) : Nok m0 m1 m2 m3 m4 id 1 0 0 p d r 0 0 0 0 [] false 0 := by
  obtain ⟨⟨a1, a2, a3, a4, a5, a6, a7⟩, a8, a9⟩ := h
  exact ⟨⟨a1, a2, a3, by omega, a5, a6, a7⟩, a8, fun z => absurd z (by decide)⟩
theorem wake_is {k : Nat} (hk : 200 ≤ k) (hd : W64 d) (h : Nok m0 m1 m2 m3 m4 id 0 0 0 p d r 0 0 0 0 [] false 0) : ∃ q, node_Wake.f k m0 m1 m2 m3 m4 id 0 0 0 p d r 0 0 0 0 [] false 0 0 = some ((id : Int), 1, 0, 0, p, d, r, 0, 0, 0, 0, [], false, 0, q, 0) := by
  have ho : Ok m0 m1 m2 m3 m4 := h.1.1
  have hoc : Oc p d r := h.1.2.1
  have hid := h.1.2.2.1
  unfold Ok at ho
  have e1 : (2 * (m0 + id)) ≤ 2 * 31 := by omega
  have e2 : m1 * (2 * (m0 + id)) ≤ 1048576 * (2 * 31) := Int.mul_le_mul (by omega) e1 (by omega) (by omega)
  have e3 : 0 ≤ m1 * (2 * (m0 + id)) := Int.mul_nonneg (by omega) (by omega)
  unfold node_Wake.f
  rw [begin13 hd (by simp) (by simp; omega), if_pos ⟨h, by omega, tm0⟩, Option.bind_some, if_pos rfl]
  have hwk : node_wakes.f k m0 m1 0 ⟨id, 0, 0, 0, p, d, r, 0, 0, 0, 0, [], false, 0, m0, m1, m2, m3, m4, [], 0⟩ = node_timer.f k ⟨id, 1, 0, 0, p, d, r, 0, 0, 0, 0, [], false, 0, m0, m1, m2, m3, m4, [⟨3, 0, z43, 1, 0⟩], 0⟩ (wrap64 (m1 * wrap64 (2 * wrap64 (m0 + id)))) := rfl
  rw [hwk]
  rw [show wrap64 (m0 + (id : Int)) = m0 + id from Medl.w64 (by omega) (by omega), show wrap64 (2 * (m0 + (id : Int))) = 2 * (m0 + id) from Medl.w64 (by omega) (by omega), show wrap64 (m1 * (2 * (m0 + (id : Int)))) = m1 * (2 * (m0 + id)) from Medl.w64 (by omega) (by omega)]
  rw [timer_fine (by omega) _ hd hoc rfl e3 (by omega) (by show (0 : Int) ≤ 0; omega) (by show (0 : Int) ≤ _; omega), Option.bind_some]
  exact ⟨_, rfl⟩
theorem hear_listen {k : Nat} (hk : 40 ≤ k) (hd : W64 d) (h : Nok m0 m1 m2 m3 m4 id 0 0 0 p d r 0 0 0 0 [] false 0) (hF : Fok (kd : Int) (fr : Int) (n : Int)) (hg : g < 65536) (h0 : 0 ≤ now) (h1 : now ≤ 1125899906842623) (hne : fr ≠ id) :
    node_joins.f k (LN m0 m1 m2 m3 m4 p d r id) (now + 1) now kd fr n g = some (if (n : Int) % m0 = fr ∧ (rt p d * m2 + r) / 1000000000 ≤ now then JN m0 m1 m2 m3 m4 p d r id (now - (rt p d * m2 + r) / 1000000000) n (wo (wi g fr) id) (now - (rt p d * m2 + r) / 1000000000 + (rt p d * m1 + r) / 1000000000) else LN m0 m1 m2 m3 m4 p d r id) := by
  have ho : Ok m0 m1 m2 m3 m4 := h.1.1
  have hoc : Oc p d r := h.1.2.1
  have hid := h.1.2.2.1
  have ho' := ho
  unfold Ok at ho'
  have hF' := hF
  unfold Fok at hF'
  have L := lead_facts (l := m2) (s := m1) hoc (by omega) (by omega) (by omega)
  have b := run_small hoc (t := m2) (by omega) (by omega)
  have b2 := run_small hoc (t := m1) (by omega) (by omega)
  have hr : osc_Run.f k p d r m2 = some ((rt p d * m2 + r) / 1000000000, p, d, (rt p d * m2 + r) % 1000000000, 0) := run_fine hk hoc hd (by omega) (by omega) (by omega)
  unfold node_joins.f
  rw [show medl_Owner.f (LN m0 m1 m2 m3 m4 p d r id).m0 (LN m0 m1 m2 m3 m4 p d r id).m1 (LN m0 m1 m2 m3 m4 p d r id).m2 (LN m0 m1 m2 m3 m4 p d r id).m3 (LN m0 m1 m2 m3 m4 p d r id).m4 n = some ((n : Int) % m0, 0) from owner_ok ho (by omega) (by omega), Option.bind_some, if_pos rfl]
  by_cases c1 : (n : Int) % m0 = fr
  case neg => rw [if_neg c1, if_neg fun z => c1 z.1]
  rw [if_pos c1]
  rw [show osc_Run.f k (LN m0 m1 m2 m3 m4 p d r id).op (LN m0 m1 m2 m3 m4 p d r id).od (LN m0 m1 m2 m3 m4 p d r id).orr (LN m0 m1 m2 m3 m4 p d r id).m2 = some ((rt p d * m2 + r) / 1000000000, p, d, (rt p d * m2 + r) % 1000000000, 0) from hr, Option.bind_some]
  dsimp only
  have f0 : (LN m0 m1 m2 m3 m4 p d r id).fl 0 = LN m0 m1 m2 m3 m4 p d r id := rfl
  by_cases c2 : now < (rt p d * m2 + r) / 1000000000
  · rw [if_pos c2, if_neg fun z => by have := z.2; omega]
    rfl
  rw [if_neg c2, with_eq hg (show fr < 16 by omega), Option.bind_some, show (LN m0 m1 m2 m3 m4 p d r id).id = (id : Int) from rfl, without_eq (wi_lt hg (by omega)) (show id < 16 by omega), Option.bind_some]
  have ew : wrap64 (now - (rt p d * m2 + r) / 1000000000) = now - (rt p d * m2 + r) / 1000000000 := Medl.w64 (by omega) (by omega)
  have hx : node_joins.x (LN m0 m1 m2 m3 m4 p d r id) now ((rt p d * m2 + r) / 1000000000) (wo (wi g fr) id : Nat) n = ⟨id, 2, n, now - (rt p d * m2 + r) / 1000000000, p, d, r, 0, (wo (wi g fr) id : Nat), 1, 0, [0], false, 1, m0, m1, m2, m3, m4, [⟨3, 0, z43, 3, wrap64 n⟩], 0⟩ := by
    unfold node_joins.x
    rw [ew]
    rfl
  rw [hx, show (LN m0 m1 m2 m3 m4 p d r id).m1 = m1 from rfl, timer_fine hk _ hd hoc rfl (show 0 ≤ m1 by omega) (show m1 ≤ _ by omega) (show 0 ≤ now - (rt p d * m2 + r) / 1000000000 by omega) (show now - (rt p d * m2 + r) / 1000000000 ≤ _ by omega), Option.bind_some]
  have c3 : now + 1 < now - (rt p d * m2 + r) / 1000000000 + (rt p d * m1 + r) / 1000000000 := by omega
  have c4 : (n : Int) % m0 = fr ∧ (rt p d * m2 + r) / 1000000000 ≤ now := ⟨c1, by omega⟩
  rw [if_pos c4]
  exact congrArg some (if_pos c3)
end

section
variable {m0 m1 m2 m3 m4 p d r now : Int} {id kd fr n g : Nat}
theorem begin_same {k : Nat} (hk : 200 ≤ k) (hd : W64 d) {a b c e i j m x : Int} {l : List Int} {s : Bool} {v t : Int} (hl : l.length ≤ 100) (h : Nok m0 m1 m2 m3 m4 a b c e p d r x i j m l s v) (h0 : 0 ≤ t) (h1 : t ≤ 1125899906842624) :
    node_begin.f k m0 m1 m2 m3 m4 a b c e p d r x i j m v s l t = some 0 := by
  rw [begin13 hd (by omega) (by omega), if_pos ⟨h, h0, by unfold Tm; omega⟩]
theorem nok_joined (h : Nok m0 m1 m2 m3 m4 id 0 0 0 p d r 0 0 0 0 [] false 0) (hF : Fok (kd : Int) (fr : Int) (n : Int)) {st : Int} (s0 : 0 ≤ st) (s1 : st ≤ 1125899906842624) (me : Int) : Nok m0 m1 m2 m3 m4 id 2 n st p d r 0 me 1 0 [0] false 1 := by
  obtain ⟨⟨a1, a2, a3, a4, a5, a6, a7⟩, a8, a9⟩ := h
  have a1' := a1
  unfold Ok at a1'
  unfold Fok at hF
  refine ⟨⟨a1, a2, a3, by omega, by omega, s0, by unfold Tm; omega⟩, ⟨by omega, ?_, ?_, by omega, by omega, by omega⟩, fun z => absurd z (by decide)⟩
  · intro x hx
    rw [List.mem_singleton.1 hx]
    omega
  · show ((1 : Nat) : Int) ≤ m0
    omega
theorem read_fw (hF : Fok (kd : Int) (fr : Int) (n : Int)) (hg : g < 65536) : ∀ k, 30000 ≤ k → frame_Read.f k (cs (fw kd fr n g)) = some ((kd : Int), (fr : Int), (n : Int), (g : Int), 0) := fun k hk => by
  have hF' := hF
  unfold Fok at hF'
  have hlen : (fw kd fr n g).length ≤ 10000 := by
    have := fw_len kd fr n g
    have := vb_len10 (n := n) (by omega)
    omega
  rw [Read_eq _ (fw_by (by omega) (by omega)) hlen hk, fw_rdF hF (by omega) hg]
theorem hear_one {k : Nat} (hk : 39990 ≤ k) (hd : W64 d) (h : Nok m0 m1 m2 m3 m4 id 0 0 0 p d r 0 0 0 0 [] false 0) (hF : Fok (kd : Int) (fr : Int) (n : Int)) (hg : g < 65536) (h0 : 0 ≤ now) (h1 : now ≤ 1125899906842623) :
    node_Hear.f k m0 m1 m2 m3 m4 id 1 0 0 p d r 0 0 0 0 [] false 0 (now + 1) now (cs (fw kd fr n g)) false = some (nodeTold (LN m0 m1 m2 m3 m4 p d r id) (if (fr : Int) ≠ id ∧ (n : Int) % m0 = fr ∧ (rt p d * m2 + r) / 1000000000 ≤ now then JN m0 m1 m2 m3 m4 p d r id (now - (rt p d * m2 + r) / 1000000000) n (wo (wi g fr) id) (now - (rt p d * m2 + r) / 1000000000 + (rt p d * m1 + r) / 1000000000) else LN m0 m1 m2 m3 m4 p d r id)) := by
  have hF' := hF
  unfold Fok at hF'
  have hread := read_fw hF hg
  unfold node_Hear.f
  rw [begin_same (by omega) hd (by decide) (nok_listen h) (by omega) (by omega), Option.bind_some, if_neg (by omega), if_pos rfl]
  unfold node_hears.f
  rw [hread _ (by omega), Option.bind_some, if_neg (by decide), if_pos rfl]
  by_cases c2 : (fr : Int) = id
  · rw [if_pos c2, if_neg fun z => z.1 c2, Option.bind_some]
    rfl
  · rw [if_neg c2, if_pos rfl]
    have := hear_listen (k := k) (by omega) hd h hF hg h0 h1 (by omega)
    dsimp only
    rw [show (⟨(id : Int), 1, 0, 0, p, d, r, 0, 0, 0, 0, [], false, 0, m0, m1, m2, m3, m4, [], 0⟩ : Rs) = LN m0 m1 m2 m3 m4 p d r id from rfl, this, Option.bind_some]
    by_cases c3 : (n : Int) % m0 = fr ∧ (rt p d * m2 + r) / 1000000000 ≤ now
    · rw [if_pos c3, if_pos ⟨c2, c3⟩]
    · rw [if_neg c3, if_neg fun z => c3 z.2]
/-- It stays as it was. -/
theorem joins_A {k : Nat} (hk : 39990 ≤ k) (hd : W64 d) (h : Nok m0 m1 m2 m3 m4 id 0 0 0 p d r 0 0 0 0 [] false 0) (hF : Fok (kd : Int) (fr : Int) (n : Int)) (hg : g < 65536) (h0 : 0 ≤ now) (h1 : now ≤ 1125899906842623) (hc : ¬ ((fr : Int) ≠ id ∧ (n : Int) % m0 = fr ∧ (rt p d * m2 + r) / 1000000000 ≤ now)) :
    palletlaw13_NodeJoinsA.j0 (k + 2) id now true (cs (fw kd fr n g)) false m0 m1 m2 m3 m4 p d r kd fr n g id 0 0 0 p d r 0 0 0 0 [] false 0 = some true := by
  have ho : Ok m0 m1 m2 m3 m4 := h.1.1
  have hoc : Oc p d r := h.1.2.1
  have ho' := ho
  unfold Ok at ho'
  have hF' := hF
  unfold Fok at hF'
  have L := lead_facts (l := m2) (s := m1) hoc (by omega) (by omega) (by omega)
  have hnow : wrap64 (now + 1) = now + 1 := Medl.w64 (by omega) (by omega)
  rw [palletlaw13_NodeJoinsA.j0, if_neg (by decide)]
  obtain ⟨q, hw⟩ := wake_is (k := k + 1) (by omega) hd h
  rw [hw, Option.bind_some]
  simp only [hnow]
  rw [hear_one (by omega) hd h hF hg h0 h1, if_neg hc, told_self _ rfl, Option.bind_some, if_pos trivial]
  dsimp only [LN]
  rw [palletlaw13_NodeJoinsA.j1, if_neg (by decide), if_neg (by decide), owner_ok ho (by omega) (by omega), Option.bind_some, if_pos rfl, same_self _ _ _ _ _ _ _ _ _ _ _ _ _ _ (by decide) (by omega), Option.bind_some, if_pos rfl, if_pos rfl, if_pos (show (([] : List S66).length : Int) = 0 from rfl)]
  by_cases c1 : (n : Int) % m0 = fr
  · rw [if_pos c1]
    by_cases c2 : (fr : Int) = id
    · rw [if_pos c2]
    · rw [if_neg c2]
      have c3 : ¬ (rt p d * m2 + r) / 1000000000 ≤ now := fun z => hc ⟨c2, c1, z⟩
      have e5 : 2 * m2 * p ≤ 2 * 1048576 * 1000000000 := Int.mul_le_mul (by omega) hoc.2.1 (by have := hoc.1; omega) (by omega)
      have e6 : 0 ≤ 2 * m2 * p := Int.mul_nonneg (by omega) (by have := hoc.1; omega)
      rw [show wrap64 (2 * m2) = 2 * m2 from Medl.w64 (by omega) (by omega), show wrap64 (2 * m2 * p) = 2 * m2 * p from Medl.w64 (by omega) (by omega), if_pos (show now < 2 * m2 * p by omega)]
  · rw [if_neg c1]
/-- It joins; heard again the frame changes nothing. -/
theorem joins_B {k : Nat} (hk : 39990 ≤ k) (hd : W64 d) (h : Nok m0 m1 m2 m3 m4 id 0 0 0 p d r 0 0 0 0 [] false 0) (hF : Fok (kd : Int) (fr : Int) (n : Int)) (hg : g < 65536) (h0 : 0 ≤ now) (h1 : now ≤ 1125899906842623) (hc : (fr : Int) ≠ id ∧ (n : Int) % m0 = fr ∧ (rt p d * m2 + r) / 1000000000 ≤ now) :
    palletlaw13_NodeJoins.j0 (k + 3) id now true (cs (fw kd fr n g)) false m0 m1 m2 m3 m4 kd fr n g id 0 0 0 p d r 0 0 0 0 [] false 0 = some true := by
  have ho : Ok m0 m1 m2 m3 m4 := h.1.1
  have hoc : Oc p d r := h.1.2.1
  have hid := h.1.2.2.1
  have ho' := ho
  unfold Ok at ho'
  have hF' := hF
  unfold Fok at hF'
  have b := run_small hoc (t := m2) (by omega) (by omega)
  have hnow : wrap64 (now + 1) = now + 1 := Medl.w64 (by omega) (by omega)
  have hread := read_fw hF hg
  rw [palletlaw13_NodeJoins.j0, if_neg (by decide)]
  obtain ⟨q, hw⟩ := wake_is (k := k + 2) (by omega) hd h
  rw [hw, Option.bind_some]
  simp only [hnow]
  rw [hear_one (by omega) hd h hF hg h0 h1, if_pos hc]
  generalize hT : now - (rt p d * m2 + r) / 1000000000 + (rt p d * m1 + r) / 1000000000 = T
  generalize hst : now - (rt p d * m2 + r) / 1000000000 = st
  have hmelt : wo (wi g fr) id < 65536 := wo_lt (wi_lt hg (by omega)) (by omega)
  have hb1 : (wo (wi g fr) id).testBit fr = true := by
    rw [wo_bit _ (by omega) (by omega), wi_bit _ (by omega), Bool.true_and, decide_eq_true (by omega)]
  have hb2 : (wo (wi g fr) id).testBit id = false := by
    rw [wo_bit _ (by omega) (by omega), decide_eq_false (fun z => z rfl), Bool.and_false]
  generalize hme : wo (wi g fr) id = me at *
  have hNj : Nok m0 m1 m2 m3 m4 id 2 n st p d r 0 me 1 0 [0] false 1 := nok_joined h hF (by omega) (by omega) _
  have again : node_Hear.f k m0 m1 m2 m3 m4 id 2 n st p d r 0 me 1 0 [0] false 1 (now + 1) now (cs (fw kd fr n g)) false = some ((id : Int), 2, (n : Int), st, p, d, r, 0, (me : Int), 1, 0, [0], false, 1, [], 0) := by
    unfold node_Hear.f
    rw [begin_same (by omega) hd (by decide) hNj (by omega) (by omega), Option.bind_some, if_neg (by omega), if_pos rfl]
    unfold node_hears.f
    rw [hread _ (by omega), Option.bind_some, if_neg (by decide), if_pos rfl]
    simp only
    rw [if_neg hc.1, if_neg (by decide), if_pos trivial, owner_ok ho (by omega) (by omega), Option.bind_some, if_neg (show ¬ ((n : Int) % m0, (0 : Int)).1 = (id : Int) from fun z => hc.1 (hc.2.1.symm.trans z)), if_neg (by decide), Option.bind_some]
    rfl
  rw [show nodeTold (LN m0 m1 m2 m3 m4 p d r id) (JN m0 m1 m2 m3 m4 p d r id st n me T) = ((id : Int), 2, (n : Int), st, p, d, r, 0, (me : Int), 1, 0, [0], false, 1, [⟨3, 0, z43, 3, wrap64 n⟩, ⟨1, T, z43, 0, 0⟩], 0) from rfl, Option.bind_some, if_pos trivial]
  dsimp only
  rw [palletlaw13_NodeJoins.j1, if_neg (by decide), if_pos rfl, if_pos rfl, has_eq hmelt (by omega), hb1, Option.bind_some, if_pos rfl, has_eq hmelt (by omega), hb2, Option.bind_some, if_neg (by decide), if_neg (by omega)]
  obtain ⟨k, rfl⟩ : ∃ z, k = z + 2 := ⟨k - 2, by omega⟩
  rw [timers2, Option.bind_some, palletlaw13_NodeJoins.j2, if_neg (show ¬ (((([T] : List Int).length : Int) != 1) = true) from by simp), hnow, again, Option.bind_some, if_pos rfl, if_pos rfl, same_self _ _ _ _ _ _ _ _ _ _ _ _ _ _ (by decide) (by omega), Option.bind_some, if_pos rfl]
  rfl
end
theorem NodeJoins : ∀ (a0_0 : Int) (a0_1 : Int) (a0_2 : Int) (a0_3 : Int) (a0_4 : Int) (a1 : Int) (a2_0 : Int) (a2_1 : Int) (a2_2 : Int) (a3_0 : Int) (a3_1 : Int) (a3_2 : Int) (a3_3 : Int) (a4 : Int), (Lit.int .i64 a0_0).wf = true → (Lit.int .i64 a0_1).wf = true → (Lit.int .i64 a0_2).wf = true → (Lit.int .i64 a0_3).wf = true → (Lit.int .i64 a0_4).wf = true → (Lit.int .i64 a1).wf = true → (Lit.int .i64 a2_0).wf = true → (Lit.int .i64 a2_1).wf = true → (Lit.int .i64 a2_2).wf = true → (Lit.int .i64 a3_0).wf = true → (Lit.int .i64 a3_1).wf = true → (Lit.int .u64 a3_2).wf = true → (Lit.int .u16 a3_3).wf = true → (Lit.int .i64 a4).wf = true → ∃ k, palletlaw13_NodeJoins.f k a0_0 a0_1 a0_2 a0_3 a0_4 a1 a2_0 a2_1 a2_2 a3_0 a3_1 a3_2 a3_3 a4 = some true ∨ palletlaw13_NodeJoinsA.f k a0_0 a0_1 a0_2 a0_3 a0_4 a1 a2_0 a2_1 a2_2 a3_0 a3_1 a3_2 a3_3 a4 = some true := by
  intro m0 m1 m2 m3 m4 id p d r kd fr n g now _ _ _ _ _ _ _ hd _ _ _ hn hg hnow
  obtain ⟨n, rfl, hn2⟩ := u64_of hn
  obtain ⟨g, rfl, hg2⟩ := u16_of hg
  have hd : W64 d := wf64 hd
  have hb : 0 ≤ Go.bits .and .i64 now 1125899906842623 ∧ Go.bits .and .i64 now 1125899906842623 ≤ 1125899906842623 := by
    have e : Go.bits .and .i64 now 1125899906842623 = now % 1125899906842624 := by
      have h := wf64 hnow
      show IntKind.i64.wrap ((BitVec.ofInt 64 now &&& BitVec.ofInt 64 1125899906842623).toNat : Int) = _
      rw [BitVec.toNat_and, show (BitVec.ofInt 64 1125899906842623).toNat = 2 ^ 50 - 1 by decide, Nat.and_two_pow_sub_one_eq_mod, BitVec.toNat_ofInt]
      simp only [IntKind.wrap, IntKind.bits, IntKind.signed]
      simp
      omega
    omega
  refine ⟨40002, ?_⟩
  by_cases h : Nok m0 m1 m2 m3 m4 id 0 0 0 p d r 0 0 0 0 [] false 0
  case neg =>
    refine Or.inl ?_
    unfold palletlaw13_NodeJoins.f
    rw [live13, Option.bind_some, if_pos rfl, Write_eq (by decide) kd fr n g hn2 hg2]
    unfold node_New.f
    rw [check13 hd (by decide) (by decide), Option.bind_some, if_neg h, if_neg (by decide), Option.bind_some, Option.bind_some, if_neg (by decide), palletlaw13_NodeJoins.j0, if_pos rfl]
  by_cases hF : Fok kd fr (n : Int)
  case neg =>
    refine Or.inl ?_
    unfold palletlaw13_NodeJoins.f
    rw [live13, Option.bind_some, if_pos rfl, Write_eq (by decide) kd fr n g hn2 hg2]
    unfold node_New.f
    rw [check13 hd (by decide) (by decide), Option.bind_some, if_pos h, if_pos rfl, Option.bind_some, if_neg hF, Option.bind_some, if_pos rfl, show (((([] : List Int), (1 : Int)).2 != 0)) = true from rfl, palletlaw13_NodeJoins.j0, if_pos rfl]
  have hF' := hF
  unfold Fok at hF'
  have hid := h.1.2.2.1
  obtain ⟨kd, rfl⟩ : ∃ z : Nat, kd = z := ⟨kd.toNat, by omega⟩
  obtain ⟨fr, rfl⟩ : ∃ z : Nat, fr = z := ⟨fr.toNat, by omega⟩
  obtain ⟨id, rfl⟩ : ∃ z : Nat, id = z := ⟨id.toNat, by omega⟩
  by_cases hc : (fr : Int) ≠ id ∧ (n : Int) % m0 = fr ∧ (rt p d * m2 + r) / 1000000000 ≤ Go.bits .and .i64 now 1125899906842623
  · refine Or.inl ?_
    unfold palletlaw13_NodeJoins.f
    rw [live13, Option.bind_some, if_pos rfl, Write_eq (by decide) kd fr n g hn2 hg2]
    unfold node_New.f
    rw [check13 hd (by decide) (by decide), Option.bind_some, if_pos h, if_pos rfl, Option.bind_some, if_pos hF, Option.bind_some, if_pos rfl]
    exact joins_B (k := 39999) (by decide) hd h hF hg2 hb.1 hb.2 hc
  · refine Or.inr ?_
    unfold palletlaw13_NodeJoinsA.f
    rw [live13, Option.bind_some, if_pos rfl, Write_eq (by decide) kd fr n g hn2 hg2]
    unfold node_New.f
    rw [check13 hd (by decide) (by decide), Option.bind_some, if_pos h, if_pos rfl, Option.bind_some, if_pos hF, Option.bind_some, if_pos rfl]
    exact joins_A (k := 40000) (by decide) hd h hF hg2 hb.1 hb.2 hc
end Go.Proofs.YtcofclkgfandfaaGreat.Pure
