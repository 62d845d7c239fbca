/- A node alone, that hears nothing, starts when its time to listen is over, and from then on sends once a round, in its own slot, a frame that says that it is alone; its clock is corrected by nothing. Conditions: none but the kinds of the values. -/
import Derived.Test.YtcofclkgfandfaaNb
import Derived.Test.YtcofclkgfandfaaPrint0
import Derived.Test.YtcofclkgfandfaaPrint12
import Derived.Test.YtcofclkgfandfaaPrint13
import Derived.Test.YtcofclkgfandfaaPrint15
import Derived.Test.YtcofclkgfandfaaPrint24
import Derived.Test.YtcofclkgfandfaaPrint25
import Derived.Test.YtcofclkgfandfaaPrint26
import Derived.Test.YtcofclkgfandfaaPrint29
set_option linter.unusedVariables false
set_option linter.unusedSimpArgs false
namespace Go.Proofs.Ytcofclkgfandfaa.Pure
open Go Go.RowKit Go.Proofs.Ytcofclkgfandfaa.Print Go.Proofs.YtcofclkgfandfaaW.PrintWords Go.Proofs.YtcofclkgfandfaaW.PrintLast Go.Proofs.YtcofclkgfandfaaW.PrintMore Go.Proofs.Ytcofclkgfandfaa.Medl Go.Proofs.Ytcofclkgfandfaa.Osc Go.Proofs.Ytcofclkgfandfaa.Node13 Go.Proofs.Ytcofclkgfandfaa.Bits16
abbrev Act := S44
theorem wfu8 {x : Int} (h : (Lit.int .u8 x).wf = true) : 0 ≤ x ∧ x ≤ 255 := by simpa [Lit.wf, IntKind.min, IntKind.max, IntKind.signed, IntKind.bits] using h
theorem live13 : palletlaw13_live.f 40002 = some true := by decide +kernel
theorem tm0 : Tm 0 := by unfold Tm; omega
def dur (p d r t : Int) : Int := (rt p d * t + r) / 1000000000
def rem (p d r t : Int) : Int := (rt p d * t + r) % 1000000000
theorem dur_small {p d r t : Int} (h : Oc p d r) (h0 : 0 ≤ t) (h1 : t ≤ 1048576) : 0 ≤ dur p d r t ∧ dur p d r t ≤ 1125899906842624 := by
  have b := rt_bound h
  obtain ⟨p1, p2, _, _, r0, r1⟩ := h
  have e3 : 0 ≤ rt p d * t := Int.mul_nonneg (by omega) (by omega)
  have e4 : rt p d * t ≤ 1001000000000000000 * 1048576 := Int.mul_le_mul (by omega) h1 (by omega) (by omega)
  unfold dur
  omega
theorem dur_mono {p d r t u : Int} (h : Oc p d r) (h0 : 0 ≤ t) (h1 : t ≤ u) : dur p d r t ≤ dur p d r u := by
  have b := rt_bound h
  have e := Int.mul_le_mul_of_nonneg_left h1 (show 0 ≤ rt p d by have := h.1; omega)
  unfold dur
  omega
theorem rem_oc {p d r t : Int} (h : Oc p d r) : Oc p d (rem p d r t) := by
  obtain ⟨p1, p2, d1, d2, r0, r1⟩ := h
  refine ⟨p1, p2, d1, d2, ?_, ?_⟩ <;> unfold rem <;> omega
theorem mask : ∀ n j : Fin 16, (2 ^ n.val &&& (65535 - 2 ^ j.val) : Nat) = if n = j then 0 else 2 ^ n.val := by decide +kernel
theorem self_or : ∀ n : Fin 16, (2 ^ n.val ||| 2 ^ n.val : Nat) = 2 ^ n.val := by decide +kernel
theorem bit_ne : ∀ n j : Fin 16, n ≠ j → (2 ^ n.val : Nat).testBit j.val = false := by decide +kernel
theorem pc_pow : ∀ n : Fin 16, frame_Count.f ((2 ^ n.val : Nat) : Int) = some 1 := by decide +kernel
theorem lt_pow {n : Nat} (h : n < 16) : 2 ^ n < 65536 := by
  have := Nat.pow_lt_pow_right (a := 2) (by decide) h
  omega
theorem wi_self {n : Nat} (h : n < 16) : wi (2 ^ n) n = 2 ^ n := by
  rw [wi, if_pos h]
  exact self_or ⟨n, h⟩
theorem wi_zero {n : Nat} (h : n < 16) : wi 0 n = 2 ^ n := by
  rw [wi, if_pos h, Nat.zero_or]
theorem wo_other {n o : Nat} (h : n < 16) (ho : o < 16) (hne : n ≠ o) : wo (2 ^ n) o = 2 ^ n := by
  have := mask ⟨n, h⟩ ⟨o, ho⟩
  rw [if_neg (by simp only [Fin.mk.injEq]; exact hne)] at this
  rw [wo, if_pos ho]
  exact this
theorem corr0 {w : Int} (hw : 1 ≤ w) (hw2 : w ≤ 1048576) (b : Bool) : fta_Correct.f w (if b = true then [0] else []) = some (0, 0) := by
  have hc : fta_Clip.f 0 w = some (0, 0) := by
    unfold fta_Clip.f
    rw [if_neg (by omega)]
    have e : wrap64 (-w) = -w := Medl.w64 (by omega) (by omega)
    simp only [e]
    unfold mn mx
    congr 1
    repeat' split
    all_goals (first | rfl | (simp only [Prod.mk.injEq]; omega) | omega)
  unfold fta_Correct.f
  rw [if_neg (by omega)]
  cases b
  · rw [if_neg (by decide), show fta_Average.f [] = some (0, 8) from by decide +kernel, Option.bind_some, if_neg (by decide), if_pos rfl, hc]
    rfl
  · rw [if_pos rfl, show fta_Average.f [0] = some (0, 0) from by decide +kernel, Option.bind_some, if_pos rfl, hc]
    rfl

section
variable {m0 m1 m2 m3 m4 p d : Int} {id : Nat}
/-- A node that is alone and active. -/
def AN (m0 m1 m2 m3 m4 p d : Int) (id q : Nat) (st r : Int) (ds se : Bool) (ac : List Act) : Rs := ⟨id, 2, q, st, p, d, r, 0, (2 ^ id : Nat), 1, 0, if ds = true then [0] else [], se, 0, m0, m1, m2, m3, m4, ac, 0⟩
theorem nok_an (ho : Ok m0 m1 m2 m3 m4) {r st : Int} (hoc : Oc p d r) (hid : (id : Int) < m0) {q : Nat} (hq : q ≤ 4294967296) (s0 : 0 ≤ st) (s1 : st ≤ 1008806316530991104) (ds se : Bool) : Nok m0 m1 m2 m3 m4 id 2 q st p d r 0 (2 ^ id : Nat) 1 0 (if ds = true then [0] else []) se 0 := by
  have ho' := ho
  unfold Ok at ho'
  refine ⟨⟨ho, hoc, by omega, by omega, by omega, s0, by unfold Tm; omega⟩, ⟨by omega, ?_, ?_, by omega, by omega, by omega⟩, fun z => absurd z (by decide)⟩
  · intro x hx
    cases ds
    · exact absurd hx (by simp)
    · rw [List.mem_singleton.1 hx]
      omega
  · cases ds <;> simp <;> omega
theorem at_fine {k : Nat} (hk : 40 ≤ k) (s : Rs) (hd : W64 s.od) (hoc : Oc s.op s.od s.orr) (he : s.er = 0) {t : Int} (h0 : 0 ≤ t) (h1 : t ≤ 1048576) (hs : 0 ≤ s.st) (hs2 : s.st ≤ 1008806316530991104) :
    node_at.f k s t = some (s.st + dur s.op s.od s.orr t, s.op, s.od, rem s.op s.od s.orr t, s) := by
  have b := dur_small hoc h0 h1
  have hfl : s.fl 0 = s := by unfold Rs.fl; rw [if_pos he, if_pos rfl]
  unfold node_at.f
  rw [run_fine hk hoc hd h0 (by omega) (by unfold dur at b; omega), Option.bind_some, add_eq (by omega)]
  unfold dur at b ⊢
  have t1 : Tm s.st ∧ Tm ((rt s.op s.od * t + s.orr) / 1000000000) := by unfold Tm; omega
  have t2 : Tm (s.st + (rt s.op s.od * t + s.orr) / 1000000000) := by unfold Tm; omega
  rw [if_pos t1, if_pos t2, Option.bind_some]
  simp only [hfl]
  rfl
theorem tmr {k : Nat} (hk : 40 ≤ k) (s : Rs) (hd : W64 s.od) (hoc : Oc s.op s.od s.orr) (he : s.er = 0) {t : Int} (h0 : 0 ≤ t) (h1 : t ≤ 1048576) (hs : 0 ≤ s.st) (hs2 : s.st ≤ 1008806316530991104) :
    node_timer.f k s t = some { s with ac := s.ac ++ [⟨1, s.st + dur s.op s.od s.orr t, z42, 0, 0⟩] } := by
  unfold node_timer.f
  rw [at_fine hk s hd hoc he h0 h1 hs hs2, Option.bind_some]
/-- It sends. -/
theorem sends_is {k : Nat} (hk : 40 ≤ k) (hd : W64 d) (ho : Ok m0 m1 m2 m3 m4) {r st : Int} (hoc : Oc p d r) (hid : (id : Int) < m0) {q : Nat} (hq : q ≤ 4294967296) (s0 : 0 ≤ st) (s1 : st ≤ 1008806316530991104) (ds : Bool) :
    node_sends.f k (AN m0 m1 m2 m3 m4 p d id q st r ds false []) = some (AN m0 m1 m2 m3 m4 p d id q st r ds true [⟨2, 0, ⟨2, id, q, (2 ^ id : Nat)⟩, 0, 0⟩, ⟨3, 0, z42, 10, q⟩, ⟨1, st + dur p d r m1, z42, 0, 0⟩]) := by
  have ho' := ho
  unfold Ok at ho'
  have h16 : id < 16 := by omega
  unfold node_sends.f
  rw [show frame_With.f (AN m0 m1 m2 m3 m4 p d id q st r ds false []).me (AN m0 m1 m2 m3 m4 p d id q st r ds false []).id = some ((2 ^ id : Nat) : Int) from by
    show frame_With.f ((2 ^ id : Nat) : Int) (id : Int) = _
    rw [Set08.with_eq (lt_pow h16) h16, wi_self h16], Option.bind_some, Option.bind_some]
  dsimp only [AN]
  rw [pc_pow ⟨id, h16⟩, Option.bind_some, if_pos rfl, show wrap64 (q : Int) = q from Medl.w64 (by omega) (by omega), show wrap64 (m1 + 0) = m1 from by rw [Int.add_zero]; exact Medl.w64 (by omega) (by omega)]
  rw [tmr hk _ hd hoc rfl (show 0 ≤ m1 by omega) (show m1 ≤ 1048576 by omega) s0 s1]
  rfl
/-- The next slot. -/
theorem next_is {k : Nat} (hk : 40 ≤ k) (hd : W64 d) (ho : Ok m0 m1 m2 m3 m4) {r st : Int} (hoc : Oc p d r) (hid : (id : Int) < m0) {q : Nat} (hq : q ≤ 4294967296) (s0 : 0 ≤ st) (s1 : st ≤ 1008806316530991104) (ds : Bool) (ac : List Act) :
    node_ends.d k (AN m0 m1 m2 m3 m4 p d id q st r ds false ac) = some (AN m0 m1 m2 m3 m4 p d id q st r ds false (ac ++ [⟨1, st + dur p d r (if (q : Int) % m0 = id then m2 else m1), z42, 0, 0⟩])) := by
  have ho' := ho
  unfold Ok at ho'
  have ow : medl_Owner.f m0 m1 m2 m3 m4 (q : Int) = some ((q : Int) % m0, 0) := owner_ok ho (by omega) (by omega)
  unfold node_ends.d
  rw [show medl_Owner.f (AN m0 m1 m2 m3 m4 p d id q st r ds false ac).m0 (AN m0 m1 m2 m3 m4 p d id q st r ds false ac).m1 (AN m0 m1 m2 m3 m4 p d id q st r ds false ac).m2 (AN m0 m1 m2 m3 m4 p d id q st r ds false ac).m3 (AN m0 m1 m2 m3 m4 p d id q st r ds false ac).m4 (AN m0 m1 m2 m3 m4 p d id q st r ds false ac).sl = some ((q : Int) % m0, 0) from ow, Option.bind_some, Option.bind_some]
  have hfl : (AN m0 m1 m2 m3 m4 p d id q st r ds false ac).fl 0 = AN m0 m1 m2 m3 m4 p d id q st r ds false ac := rfl
  dsimp only
  rw [hfl]
  by_cases h : (q : Int) % m0 = id
  · rw [if_pos (show (q : Int) % m0 = (AN m0 m1 m2 m3 m4 p d id q st r ds false ac).id from h), show member_Clique.f (AN m0 m1 m2 m3 m4 p d id q st r ds false ac).tg (AN m0 m1 m2 m3 m4 p d id q st r ds false ac).tb = some false from rfl, Option.bind_some, if_neg (by decide), if_pos h]
    exact tmr hk _ hd hoc rfl (show 0 ≤ m2 by omega) (show m2 ≤ 1048576 by omega) s0 s1
  · rw [if_neg (show ¬ (q : Int) % m0 = (AN m0 m1 m2 m3 m4 p d id q st r ds false ac).id from h), if_neg h, show wrap64 ((AN m0 m1 m2 m3 m4 p d id q st r ds false ac).m1 + (AN m0 m1 m2 m3 m4 p d id q st r ds false ac).co) = m1 from by show wrap64 (m1 + 0) = m1; rw [Int.add_zero]; exact Medl.w64 (by omega) (by omega)]
    exact tmr hk _ hd hoc rfl (show 0 ≤ m1 by omega) (show m1 ≤ 1048576 by omega) s0 s1
/-- A slot ends: its own, in which it has sent, or another. -/
theorem ends_is {k : Nat} (hk : 40 ≤ k) (hd : W64 d) (ho : Ok m0 m1 m2 m3 m4) {r st : Int} (hoc : Oc p d r) (hid : (id : Int) < m0) {q : Nat} (hq : q ≤ 4294900000) (s0 : 0 ≤ st) (s1 : st ≤ 900000000000000000) (ds se : Bool) (hds : (q : Int) % m0 = id → ds = false) :
    node_ends.f k (AN m0 m1 m2 m3 m4 p d id q st r ds se []) = some (AN m0 m1 m2 m3 m4 p d id (q + 1) (st + dur p d r m1) (rem p d r m1) (if (q : Int) % m0 + 1 = m0 then false else if (q : Int) % m0 = id then true else ds) false ((if (q : Int) % m0 + 1 = m0 then [⟨3, 0, z42, 8, 0⟩] else []) ++ [⟨1, st + dur p d r m1 + dur p d (rem p d r m1) (if ((q + 1 : Nat) : Int) % m0 = id then m2 else m1), z42, 0, 0⟩])) := by
  have ho' := ho
  unfold Ok at ho'
  have h16 : id < 16 := by omega
  have b := dur_small hoc (t := m1) (by omega) (by omega)
  obtain ⟨o, eo, o16⟩ := Mem.owner_nat ho (x := (q : Int)) (by omega)
  have hMG : Mem.MGood m0 m1 m2 m3 m4 (q : Int) (id : Int) := ⟨ho, by omega, by omega, hid⟩
  have haft : ((Mem.aft (2 ^ id) id o 0 : Nat) : Int) = ((2 ^ id : Nat) : Int) := by
    unfold Mem.aft
    by_cases h : id = o
    · rw [if_pos h, ← h]
      exact congrArg _ (wi_self h16)
    · rw [if_neg h, if_neg (by decide), if_neg (by decide)]
      exact congrArg _ (wo_other h16 o16 h)
  have ow : medl_Owner.f m0 m1 m2 m3 m4 (q : Int) = some ((q : Int) % m0, 0) := owner_ok ho (by omega) (by omega)
  have la : medl_Last.f m0 m1 m2 m3 m4 (q : Int) = some (decide ((q : Int) % m0 + 1 = m0), 0) := last_ok ho (by omega) (by omega)
  unfold node_ends.f
  have e1 : medl_Owner.f (AN m0 m1 m2 m3 m4 p d id q st r ds se []).m0 (AN m0 m1 m2 m3 m4 p d id q st r ds se []).m1 (AN m0 m1 m2 m3 m4 p d id q st r ds se []).m2 (AN m0 m1 m2 m3 m4 p d id q st r ds se []).m3 (AN m0 m1 m2 m3 m4 p d id q st r ds se []).m4 (AN m0 m1 m2 m3 m4 p d id q st r ds se []).sl = some ((q : Int) % m0, 0) := ow
  have hfl : (AN m0 m1 m2 m3 m4 p d id q st r ds se []).fl 0 = AN m0 m1 m2 m3 m4 p d id q st r ds se [] := rfl
  rw [e1, Option.bind_some, Option.bind_some]
  dsimp only
  rw [hfl]
  have e2 : node_ends.b (AN m0 m1 m2 m3 m4 p d id q st r ds se []) ((q : Int) % m0) = some false := by
    unfold node_ends.b
    by_cases h : (q : Int) % m0 = id
    · exact if_pos h
    · rw [if_neg (show ¬ (q : Int) % m0 = (AN m0 m1 m2 m3 m4 p d id q st r ds se []).id from h), if_pos (show (AN m0 m1 m2 m3 m4 p d id q st r ds se []).ve = 0 from rfl)]
      show frame_Has.f ((2 ^ id : Nat) : Int) _ = _
      rw [eo, Set08.has_eq (lt_pow h16) o16, bit_ne ⟨id, h16⟩ ⟨o, o16⟩ (by simp only [ne_eq, Fin.mk.injEq]; omega)]
  rw [e2, Option.bind_some, if_neg (by decide), Option.bind_some]
  have e3 : member_After.f (AN m0 m1 m2 m3 m4 p d id q st r ds se []).m0 (AN m0 m1 m2 m3 m4 p d id q st r ds se []).m1 (AN m0 m1 m2 m3 m4 p d id q st r ds se []).m2 (AN m0 m1 m2 m3 m4 p d id q st r ds se []).m3 (AN m0 m1 m2 m3 m4 p d id q st r ds se []).m4 (AN m0 m1 m2 m3 m4 p d id q st r ds se []).id (AN m0 m1 m2 m3 m4 p d id q st r ds se []).me (AN m0 m1 m2 m3 m4 p d id q st r ds se []).sl (AN m0 m1 m2 m3 m4 p d id q st r ds se []).ve = some (((2 ^ id : Nat) : Int), 0) := by
    show member_After.f m0 m1 m2 m3 m4 (id : Int) ((2 ^ id : Nat) : Int) (q : Int) 0 = _
    rw [Mem.after_eq (lt_pow h16) (by omega), if_pos ⟨hMG, by omega, by omega⟩, eo, Int.toNat_natCast, Int.toNat_natCast, haft]
  rw [e3, Option.bind_some, Option.bind_some]
  dsimp only
  rw [hfl]
  have e4 : medl_Last.f (AN m0 m1 m2 m3 m4 p d id q st r ds se []).m0 (AN m0 m1 m2 m3 m4 p d id q st r ds se []).m1 (AN m0 m1 m2 m3 m4 p d id q st r ds se []).m2 (AN m0 m1 m2 m3 m4 p d id q st r ds se []).m3 (AN m0 m1 m2 m3 m4 p d id q st r ds se []).m4 (AN m0 m1 m2 m3 m4 p d id q st r ds se []).sl = some (decide ((q : Int) % m0 + 1 = m0), 0) := la
  rw [e4, Option.bind_some, Option.bind_some]
  dsimp only
  rw [hfl]
  have e5 : (if (q : Int) % m0 = (AN m0 m1 m2 m3 m4 p d id q st r ds se []).id then (AN m0 m1 m2 m3 m4 p d id q st r ds se []).dev 0 else AN m0 m1 m2 m3 m4 p d id q st r ds se []) = AN m0 m1 m2 m3 m4 p d id q st r (if (q : Int) % m0 = id then true else ds) se [] := by
    by_cases h : (q : Int) % m0 = id
    · rw [if_pos (show (q : Int) % m0 = (AN m0 m1 m2 m3 m4 p d id q st r ds se []).id from h), if_pos h, hds h]
      unfold Rs.dev
      rw [if_pos (show ((AN m0 m1 m2 m3 m4 p d id q st r false se []).ds.length : Int) < (AN m0 m1 m2 m3 m4 p d id q st r false se []).m0 from by show (0 : Int) < m0; omega)]
      rfl
    · rw [if_neg (show ¬ (q : Int) % m0 = (AN m0 m1 m2 m3 m4 p d id q st r ds se []).id from h), if_neg h]
  rw [e5, Option.bind_some]
  generalize hds2 : (if (q : Int) % m0 = id then true else ds) = ds2
  rw [show wrap64 ((AN m0 m1 m2 m3 m4 p d id q st r ds2 se []).m1 + (AN m0 m1 m2 m3 m4 p d id q st r ds2 se []).co) = m1 from by show wrap64 (m1 + 0) = m1; rw [Int.add_zero]; exact Medl.w64 (by omega) (by omega)]
  rw [at_fine hk (AN m0 m1 m2 m3 m4 p d id q st r ds2 se []) hd hoc rfl (show 0 ≤ m1 by omega) (show m1 ≤ 1048576 by omega) s0 (show st ≤ _ by omega), Option.bind_some]
  unfold node_ends.r
  dsimp only
  rw [if_neg (show ¬ (AN m0 m1 m2 m3 m4 p d id q st r ds2 se []).sl = 4294967296 from by show ¬ (q : Int) = 4294967296; omega), Option.bind_some]
  have e6 : IntKind.u64.wrap ((AN m0 m1 m2 m3 m4 p d id q st r ds2 se []).sl + 1) = ((q + 1 : Nat) : Int) := by
    show IntKind.u64.wrap ((q : Int) + 1) = _
    rw [Medl.u64 (by omega) (by omega)]
    omega
  rw [e6]
  have e7 : ∀ x : Rs, x = AN m0 m1 m2 m3 m4 p d id (q + 1) (st + dur p d r m1) (rem p d r m1) ds2 false [] → (node_ends.c x (decide ((q : Int) % m0 + 1 = m0))).bind (fun s7 => node_ends.d k s7) = some (AN m0 m1 m2 m3 m4 p d id (q + 1) (st + dur p d r m1) (rem p d r m1) (if (q : Int) % m0 + 1 = m0 then false else ds2) false ((if (q : Int) % m0 + 1 = m0 then [⟨3, 0, z42, 8, 0⟩] else []) ++ [⟨1, st + dur p d r m1 + dur p d (rem p d r m1) (if ((q + 1 : Nat) : Int) % m0 = id then m2 else m1), z42, 0, 0⟩])) := by
    rintro x rfl
    unfold node_ends.c
    by_cases h : (q : Int) % m0 + 1 = m0
    · rw [decide_eq_true h, if_pos rfl, if_pos h, if_pos h, show fta_Correct.f (AN m0 m1 m2 m3 m4 p d id (q + 1) (st + dur p d r m1) (rem p d r m1) ds2 false []).m4 (AN m0 m1 m2 m3 m4 p d id (q + 1) (st + dur p d r m1) (rem p d r m1) ds2 false []).ds = some (0, 0) from corr0 (w := m4) (by omega) (by omega) ds2, Option.bind_some, Option.bind_some, Option.bind_some]
      have z := next_is (q := q + 1) (st := st + dur p d r m1) (r := rem p d r m1) hk hd ho (rem_oc hoc) hid (by omega) (by omega) (by omega) false [⟨3, 0, z42, 8, 0⟩]
      exact z
    · rw [decide_eq_false h, if_neg (by decide), if_neg h, if_neg h, Option.bind_some]
      have z := next_is (q := q + 1) (st := st + dur p d r m1) (r := rem p d r m1) hk hd ho (rem_oc hoc) hid (by omega) (by omega) (by omega) ds2 []
      exact z
  exact e7 _ rfl
theorem an_len {r st : Int} {q : Nat} (ds se : Bool) : (AN m0 m1 m2 m3 m4 p d id q st r ds se []).ac.length ≤ 900000 ∧ (AN m0 m1 m2 m3 m4 p d id q st r ds se []).ds.length ≤ 900000 := by
  constructor
  · exact Nat.zero_le _
  · cases ds
    · exact Nat.zero_le _
    · exact (by decide : (1 : Nat) ≤ 900000)
/-- What a timer does to it. -/
theorem tick_send {k : Nat} (hk : 40 ≤ k) (hd : W64 d) (ho : Ok m0 m1 m2 m3 m4) {r st : Int} (hoc : Oc p d r) (hid : (id : Int) < m0) {q : Nat} (hq : q ≤ 4294900000) (s0 : 0 ≤ st) (s1 : st ≤ 900000000000000000) (ds : Bool) (now : Int) (h : (q : Int) % m0 = id) :
    node_tick.f k now (AN m0 m1 m2 m3 m4 p d id q st r ds false []) = node_sends.f k (AN m0 m1 m2 m3 m4 p d id q st r ds false []) := by
  have ow : medl_Owner.f m0 m1 m2 m3 m4 (q : Int) = some ((q : Int) % m0, 0) := owner_ok ho (by omega) (by omega)
  unfold node_tick.f
  rw [if_neg (show ¬ (AN m0 m1 m2 m3 m4 p d id q st r ds false []).ph = 1 from (by decide : ¬ ((2 : Int) = 1))), if_pos (show (AN m0 m1 m2 m3 m4 p d id q st r ds false []).ph = 2 from rfl), show medl_Owner.f (AN m0 m1 m2 m3 m4 p d id q st r ds false []).m0 (AN m0 m1 m2 m3 m4 p d id q st r ds false []).m1 (AN m0 m1 m2 m3 m4 p d id q st r ds false []).m2 (AN m0 m1 m2 m3 m4 p d id q st r ds false []).m3 (AN m0 m1 m2 m3 m4 p d id q st r ds false []).m4 (AN m0 m1 m2 m3 m4 p d id q st r ds false []).sl = some ((q : Int) % m0, 0) from ow, Option.bind_some, Option.bind_some, if_pos (show (AN m0 m1 m2 m3 m4 p d id q st r ds false []).ac.length ≤ 900000 ∧ (AN m0 m1 m2 m3 m4 p d id q st r ds false []).ds.length ≤ 900000 from an_len ds _)]
  dsimp only
  rw [if_pos (show (q : Int) % m0 = (AN m0 m1 m2 m3 m4 p d id q st r ds false []).id from h), if_pos (show (AN m0 m1 m2 m3 m4 p d id q st r ds false []).se = false from rfl)]
  rfl
theorem tick_end {k : Nat} (hk : 40 ≤ k) (hd : W64 d) (ho : Ok m0 m1 m2 m3 m4) {r st : Int} (hoc : Oc p d r) (hid : (id : Int) < m0) {q : Nat} (hq : q ≤ 4294900000) (s0 : 0 ≤ st) (s1 : st ≤ 900000000000000000) (ds se : Bool) (now : Int) (h : (q : Int) % m0 = id → se = true) :
    node_tick.f k now (AN m0 m1 m2 m3 m4 p d id q st r ds se []) = node_ends.f k (AN m0 m1 m2 m3 m4 p d id q st r ds se []) := by
  have ow : medl_Owner.f m0 m1 m2 m3 m4 (q : Int) = some ((q : Int) % m0, 0) := owner_ok ho (by omega) (by omega)
  unfold node_tick.f
  rw [if_neg (show ¬ (AN m0 m1 m2 m3 m4 p d id q st r ds se []).ph = 1 from (by decide : ¬ ((2 : Int) = 1))), if_pos (show (AN m0 m1 m2 m3 m4 p d id q st r ds se []).ph = 2 from rfl), show medl_Owner.f (AN m0 m1 m2 m3 m4 p d id q st r ds se []).m0 (AN m0 m1 m2 m3 m4 p d id q st r ds se []).m1 (AN m0 m1 m2 m3 m4 p d id q st r ds se []).m2 (AN m0 m1 m2 m3 m4 p d id q st r ds se []).m3 (AN m0 m1 m2 m3 m4 p d id q st r ds se []).m4 (AN m0 m1 m2 m3 m4 p d id q st r ds se []).sl = some ((q : Int) % m0, 0) from ow, Option.bind_some, Option.bind_some, if_pos (show (AN m0 m1 m2 m3 m4 p d id q st r ds se []).ac.length ≤ 900000 ∧ (AN m0 m1 m2 m3 m4 p d id q st r ds se []).ds.length ≤ 900000 from an_len ds _)]
  dsimp only
  by_cases c : (q : Int) % m0 = id
  · rw [if_pos (show (q : Int) % m0 = (AN m0 m1 m2 m3 m4 p d id q st r ds se []).id from c), if_neg (show ¬ (AN m0 m1 m2 m3 m4 p d id q st r ds se []).se = false from by show ¬ se = false; rw [h c]; decide)]
    rfl
  · rw [if_neg (show ¬ (q : Int) % m0 = (AN m0 m1 m2 m3 m4 p d id q st r ds se []).id from c)]
    rfl
theorem timer_an {k : Nat} (hk : 200 ≤ k) (hd : W64 d) (ho : Ok m0 m1 m2 m3 m4) {r st : Int} (hoc : Oc p d r) (hid : (id : Int) < m0) {q : Nat} (hq : q ≤ 4294900000) (s0 : 0 ≤ st) (s1 : st ≤ 900000000000000000) (ds se : Bool) {now : Int} (h0 : 0 ≤ now) (h1 : now ≤ 1008806316530991104) {q' : Nat} {st' r' : Int} {ds' se' : Bool} {ac : List Act}
    (ht : node_tick.f k now (AN m0 m1 m2 m3 m4 p d id q st r ds se []) = some (AN m0 m1 m2 m3 m4 p d id q' st' r' ds' se' ac)) :
    node_Timer.f k m0 m1 m2 m3 m4 id 2 q st p d r 0 (2 ^ id : Nat) 1 0 (if ds = true then [0] else []) se 0 now = some ((id : Int), 2, (q' : Int), st', p, d, r', 0, ((2 ^ id : Nat) : Int), 1, 0, (if ds' = true then [0] else []), se', 0, ac, 0) := by
  have hN := nok_an (id := id) (p := p) (d := d) ho hoc hid (q := q) (by omega) s0 (by omega) ds se
  unfold node_Timer.f
  rw [begin13 hd (by cases ds <;> decide) (by cases ds <;> simp <;> omega), if_pos ⟨hN, h0, by unfold Tm; omega⟩, Option.bind_some, if_pos rfl]
  rw [show node_tick.f k now ⟨(id : Int), 2, (q : Int), st, p, d, r, 0, ((2 ^ id : Nat) : Int), 1, 0, (if ds = true then [0] else []), se, 0, m0, m1, m2, m3, m4, [], 0⟩ = some (AN m0 m1 m2 m3 m4 p d id q' st' r' ds' se' ac) from ht, Option.bind_some]
  rfl
/-- It starts. -/
theorem timer_ln {k : Nat} (hk : 200 ≤ k) (hd : W64 d) (ho : Ok m0 m1 m2 m3 m4) {r st : Int} (hoc : Oc p d r) (hid : (id : Int) < m0) (hN : Nok m0 m1 m2 m3 m4 id 1 0 st p d r 0 0 0 0 [] false 0) {now : Int} (h0 : 0 ≤ now) (h1 : now ≤ 900000000000000000) :
    node_Timer.f k m0 m1 m2 m3 m4 id 1 0 st p d r 0 0 0 0 [] false 0 now = some ((id : Int), 2, (id : Int), now, p, d, r, 0, ((2 ^ id : Nat) : Int), 1, 0, [], false, 0, [⟨3, 0, z42, 2, 0⟩, ⟨1, now + dur p d r m2, z42, 0, 0⟩], 0) := by
  have ho' := ho
  unfold Ok at ho'
  have h16 : id < 16 := by omega
  unfold node_Timer.f
  rw [begin13 hd (by decide) (by simp; omega), if_pos ⟨hN, h0, by unfold Tm; omega⟩, Option.bind_some, if_pos rfl]
  unfold node_tick.f
  rw [if_pos rfl]
  unfold node_starts.f
  dsimp only
  rw [show frame_With.f 0 (id : Int) = some ((2 ^ id : Nat) : Int) from by rw [show (0 : Int) = ((0 : Nat) : Int) from rfl, Set08.with_eq (by decide) h16, wi_zero h16], Option.bind_some, show IntKind.u64.wrap (id : Int) = id from Medl.u64 (by omega) (by omega)]
  rw [tmr (by omega) _ hd hoc rfl (show 0 ≤ m2 by omega) (show m2 ≤ 1048576 by omega) h0 (show now ≤ _ by omega), Option.bind_some]
  rfl
theorem wake_is {k : Nat} (hk : 200 ≤ k) (hd : W64 d) {r s : Int} (h : Nok m0 m1 m2 m3 m4 id 0 0 0 p d r 0 0 0 0 [] false 0) (s0 : 0 ≤ s) (s1 : s ≤ 1099511627775) : ∃ T, s ≤ T ∧ T ≤ 144115188075855872 + s ∧ node_Wake.f k m0 m1 m2 m3 m4 id 0 0 0 p d r 0 0 0 0 [] false 0 s = some ((id : Int), 1, 0, s, p, d, r, 0, 0, 0, 0, [], false, 0, [⟨3, 0, z42, 1, 0⟩, ⟨1, T, z42, 0, 0⟩], 0) := by
  have ho : Ok m0 m1 m2 m3 m4 := h.1.1
  have hoc : Oc p d r := h.1.2.1
  have hid := h.1.2.2.1
  unfold Ok at ho
  have e1 : (2 * (m0 + id)) ≤ 2 * 31 := by omega
  have e2 : m1 * (2 * (m0 + id)) ≤ 1048576 * (2 * 31) := Int.mul_le_mul (by omega) e1 (by omega) (by omega)
  have e3 : 0 ≤ m1 * (2 * (m0 + id)) := Int.mul_nonneg (by omega) (by omega)
  have b := run_small hoc e3 (by omega)
  refine ⟨s + (rt p d * (m1 * (2 * (m0 + id))) + r) / 1000000000, by omega, by omega, ?_⟩
  unfold node_Wake.f
  rw [begin13 hd (by simp) (by simp; omega), if_pos ⟨h, s0, by unfold Tm; omega⟩, Option.bind_some, if_pos rfl]
  have hwk : node_wakes.f k m0 m1 s ⟨id, 0, 0, 0, p, d, r, 0, 0, 0, 0, [], false, 0, m0, m1, m2, m3, m4, [], 0⟩ = node_timer.f k ⟨id, 1, 0, s, p, d, r, 0, 0, 0, 0, [], false, 0, m0, m1, m2, m3, m4, [⟨3, 0, z42, 1, 0⟩], 0⟩ (wrap64 (m1 * wrap64 (2 * wrap64 (m0 + id)))) := rfl
  rw [hwk]
  rw [show wrap64 (m0 + (id : Int)) = m0 + id from Medl.w64 (by omega) (by omega), show wrap64 (2 * (m0 + (id : Int))) = 2 * (m0 + id) from Medl.w64 (by omega) (by omega), show wrap64 (m1 * (2 * (m0 + (id : Int)))) = m1 * (2 * (m0 + id)) from Medl.w64 (by omega) (by omega)]
  rw [timer_fine (by omega) _ hd hoc rfl e3 (by omega) s0 (show s ≤ _ by omega), Option.bind_some]
  rfl
end

/-! The law's loops. -/
def TL (ac : List Act) (T : Int) : Prop := ∀ k, 10 ≤ k → palletlaw13_timers.f k ac = some [T]
theorem tl1 (T : Int) : TL [⟨1, T, z42, 0, 0⟩] T := fun k hk => by
  obtain ⟨k, rfl⟩ : ∃ z, k = z + 5 := ⟨k - 5, by omega⟩
  unfold palletlaw13_timers.f
  simp [palletlaw13_timers.l0, rd_T44, wrap64]
theorem tl2 (a b T : Int) : TL [⟨3, 0, z42, a, b⟩, ⟨1, T, z42, 0, 0⟩] T := fun k hk => by
  obtain ⟨k, rfl⟩ : ∃ z, k = z + 5 := ⟨k - 5, by omega⟩
  unfold palletlaw13_timers.f
  simp [palletlaw13_timers.l0, rd_T44, wrap64]
theorem tl3 (F : S42) (a b T : Int) : TL [⟨2, 0, F, 0, 0⟩, ⟨3, 0, z42, a, b⟩, ⟨1, T, z42, 0, 0⟩] T := fun k hk => by
  obtain ⟨k, rfl⟩ : ∃ z, k = z + 5 := ⟨k - 5, by omega⟩
  unfold palletlaw13_timers.f
  simp [palletlaw13_timers.l0, rd_T44, wrap64]
section
variable {id a4 sent now tot i m0 m1 m2 m3 m4 x0 x1 x2 x3 x4 x5 x6 x7 x8 x9 x10 : Int} {x11 : List Int} {x12 : Bool} {x13 : Int}
theorem act_other (z : Nat) (l : List Act) (n e : Int) (A : Act) (h1 : e < n) (h2 : 0 ≤ e) (h3 : e < l.length) (hA : rd_T44 l e = A) (hk : A.f0 ≠ 2) (hn : A.f0 = 3 → A.f3 ≠ 4 ∧ A.f3 ≠ 9 ∧ (A.f3 = 8 → A.f4 = 0)) :
    palletlaw13_NodeSends.l1 (z + 3) id a4 true l sent now tot i l n e m0 m1 m2 m3 m4 x0 x1 x2 x3 x4 x5 x6 x7 x8 x9 x10 x11 x12 x13 = palletlaw13_NodeSends.l1 z id a4 true l sent now tot i l n (wrap64 (e + 1)) m0 m1 m2 m3 m4 x0 x1 x2 x3 x4 x5 x6 x7 x8 x9 x10 x11 x12 x13 := by
  have j5 : ∀ b : Bool, b = false → palletlaw13_NodeSends.j5 (z + 1) id a4 true l sent now tot i l n e b m0 m1 m2 m3 m4 x0 x1 x2 x3 x4 x5 x6 x7 x8 x9 x10 x11 x12 x13 = palletlaw13_NodeSends.l1 z id a4 true l sent now tot i l n (wrap64 (e + 1)) m0 m1 m2 m3 m4 x0 x1 x2 x3 x4 x5 x6 x7 x8 x9 x10 x11 x12 x13 := fun b hb => by
    rw [palletlaw13_NodeSends.j5, hb, if_neg (by decide)]
  rw [palletlaw13_NodeSends.l1, if_pos h1, if_pos h2, if_pos h3, hA, if_neg hk, palletlaw13_NodeSends.j4]
  by_cases c : A.f0 = 3
  · obtain ⟨n4, n9, n8⟩ := hn c
    rw [if_pos c]
    by_cases c8 : A.f3 = 8
    · rw [if_pos c8, if_pos (n8 c8), if_neg n4]
      exact j5 _ (beq_eq_false_iff_ne.2 n9)
    · rw [if_neg c8, if_neg n4]
      exact j5 _ (beq_eq_false_iff_ne.2 n9)
  · rw [if_neg c]
    exact j5 _ rfl
theorem act_send (z : Nat) (l : List Act) (n e q f3 : Int) (h1 : e < n) (h2 : 0 ≤ e) (h3 : e < l.length) (hA : rd_T44 l e = ⟨2, 0, ⟨2, id, q, f3⟩, 0, 0⟩) (hw : frame_With.f 0 id = some f3) (hq : IntKind.u64.wrap (wrap64 (id + wrap64 (m0 * sent))) = q) :
    palletlaw13_NodeSends.l1 (z + 3) id a4 true l sent now tot i l n e m0 m1 m2 m3 m4 x0 x1 x2 x3 x4 x5 x6 x7 x8 x9 x10 x11 x12 x13 = palletlaw13_NodeSends.l1 z id a4 true l (wrap64 (sent + 1)) now tot i l n (wrap64 (e + 1)) m0 m1 m2 m3 m4 x0 x1 x2 x3 x4 x5 x6 x7 x8 x9 x10 x11 x12 x13 := by
  rw [palletlaw13_NodeSends.l1, if_pos h1, if_pos h2, if_pos h3, hA, if_pos rfl, hw, Option.bind_some]
  dsimp only
  rw [hq, if_neg (by simp), palletlaw13_NodeSends.j4, if_neg (by decide), palletlaw13_NodeSends.j5, if_neg (by decide)]
theorem w01 : wrap64 (0 + 1) = 1 := by decide +kernel
theorem w12 : wrap64 (1 + 1) = 2 := by decide +kernel
theorem w23 : wrap64 (2 + 1) = 3 := by decide +kernel
theorem acts_end (z : Nat) (l : List Act) (n : Int) (hn : wrap64 n = n) :
    palletlaw13_NodeSends.l1 (z + 1) id a4 true l sent now tot i l n n m0 m1 m2 m3 m4 x0 x1 x2 x3 x4 x5 x6 x7 x8 x9 x10 x11 x12 x13 = palletlaw13_NodeSends.l0 z id a4 true l sent now tot (wrap64 (i + 1)) m0 m1 m2 m3 m4 x0 x1 x2 x3 x4 x5 x6 x7 x8 x9 x10 x11 x12 x13 := by
  rw [palletlaw13_NodeSends.l1, if_neg (by omega)]
theorem acts1 (z : Nat) (T : Int) : palletlaw13_NodeSends.l1 (z + 4) id a4 true [⟨1, T, z42, 0, 0⟩] sent now tot i [⟨1, T, z42, 0, 0⟩] 1 0 m0 m1 m2 m3 m4 x0 x1 x2 x3 x4 x5 x6 x7 x8 x9 x10 x11 x12 x13 = palletlaw13_NodeSends.l0 z id a4 true [⟨1, T, z42, 0, 0⟩] sent now tot (wrap64 (i + 1)) m0 m1 m2 m3 m4 x0 x1 x2 x3 x4 x5 x6 x7 x8 x9 x10 x11 x12 x13 := by
  rw [act_other (z + 1) _ 1 0 ⟨1, T, z42, 0, 0⟩ (by decide) (by decide) (by simp) rfl (show (1 : Int) ≠ 2 from by decide) (fun h => absurd h (show ¬ (1 : Int) = 3 from by decide)), w01, acts_end z _ 1 (by decide +kernel)]
theorem acts2 (z : Nat) (a b T : Int) (h4 : a ≠ 4) (h9 : a ≠ 9) (h8 : a = 8 → b = 0) : palletlaw13_NodeSends.l1 (z + 7) id a4 true [⟨3, 0, z42, a, b⟩, ⟨1, T, z42, 0, 0⟩] sent now tot i [⟨3, 0, z42, a, b⟩, ⟨1, T, z42, 0, 0⟩] 2 0 m0 m1 m2 m3 m4 x0 x1 x2 x3 x4 x5 x6 x7 x8 x9 x10 x11 x12 x13 = palletlaw13_NodeSends.l0 z id a4 true [⟨3, 0, z42, a, b⟩, ⟨1, T, z42, 0, 0⟩] sent now tot (wrap64 (i + 1)) m0 m1 m2 m3 m4 x0 x1 x2 x3 x4 x5 x6 x7 x8 x9 x10 x11 x12 x13 := by
  rw [act_other (z + 4) _ 2 0 ⟨3, 0, z42, a, b⟩ (by decide) (by decide) (by simp) rfl (show (3 : Int) ≠ 2 from by decide) (fun _ => ⟨h4, h9, h8⟩), w01, act_other (z + 1) _ 2 1 ⟨1, T, z42, 0, 0⟩ (by decide) (by decide) (by simp) rfl (show (1 : Int) ≠ 2 from by decide) (fun h => absurd h (show ¬ (1 : Int) = 3 from by decide)), w12, acts_end z _ 2 (by decide +kernel)]
theorem acts3 (z : Nat) (a b T q f3 : Int) (hw : frame_With.f 0 id = some f3) (hq : IntKind.u64.wrap (wrap64 (id + wrap64 (m0 * sent))) = q) (h4 : a ≠ 4) (h9 : a ≠ 9) (h8 : a ≠ 8) : palletlaw13_NodeSends.l1 (z + 10) id a4 true [⟨2, 0, ⟨2, id, q, f3⟩, 0, 0⟩, ⟨3, 0, z42, a, b⟩, ⟨1, T, z42, 0, 0⟩] sent now tot i [⟨2, 0, ⟨2, id, q, f3⟩, 0, 0⟩, ⟨3, 0, z42, a, b⟩, ⟨1, T, z42, 0, 0⟩] 3 0 m0 m1 m2 m3 m4 x0 x1 x2 x3 x4 x5 x6 x7 x8 x9 x10 x11 x12 x13 = palletlaw13_NodeSends.l0 z id a4 true [⟨2, 0, ⟨2, id, q, f3⟩, 0, 0⟩, ⟨3, 0, z42, a, b⟩, ⟨1, T, z42, 0, 0⟩] (wrap64 (sent + 1)) now tot (wrap64 (i + 1)) m0 m1 m2 m3 m4 x0 x1 x2 x3 x4 x5 x6 x7 x8 x9 x10 x11 x12 x13 := by
  rw [act_send (z + 7) _ 3 0 q f3 (by decide) (by decide) (by simp) rfl hw hq, w01, act_other (z + 4) _ 3 1 ⟨3, 0, z42, a, b⟩ (by decide) (by decide) (by simp) rfl (show (3 : Int) ≠ 2 from by decide) (fun _ => ⟨h4, h9, fun h => absurd h h8⟩), w12, act_other (z + 1) _ 3 2 ⟨1, T, z42, 0, 0⟩ (by decide) (by decide) (by simp) rfl (show (1 : Int) ≠ 2 from by decide) (fun h => absurd h (show ¬ (1 : Int) = 3 from by decide)), w23, acts_end z _ 3 (by decide +kernel)]
/-- One round of the law's loop. -/
theorem l0_step {y0 y1 y2 y3 y4 y5 y6 y7 y8 y9 y10 : Int} {y11 : List Int} {y12 : Bool} {y13 : Int} (z : Nat) (ac ac' : List Act) (T : Int) (hz : 10 ≤ z) (hT : TL ac T) (hle : now ≤ T) (hi : i < tot) (h2 : y1 = 2) (ht : node_Timer.f (z + 1) m0 m1 m2 m3 m4 x0 x1 x2 x3 x4 x5 x6 x7 x8 x9 x10 x11 x12 x13 T = some (y0, y1, y2, y3, y4, y5, y6, y7, y8, y9, y10, y11, y12, y13, ac', 0)) :
    palletlaw13_NodeSends.l0 (z + 3) id a4 true ac sent now tot i m0 m1 m2 m3 m4 x0 x1 x2 x3 x4 x5 x6 x7 x8 x9 x10 x11 x12 x13 = palletlaw13_NodeSends.l1 z id a4 true ac' sent T tot i ac' (ac'.length : Int) 0 m0 m1 m2 m3 m4 y0 y1 y2 y3 y4 y5 y6 y7 y8 y9 y10 y11 y12 y13 := by
  rw [palletlaw13_NodeSends.l0, if_pos hi, hT _ (by omega), Option.bind_some, if_pos (show (([T] : List Int).length : Int) = 1 from rfl), if_pos (show 0 < (([T] : List Int).length : Int) from (by decide : (0 : Int) < 1)), show rd [T] 0 = T from rfl, decide_eq_false (show ¬ T < now by omega), palletlaw13_NodeSends.j1, if_neg (by decide), if_pos (show 0 < (([T] : List Int).length : Int) from (by decide : (0 : Int) < 1)), show rd [T] 0 = T from rfl, ht, Option.bind_some, if_pos rfl]
  dsimp only
  rw [palletlaw13_NodeSends.j2, if_neg (by rw [h2]; decide)]
end
def lim (n : Nat) : Int := 150000000000000000 + n * 1125899906842624
theorem lim_succ (n : Nat) : lim (n + 1) = lim n + 1125899906842624 := by
  unfold lim
  rw [Int.natCast_add, Int.add_mul]
  omega
theorem lim_le {n : Nat} (h : n ≤ 68) : lim n ≤ 300000000000000000 := by unfold lim; omega
theorem lim_step {n : Nat} {a b : Int} (h : a ≤ lim n) (hb : b ≤ 1125899906842624) : a + b ≤ lim (n + 1) := by rw [lim_succ]; omega
theorem lim_up {n : Nat} {a : Int} (h : a ≤ lim n) : a ≤ lim (n + 1) := by rw [lim_succ]; omega
theorem qmod {N id : Nat} (s j : Nat) (hid : id < N) (hj : j < N) : (((id + N * s + j : Nat) : Int) % (N : Int)) = ((if id + j < N then id + j else id + j - N : Nat) : Int) := by
  rw [show ((id + N * s + j : Nat) : Int) % (N : Int) = (((id + N * s + j) % N : Nat) : Int) from rfl, show id + N * s + j = id + j + N * s by omega, Nat.add_mul_mod_self_left]
  split
  · rename_i h
    rw [Nat.mod_eq_of_lt h]
  · rename_i h
    rw [Nat.mod_eq_sub_mod (by omega), Nat.mod_eq_of_lt (by omega)]
theorem rounds {R s N e : Nat} (h : 1 + s * (N + 1) + e = R * (N + 1)) (he : e ≤ N) : R = s + 1 ∧ e = N := by
  have h1 : s < R := by
    refine Nat.lt_of_mul_lt_mul_right (a := N + 1) ?_
    omega
  have h2 : R < s + 2 := by
    refine Nat.lt_of_mul_lt_mul_right (a := N + 1) ?_
    rw [Nat.add_mul]
    omega
  have h3 : R = s + 1 := by omega
  subst h3
  rw [Nat.add_mul] at h
  omega
section
variable {m1 m2 m3 m4 p d a4 : Int} {N R id : Nat}
theorem loop (hd : W64 d) (ho : Ok (N : Int) m1 m2 m3 m4) (hid : id < N) (hR : R ≤ 4) (hRa : (Int.tmod a4 4 + 1) % 256 = (R : Int)) :
    ∀ (n s j e sn : Nat) (se ds : Bool) (st r now T : Int) (ac : List Act) (k : Nat), Oc p d r → TL ac T → 0 ≤ now → now ≤ T → T = st + dur p d r (if j = 0 ∧ se = false then m2 else m1) → 0 ≤ st → st ≤ lim (1 + s * (N + 1) + e) → j < N → (ds = true → 1 ≤ j ∧ id + j + 1 ≤ N) →
      ((j = 0 ∧ se = false ∧ e = 0 ∧ sn = s) ∨ (j = 0 ∧ se = true ∧ e = 1 ∧ sn = s + 1) ∨ (1 ≤ j ∧ se = false ∧ e = j + 1 ∧ sn = s + 1)) → 1 + s * (N + 1) + e + n = R * (N + 1) → 300 + 40 * n ≤ k →
      palletlaw13_NodeSends.l0 k id a4 true ac sn now ((R * (N + 1) : Nat) : Int) ((1 + s * (N + 1) + e : Nat) : Int) N m1 m2 m3 m4 id 2 ((id + N * s + j : Nat) : Int) st p d r 0 ((2 ^ id : Nat) : Int) 1 0 (if ds = true then [0] else []) se 0 = some true := by
  have ho' := ho
  unfold Ok at ho'
  have h16 : id < 16 := by omega
  have hw : frame_With.f 0 (id : Int) = some ((2 ^ id : Nat) : Int) := by
    rw [show (0 : Int) = ((0 : Nat) : Int) from rfl, Set08.with_eq (by decide) h16, wi_zero h16]
  have hRN : R * (N + 1) ≤ 4 * 17 := Nat.mul_le_mul hR (by omega)
  intro n
  induction n with
  | zero =>
    intro s j e sn se ds st r now T ac k hoc hT h0 hle eT s0 s1 hj hds hph hi hk
    obtain ⟨k, rfl⟩ : ∃ z, k = z + 1 := ⟨k - 1, by omega⟩
    obtain ⟨eR, eN⟩ := rounds (by omega) (show e ≤ N by rcases hph with h | h | h <;> omega)
    have e3 : sn = R := by rcases hph with h | h | h <;> omega
    rw [palletlaw13_NodeSends.l0, if_neg (by omega), if_pos rfl, if_pos (by omega), hRa, decide_eq_true (by omega)]
  | succ n ih =>
    intro s j e sn se ds st r now T ac k hoc hT h0 hle eT s0 s1 hj hds hph hi hk
    have hs : s < R := by
      refine Nat.lt_of_mul_lt_mul_right (a := N + 1) ?_
      omega
    have hNs : N * s ≤ 16 * 4 := Nat.mul_le_mul (by omega) (by omega)
    have hq : id + N * s + j ≤ 4294900000 := by omega
    have b := dur_small hoc (t := m1) (by omega) (by omega)
    have b2 := dur_small hoc (t := m2) (by omega) (by omega)
    have hmono := dur_mono hoc (t := m2) (u := m1) (by omega) (by omega)
    have hst : st ≤ 900000000000000000 := by
      have := lim_le (n := 1 + s * (N + 1) + e) (by omega)
      omega
    have hidm : (id : Int) < (N : Int) := by omega
    have hmod := qmod s j hid hj
    have hT9 : T ≤ 1008806316530991104 := by
      rw [eT]
      split <;> omega
    have hT0 : 0 ≤ T := by omega
    obtain ⟨z, rfl⟩ : ∃ z, k = z + 13 := ⟨k - 13, by omega⟩
    have hlt : ((1 + s * (N + 1) + e : Nat) : Int) < ((R * (N + 1) : Nat) : Int) := by omega
    rcases hph with ⟨j0, e1, e2, e3⟩ | hph
    · -- its own slot: it sends
      rw [e3]
      clear e3
      subst j0 e1 e2
      have eds : ds = false := by
        cases ds
        · rfl
        · have := (hds rfl).1
          omega
      subst eds
      have hown : ((id + N * s + 0 : Nat) : Int) % (N : Int) = id := by rw [hmod, if_pos (by omega)]; omega
      have eT' : T = st + dur p d r m2 := by rw [eT, if_pos ⟨rfl, rfl⟩]
      have ht := timer_an (k := z + 11) (now := T) (by omega) hd ho hoc hidm hq s0 hst false false hT0 hT9 ((tick_send (by omega) hd ho hoc hidm hq s0 hst false T hown).trans (sends_is (by omega) hd ho hoc hidm (by omega) s0 (by omega) false))
      rw [l0_step (z + 10) ac _ T (by omega) hT hle hlt rfl ht]
      have hqq : IntKind.u64.wrap (wrap64 ((id : Int) + wrap64 ((N : Int) * (s : Int)))) = ((id + N * s + 0 : Nat) : Int) := by
        have e1 : (N : Int) * (s : Int) = ((N * s : Nat) : Int) := by rw [Int.natCast_mul]
        rw [e1, Medl.w64 (x := ((N * s : Nat) : Int)) (by omega) (by omega), Medl.w64 (by omega) (by omega), Medl.u64 (by omega) (by omega)]
        omega
      have e3 : ∀ x : List Act, x.length = 3 → (x.length : Int) = 3 := fun x hx => by rw [hx]; rfl
      rw [e3 _ rfl, acts3 z 10 _ _ _ _ hw hqq (by decide) (by decide) (by decide)]
      rw [show wrap64 ((s : Int) + 1) = ((s + 1 : Nat) : Int) from by rw [Medl.w64 (by omega) (by omega)]; omega, show wrap64 (((1 + s * (N + 1) + 0 : Nat) : Int) + 1) = ((1 + s * (N + 1) + 1 : Nat) : Int) from by rw [Medl.w64 (by omega) (by omega)]; omega]
      exact ih s 0 1 (s + 1) true false st r T (st + dur p d r m1) _ z hoc (tl3 _ _ _ _) hT0 (by omega) (by rw [if_neg (fun q => by cases q.2)]) s0 (lim_up s1) hj (fun q => by cases q) (Or.inr (Or.inl ⟨rfl, rfl, rfl, rfl⟩)) (by omega) (by omega)
    · -- the slot ends
      have hse : ((id + N * s + j : Nat) : Int) % (N : Int) = id → se = true := by
        intro h
        rw [hmod] at h
        rcases hph with q | q
        · exact q.2.1
        · exfalso
          have := q.1
          split at h <;> omega
      have hds2 : ((id + N * s + j : Nat) : Int) % (N : Int) = id → ds = false := by
        intro h
        cases hh : ds
        · rfl
        · have q := hds hh
          rw [hmod, if_pos (by omega)] at h
          omega
      have eT' : T = st + dur p d r m1 := by
        rw [eT, if_neg]
        rintro ⟨q1, q2⟩
        rcases hph with q | q
        · rw [q.2.1] at q2
          cases q2
        · omega
      have he : e = j + 1 := by rcases hph with q | q <;> omega
      have hsn : sn = s + 1 := by rcases hph with q | q <;> omega
      have ht := timer_an (k := z + 11) (now := T) (by omega) hd ho hoc hidm hq s0 hst ds se hT0 hT9 ((tick_end (by omega) hd ho hoc hidm hq s0 hst ds se T hse).trans (ends_is (by omega) hd ho hoc hidm hq s0 hst ds se hds2))
      rw [l0_step (z + 10) ac _ T (by omega) hT hle hlt rfl ht]
      -- the state behind
      have b3 := dur_small (rem_oc (t := m1) hoc) (t := m1) (by omega) (by omega)
      have b4 := dur_small (rem_oc (t := m1) hoc) (t := m2) (by omega) (by omega)
      have hi1 : wrap64 (((1 + s * (N + 1) + e : Nat) : Int) + 1) = ((1 + s * (N + 1) + (e + 1) : Nat) : Int) := by rw [Medl.w64 (by omega) (by omega)]; omega
      have key : ∀ (ds' : Bool) (ac' : List Act) (k' : Nat), 300 + 40 * n ≤ k' → TL ac' (st + dur p d r m1 + dur p d (rem p d r m1) (if ((id + N * s + j + 1 : Nat) : Int) % (N : Int) = id then m2 else m1)) → (ds' = true → id + (j + 1) + 1 ≤ N) →
          palletlaw13_NodeSends.l0 k' id a4 true ac' sn T ((R * (N + 1) : Nat) : Int) ((1 + s * (N + 1) + (e + 1) : Nat) : Int) N m1 m2 m3 m4 id 2 ((id + N * s + j + 1 : Nat) : Int) (st + dur p d r m1) p d (rem p d r m1) 0 ((2 ^ id : Nat) : Int) 1 0 (if ds' = true then [0] else []) false 0 = some true := by
        intro ds' ac' k' hk' hT' hd'
        by_cases hj1 : j + 1 < N
        · have hm := qmod s (j + 1) hid hj1
          have hne : ¬ ((id + N * s + j + 1 : Nat) : Int) % (N : Int) = id := by
            rw [show id + N * s + j + 1 = id + N * s + (j + 1) by omega, hm]
            split <;> omega
          rw [if_neg hne] at hT'
          have := ih s (j + 1) (e + 1) sn false ds' (st + dur p d r m1) (rem p d r m1) T _ ac' k' (rem_oc hoc) hT' hT0 (by omega) (by rw [if_neg (fun q => by have := q.1; omega)]) (by omega) (lim_step s1 b.2) hj1 (fun q => ⟨by omega, hd' q⟩) (Or.inr (Or.inr ⟨by omega, rfl, by omega, hsn⟩)) (by omega) hk'
          exact this
        · have hjN : j + 1 = N := by omega
          have hq2 : id + N * s + j + 1 = id + N * (s + 1) + 0 := by rw [Nat.mul_add]; omega
          have hm := qmod (s + 1) 0 hid (by omega)
          have heq : ((id + N * s + j + 1 : Nat) : Int) % (N : Int) = id := by
            rw [hq2, hm, if_pos (by omega)]
            omega
          rw [if_pos heq] at hT'
          have ed : ds' = false := by
            cases hh : ds'
            · rfl
            · have := hd' hh
              omega
          subst ed
          have hi2 : 1 + s * (N + 1) + (e + 1) = 1 + (s + 1) * (N + 1) + 0 := by rw [Nat.add_mul]; omega
          have hi3 : 1 + (s + 1) * (N + 1) + 0 + n = R * (N + 1) := by
            rw [← hi2]
            clear ih hT' hi1
            omega
          rw [hq2, hi2, hsn]
          exact ih (s + 1) 0 0 (s + 1) false false (st + dur p d r m1) (rem p d r m1) T _ ac' k' (rem_oc hoc) hT' hT0 (by omega) (by rw [if_pos ⟨rfl, rfl⟩]) (by omega) (by rw [← hi2]; exact lim_step s1 b.2) (by omega) (fun q => by cases q) (Or.inl ⟨rfl, rfl, rfl, rfl⟩) hi3 hk'
      have hds3 : (if ((id + N * s + j : Nat) : Int) % (N : Int) + 1 = (N : Int) then false else if ((id + N * s + j : Nat) : Int) % (N : Int) = id then true else ds) = true → id + (j + 1) + 1 ≤ N := by
        intro h
        by_cases hl : ((id + N * s + j : Nat) : Int) % (N : Int) + 1 = (N : Int)
        · rw [if_pos hl] at h
          cases h
        · rw [if_neg hl] at h
          rw [hmod] at hl h
          by_cases ho2 : ((if id + j < N then id + j else id + j - N : Nat) : Int) = id
          · split at ho2 <;> rename_i c <;> (first | (rw [if_pos c] at hl; omega) | (exfalso; omega))
          · rw [if_neg ho2] at h
            have q := hds h
            rw [if_pos (by omega)] at hl
            omega
      by_cases hl : ((id + N * s + j : Nat) : Int) % (N : Int) + 1 = (N : Int)
      · rw [if_pos hl] at hds3 ⊢
        rw [if_pos hl]
        have e2 : ∀ x : List Act, x.length = 2 → (x.length : Int) = 2 := fun x hx => by rw [hx]; rfl
        rw [List.singleton_append, e2 _ rfl, acts2 (z + 3) 8 0 _ (by decide) (by decide) (fun _ => rfl), hi1]
        exact key false _ (z + 3) (by omega) (tl2 _ _ _) hds3
      · rw [if_neg hl] at hds3 ⊢
        rw [if_neg hl]
        have e1 : ∀ x : List Act, x.length = 1 → (x.length : Int) = 1 := fun x hx => by rw [hx]; rfl
        rw [List.nil_append, e1 _ rfl, acts1 (z + 6) _, hi1]
        exact key _ _ (z + 6) (by omega) (tl1 _) hds3
end
theorem NodeSends : ∀ (a0_0 : Int) (a0_1 : Int) (a0_2 : Int) (a0_3 : Int) (a0_4 : Int) (a1 : Int) (a2_0 : Int) (a2_1 : Int) (a2_2 : Int) (a3 : Int) (a4 : Int), (Lit.int .i64 a0_0).wf = true → (Lit.int .i64 a0_1).wf = true → (Lit.int .i64 a0_2).wf = true → (Lit.int .i64 a0_3).wf = true → (Lit.int .i64 a0_4).wf = true → (Lit.int .i64 a1).wf = true → (Lit.int .i64 a2_0).wf = true → (Lit.int .i64 a2_1).wf = true → (Lit.int .i64 a2_2).wf = true → (Lit.int .i64 a3).wf = true → (Lit.int .u8 a4).wf = true → ∃ k, palletlaw13_NodeSends.f k a0_0 a0_1 a0_2 a0_3 a0_4 a1 a2_0 a2_1 a2_2 a3 a4 = some true := by
  intro m0 m1 m2 m3 m4 id p d r start a4 _ _ _ _ _ _ _ hd _ hst ha4
  have hd : W64 d := wf64 hd
  have hb : 0 ≤ Go.bits .and .i64 start 1099511627775 ∧ Go.bits .and .i64 start 1099511627775 ≤ 1099511627775 := by
    have e : Go.bits .and .i64 start 1099511627775 = start % 1099511627776 := by
      have h := wf64 hst
      show IntKind.i64.wrap ((BitVec.ofInt 64 start &&& BitVec.ofInt 64 1099511627775).toNat : Int) = _
      rw [BitVec.toNat_and, show (BitVec.ofInt 64 1099511627775).toNat = 2 ^ 40 - 1 by decide, Nat.and_two_pow_sub_one_eq_mod, BitVec.toNat_ofInt]
      simp only [IntKind.wrap, IntKind.bits, IntKind.signed]
      simp
      omega
    omega
  have hR := wfu8 ha4
  refine ⟨40002, ?_⟩
  unfold palletlaw13_NodeSends.f
  rw [live13, Option.bind_some, if_pos rfl]
  unfold node_New.f
  rw [check13 hd (by decide) (by decide), Option.bind_some]
  by_cases h : Nok m0 m1 m2 m3 m4 id 0 0 0 p d r 0 0 0 0 [] false 0
  case neg => rw [if_neg h, if_neg (by decide), Option.bind_some, if_neg (by decide)]
  rw [if_pos h, if_pos rfl, Option.bind_some, if_pos rfl]
  have ho : Ok m0 m1 m2 m3 m4 := h.1.1
  have hoc : Oc p d r := h.1.2.1
  have hid := h.1.2.2.1
  have ho' := ho
  unfold Ok at ho'
  obtain ⟨id, rfl⟩ : ∃ z : Nat, id = z := ⟨id.toNat, by omega⟩
  obtain ⟨N, rfl⟩ : ∃ z : Nat, m0 = z := ⟨m0.toNat, by omega⟩
  generalize hs : Go.bits .and .i64 start 1099511627775 = s at hb ⊢
  obtain ⟨T, hT1, hT2, hwk⟩ := wake_is (k := 40002) (by decide) hd h hb.1 hb.2
  rw [hwk, Option.bind_some, if_pos rfl]
  dsimp only
  have hRe : ∃ R : Nat, 1 ≤ R ∧ R ≤ 4 ∧ (Int.tmod a4 4 + 1) % 256 = (R : Int) := by
    refine ⟨((Int.tmod a4 4 + 1) % 256).toNat, ?_⟩
    have e : Int.tmod a4 4 = a4 % 4 := Int.tmod_eq_emod_of_nonneg hR.1
    omega
  obtain ⟨R, R1, R4, hRa⟩ := hRe
  have hRN : R * (N + 1) ≤ 4 * 17 := Nat.mul_le_mul R4 (by omega)
  have hRN1 : 1 * (N + 1) ≤ R * (N + 1) := Nat.mul_le_mul_right _ R1
  have htot : wrap64 ((Int.tmod a4 4 + 1) % 256 * wrap64 ((N : Int) + 1)) = ((R * (N + 1) : Nat) : Int) := by
    rw [hRa, show wrap64 ((N : Int) + 1) = ((N + 1 : Nat) : Int) from by rw [Medl.w64 (by omega) (by omega)]; omega, ← Int.natCast_mul, Medl.w64 (by omega) (by omega)]
  rw [htot]
  have hidN : (id : Int) < (N : Int) := hid.2
  have hNok : Nok (N : Int) m1 m2 m3 m4 (id : Int) 1 0 s p d r 0 0 0 0 [] false 0 := by
    refine ⟨⟨ho, hoc, hid, by omega, by omega, hb.1, by unfold Tm; omega⟩, ⟨by omega, fun x hx => absurd hx List.not_mem_nil, by simp only [List.length_nil]; omega, by omega, by omega, by omega⟩, fun z => absurd z (by decide)⟩
  have ht := timer_ln (k := 40000) (now := T) (by decide) hd ho hoc hidN hNok (by omega) (by omega)
  have b2 := dur_small hoc (t := m2) (by omega) (by omega)
  have hlt : (0 : Int) < ((R * (N + 1) : Nat) : Int) := by omega
  rw [l0_step (z := 39999) _ _ T (by decide) (tl2 _ _ _) hT1 hlt rfl ht]
  have e2 : ∀ x : List Act, x.length = 2 → (x.length : Int) = 2 := fun x hx => by rw [hx]; rfl
  rw [e2 _ rfl, acts2 39992 2 0 _ (by decide) (by decide) (by decide), show wrap64 ((0 : Int) + 1) = 1 from by decide +kernel]
  obtain ⟨n, hn⟩ : ∃ n, 1 + 0 * (N + 1) + 0 + n = R * (N + 1) := ⟨R * (N + 1) - 1, by omega⟩
  have hT9 : T ≤ 150000000000000000 := by omega
  have := loop (a4 := a4) (N := N) (R := R) (id := id) hd ho (by omega) R4 hRa n 0 0 0 0 false false T r T (T + dur p d r m2) [⟨3, 0, z42, 2, 0⟩, ⟨1, T + dur p d r m2, z42, 0, 0⟩] 39992 hoc (tl2 2 0 _) (by omega) (by omega) (by rw [if_pos ⟨rfl, rfl⟩]) (by omega) (by unfold lim; omega) (by omega) (fun q => by cases q) (Or.inl ⟨rfl, rfl, rfl, rfl⟩) hn (by omega)
  rw [Nat.mul_zero, show id + 0 + 0 = id from rfl, show 1 + 0 * (N + 1) + 0 = 1 by omega] at this
  exact this
end Go.Proofs.Ytcofclkgfandfaa.Pure
